/- The statements of chapter 1 that speak of the program alone, walked. -/
import Derived.WalkKit
import Derived.KernelRfl
import Derived.RowKit3
import Derived.Deep.LoopGhost
import Derived.Deep.QuietTactic
import Derived.BigQuiet
import Derived.WideLaws
import Derived.Laws.Rows
import Derived.Below
import Derived.Deep.Draws
import Derived.Outline
import Derived.LoopN
import Derived.Handy
import Derived.Laws.Externs
import Derived.Laws.BitsAllLaws
import Derived.Laws.BitsLemmas
import Derived.Deep.DeepCutAuto
import Derived.Deep.CutBlock
import Derived.Deep.RegionHeld3
import Derived.Test.YtphnmolndhnnpaaU4
namespace Go.Proofs.Ytphnmolndhnnpaa
open Go.RowKit
set_option linter.unusedVariables false
set_option linter.unusedSimpArgs false
theorem isU_wf {a0 a1 a2 a3 : Int} (h0 : (Lit.int .u64 a0).wf = true) (h1 : (Lit.int .u64 a1).wf = true) (h2 : (Lit.int .u64 a2).wf = true) (h3 : (Lit.int .u64 a3).wf = true) : ∃ A, A < M256 ∧ a0 = lim A 0 ∧ a1 = lim A 1 ∧ a2 = lim A 2 ∧ a3 = lim A 3 := by
  obtain ⟨p0, q0⟩ := bounds_u64 h0
  obtain ⟨p1, q1⟩ := bounds_u64 h1
  obtain ⟨p2, q2⟩ := bounds_u64 h2
  obtain ⟨p3, q3⟩ := bounds_u64 h3
  obtain ⟨A, h⟩ := isU_ex p0 p1 p2 p3 (by omega) (by omega) (by omega) (by omega)
  exact ⟨A, h.lt, h.lims⟩
theorem addV_comm (A B : Nat) : addV B A = addV A B := by unfold addV; rw [Nat.add_comm]
theorem addE_comm (A B : Nat) : addE B A = addE A B := by unfold addE; rw [Nat.add_comm]
theorem mulV_comm (A B : Nat) : mulV B A = mulV A B := by unfold mulV; rw [Nat.mul_comm]
theorem mulE_comm (A B : Nat) : mulE B A = mulE A B := by unfold mulE; rw [Nat.mul_comm]
theorem zero_test {A : Nat} (h : A < M256) : (lim A 0 == 0 && (lim A 1 == 0 && (lim A 2 == 0 && lim A 3 == 0))) = decide (A = 0) := by
  have hu := isU_lim h
  obtain ⟨p0, p1, p2, p3, q0, q1, q2, q3, v⟩ := hu
  rw [Bool.eq_iff_iff]
  simp only [Bool.and_eq_true, beq_iff_eq, decide_eq_true_eq]
  omega
set_option maxHeartbeats 8000000 in
theorem Uint256Algebra_walk (a0 a1 a2 a3 b0 b1 b2 b3 c0 c1 c2 c3 : Int) (wa0 : (Lit.int .u64 a0).wf = true) (wa1 : (Lit.int .u64 a1).wf = true) (wa2 : (Lit.int .u64 a2).wf = true) (wa3 : (Lit.int .u64 a3).wf = true) (wb0 : (Lit.int .u64 b0).wf = true) (wb1 : (Lit.int .u64 b1).wf = true) (wb2 : (Lit.int .u64 b2).wf = true) (wb3 : (Lit.int .u64 b3).wf = true)
    (wc0 : (Lit.int .u64 c0).wf = true) (wc1 : (Lit.int .u64 c1).wf = true) (wc2 : (Lit.int .u64 c2).wf = true) (wc3 : (Lit.int .u64 c3).wf = true) (w : World) :
    Calls Try.prog 6 #[.agg #[.int .u64 a0, .int .u64 a1, .int .u64 a2, .int .u64 a3], .agg #[.int .u64 b0, .int .u64 b1, .int .u64 b2, .int .u64 b3], .agg #[.int .u64 c0, .int .u64 c1, .int .u64 c2, .int .u64 c3]] w fun e w' => e = .returned (.bool true) ∧ Below w.heap.size w w' := by
  obtain ⟨A, hA, rfl, rfl, rfl, rfl⟩ := isU_wf wa0 wa1 wa2 wa3
  obtain ⟨B, hB, rfl, rfl, rfl, rfl⟩ := isU_wf wb0 wb1 wb2 wb3
  obtain ⟨C, hC, rfl, rfl, rfl, rfl⟩ := isU_wf wc0 wc1 wc2 wc3
  clear wa0 wa1 wa2 wa3 wb0 wb1 wb2 wb3 wc0 wc1 wc2 wc3
  have r1 := addV_comm A B
  have r2 := addE_comm A B
  have r3 := mulV_comm A B
  have r4 := mulE_comm A B
  have HA := hide (isU_lim hA)
  have HB := hide (isU_lim hB)
  have HC := hide (isU_lim hC)
  have HS := hide (isU_lim (addV_lt A B))
  clear hA hB hC
  have l0 := lim_zero 0
  have l1 := lim_zero 1
  have l2 := lim_zero 2
  have l3 := lim_zero 3
  by_cases hM : A * B < M256
  · have g1 : (mulE A B == 0) = true := by rw [mulE, if_pos hM]; rfl
    by_cases hS : A + B < M256
    · have e1 : (addE A B == 0) = true := by rw [addE, if_pos hS]; rfl
      have s0 : addV A B = A + B := by rw [addV, if_pos hS]
      have s1 : subV (addV A B) B = A := by rw [s0, subV, if_neg (by omega)]; omega
      have s2 : (subE (addV A B) B != 0) = false := by rw [s0, subE, if_neg (by omega)]; rfl
      have s3 : decide (cmpV (addV A B) A < 0) = false := by rw [s0]; unfold cmpV; rw [if_neg (by omega)]; split <;> rfl
      by_cases hD : (A + B) * C < M256
      · have d1 : (mulE (addV A B) C == 0) = true := by rw [s0, mulE, if_pos hD]; rfl
        have hAC : A * C < M256 := Nat.lt_of_le_of_lt (Nat.mul_le_mul_right _ (by omega)) hD
        have hBC : B * C < M256 := Nat.lt_of_le_of_lt (Nat.mul_le_mul_right _ (by omega)) hD
        have hsum : A * C + B * C = (A + B) * C := (Nat.add_mul A B C).symm
        have d2 : (mulE A C != 0) = false := by rw [mulE, if_pos hAC]; rfl
        have d3 : (mulE B C != 0) = false := by rw [mulE, if_pos hBC]; rfl
        have d4 : (addE (mulV A C) (mulV B C) != 0) = false := by rw [mulV, mulV, if_pos hAC, if_pos hBC, addE, hsum, if_pos hD]; rfl
        have d5 : addV (mulV A C) (mulV B C) = mulV (addV A B) C := by rw [s0, mulV, mulV, mulV, if_pos hAC, if_pos hBC, if_pos hD, addV, hsum, if_pos hD]
        have HM1 := hide (isU_lim (mulV_lt A C))
        have HM2 := hide (isU_lim (mulV_lt B C))
        clear hM hS hD hAC hBC hsum s0
        go_enter Try.func6, Try.ntmps6
        go_wp2_with fail
        refine (add_c HA.out HB.out _).mono ?_
        rintro e w1 ⟨rfl, hb1⟩
        have hs1 := hb1.size
        try simp only [World.size_alloc, World.size_setCell, World.size_drew, size_drewN] at hs1
        have hc1_0 : ∀ o, w1.cell? ⟨w.heap.size, o, none⟩ = _ := fun o => hb1.cell (p := ⟨w.heap.size, o, none⟩) (by ((try simp only [World.size_alloc, World.size_setCell, World.size_drew, size_drewN]); omega))
        have hf1_0 : ∀ o, w1.frozen? ⟨w.heap.size, o, none⟩ = _ := fun o => hb1.frozen (p := ⟨w.heap.size, o, none⟩) (by ((try simp only [World.size_alloc, World.size_setCell, World.size_drew, size_drewN]); omega))
        have z1_0 : w.heap.size < w1.heap.size := (by omega)
        have hc1_1 : ∀ o, w1.cell? ⟨w.heap.size + 1, o, none⟩ = _ := fun o => hb1.cell (p := ⟨w.heap.size + 1, o, none⟩) (by ((try simp only [World.size_alloc, World.size_setCell, World.size_drew, size_drewN]); omega))
        have hf1_1 : ∀ o, w1.frozen? ⟨w.heap.size + 1, o, none⟩ = _ := fun o => hb1.frozen (p := ⟨w.heap.size + 1, o, none⟩) (by ((try simp only [World.size_alloc, World.size_setCell, World.size_drew, size_drewN]); omega))
        have z1_1 : w.heap.size + 1 < w1.heap.size := (by omega)
        have hc1_2 : ∀ o, w1.cell? ⟨w.heap.size + 1 + 1, o, none⟩ = _ := fun o => hb1.cell (p := ⟨w.heap.size + 1 + 1, o, none⟩) (by ((try simp only [World.size_alloc, World.size_setCell, World.size_drew, size_drewN]); omega))
        have hf1_2 : ∀ o, w1.frozen? ⟨w.heap.size + 1 + 1, o, none⟩ = _ := fun o => hb1.frozen (p := ⟨w.heap.size + 1 + 1, o, none⟩) (by ((try simp only [World.size_alloc, World.size_setCell, World.size_drew, size_drewN]); omega))
        have z1_2 : w.heap.size + 1 + 1 < w1.heap.size := (by omega)
        go_wp2_with fail
        refine (add_c HB.out HA.out _).mono ?_
        rintro e w2 ⟨rfl, hb2⟩
        have hs2 := hb2.size
        try simp only [World.size_alloc, World.size_setCell, World.size_drew, size_drewN] at hs2
        have hc2_0 : ∀ o, w2.cell? ⟨w.heap.size, o, none⟩ = _ := fun o => hb2.cell (p := ⟨w.heap.size, o, none⟩) (by ((try simp only [World.size_alloc, World.size_setCell, World.size_drew, size_drewN]); omega))
        have hf2_0 : ∀ o, w2.frozen? ⟨w.heap.size, o, none⟩ = _ := fun o => hb2.frozen (p := ⟨w.heap.size, o, none⟩) (by ((try simp only [World.size_alloc, World.size_setCell, World.size_drew, size_drewN]); omega))
        have z2_0 : w.heap.size < w2.heap.size := (by omega)
        have hc2_1 : ∀ o, w2.cell? ⟨w.heap.size + 1, o, none⟩ = _ := fun o => hb2.cell (p := ⟨w.heap.size + 1, o, none⟩) (by ((try simp only [World.size_alloc, World.size_setCell, World.size_drew, size_drewN]); omega))
        have hf2_1 : ∀ o, w2.frozen? ⟨w.heap.size + 1, o, none⟩ = _ := fun o => hb2.frozen (p := ⟨w.heap.size + 1, o, none⟩) (by ((try simp only [World.size_alloc, World.size_setCell, World.size_drew, size_drewN]); omega))
        have z2_1 : w.heap.size + 1 < w2.heap.size := (by omega)
        have hc2_2 : ∀ o, w2.cell? ⟨w.heap.size + 1 + 1, o, none⟩ = _ := fun o => hb2.cell (p := ⟨w.heap.size + 1 + 1, o, none⟩) (by ((try simp only [World.size_alloc, World.size_setCell, World.size_drew, size_drewN]); omega))
        have hf2_2 : ∀ o, w2.frozen? ⟨w.heap.size + 1 + 1, o, none⟩ = _ := fun o => hb2.frozen (p := ⟨w.heap.size + 1 + 1, o, none⟩) (by ((try simp only [World.size_alloc, World.size_setCell, World.size_drew, size_drewN]); omega))
        have z2_2 : w.heap.size + 1 + 1 < w2.heap.size := (by omega)
        have hc2_3 : ∀ o, w2.cell? ⟨w1.heap.size, o, none⟩ = _ := fun o => hb2.cell (p := ⟨w1.heap.size, o, none⟩) (by ((try simp only [World.size_alloc, World.size_setCell, World.size_drew, size_drewN]); omega))
        have hf2_3 : ∀ o, w2.frozen? ⟨w1.heap.size, o, none⟩ = _ := fun o => hb2.frozen (p := ⟨w1.heap.size, o, none⟩) (by ((try simp only [World.size_alloc, World.size_setCell, World.size_drew, size_drewN]); omega))
        have z2_3 : w1.heap.size < w2.heap.size := (by omega)
        go_wp2_with fail
        refine (mul_c HA.out HB.out _).mono ?_
        rintro e w3 ⟨rfl, hb3⟩
        have hs3 := hb3.size
        try simp only [World.size_alloc, World.size_setCell, World.size_drew, size_drewN] at hs3
        have hc3_0 : ∀ o, w3.cell? ⟨w.heap.size, o, none⟩ = _ := fun o => hb3.cell (p := ⟨w.heap.size, o, none⟩) (by ((try simp only [World.size_alloc, World.size_setCell, World.size_drew, size_drewN]); omega))
        have hf3_0 : ∀ o, w3.frozen? ⟨w.heap.size, o, none⟩ = _ := fun o => hb3.frozen (p := ⟨w.heap.size, o, none⟩) (by ((try simp only [World.size_alloc, World.size_setCell, World.size_drew, size_drewN]); omega))
        have z3_0 : w.heap.size < w3.heap.size := (by omega)
        have hc3_1 : ∀ o, w3.cell? ⟨w.heap.size + 1, o, none⟩ = _ := fun o => hb3.cell (p := ⟨w.heap.size + 1, o, none⟩) (by ((try simp only [World.size_alloc, World.size_setCell, World.size_drew, size_drewN]); omega))
        have hf3_1 : ∀ o, w3.frozen? ⟨w.heap.size + 1, o, none⟩ = _ := fun o => hb3.frozen (p := ⟨w.heap.size + 1, o, none⟩) (by ((try simp only [World.size_alloc, World.size_setCell, World.size_drew, size_drewN]); omega))
        have z3_1 : w.heap.size + 1 < w3.heap.size := (by omega)
        have hc3_2 : ∀ o, w3.cell? ⟨w.heap.size + 1 + 1, o, none⟩ = _ := fun o => hb3.cell (p := ⟨w.heap.size + 1 + 1, o, none⟩) (by ((try simp only [World.size_alloc, World.size_setCell, World.size_drew, size_drewN]); omega))
        have hf3_2 : ∀ o, w3.frozen? ⟨w.heap.size + 1 + 1, o, none⟩ = _ := fun o => hb3.frozen (p := ⟨w.heap.size + 1 + 1, o, none⟩) (by ((try simp only [World.size_alloc, World.size_setCell, World.size_drew, size_drewN]); omega))
        have z3_2 : w.heap.size + 1 + 1 < w3.heap.size := (by omega)
        have hc3_3 : ∀ o, w3.cell? ⟨w1.heap.size, o, none⟩ = _ := fun o => hb3.cell (p := ⟨w1.heap.size, o, none⟩) (by ((try simp only [World.size_alloc, World.size_setCell, World.size_drew, size_drewN]); omega))
        have hf3_3 : ∀ o, w3.frozen? ⟨w1.heap.size, o, none⟩ = _ := fun o => hb3.frozen (p := ⟨w1.heap.size, o, none⟩) (by ((try simp only [World.size_alloc, World.size_setCell, World.size_drew, size_drewN]); omega))
        have z3_3 : w1.heap.size < w3.heap.size := (by omega)
        have hc3_4 : ∀ o, w3.cell? ⟨w2.heap.size, o, none⟩ = _ := fun o => hb3.cell (p := ⟨w2.heap.size, o, none⟩) (by ((try simp only [World.size_alloc, World.size_setCell, World.size_drew, size_drewN]); omega))
        have hf3_4 : ∀ o, w3.frozen? ⟨w2.heap.size, o, none⟩ = _ := fun o => hb3.frozen (p := ⟨w2.heap.size, o, none⟩) (by ((try simp only [World.size_alloc, World.size_setCell, World.size_drew, size_drewN]); omega))
        have z3_4 : w2.heap.size < w3.heap.size := (by omega)
        go_wp2_with fail
        refine (mul_c HB.out HA.out _).mono ?_
        rintro e w4 ⟨rfl, hb4⟩
        have hs4 := hb4.size
        try simp only [World.size_alloc, World.size_setCell, World.size_drew, size_drewN] at hs4
        have hc4_0 : ∀ o, w4.cell? ⟨w.heap.size, o, none⟩ = _ := fun o => hb4.cell (p := ⟨w.heap.size, o, none⟩) (by ((try simp only [World.size_alloc, World.size_setCell, World.size_drew, size_drewN]); omega))
        have hf4_0 : ∀ o, w4.frozen? ⟨w.heap.size, o, none⟩ = _ := fun o => hb4.frozen (p := ⟨w.heap.size, o, none⟩) (by ((try simp only [World.size_alloc, World.size_setCell, World.size_drew, size_drewN]); omega))
        have z4_0 : w.heap.size < w4.heap.size := (by omega)
        have hc4_1 : ∀ o, w4.cell? ⟨w.heap.size + 1, o, none⟩ = _ := fun o => hb4.cell (p := ⟨w.heap.size + 1, o, none⟩) (by ((try simp only [World.size_alloc, World.size_setCell, World.size_drew, size_drewN]); omega))
        have hf4_1 : ∀ o, w4.frozen? ⟨w.heap.size + 1, o, none⟩ = _ := fun o => hb4.frozen (p := ⟨w.heap.size + 1, o, none⟩) (by ((try simp only [World.size_alloc, World.size_setCell, World.size_drew, size_drewN]); omega))
        have z4_1 : w.heap.size + 1 < w4.heap.size := (by omega)
        have hc4_2 : ∀ o, w4.cell? ⟨w.heap.size + 1 + 1, o, none⟩ = _ := fun o => hb4.cell (p := ⟨w.heap.size + 1 + 1, o, none⟩) (by ((try simp only [World.size_alloc, World.size_setCell, World.size_drew, size_drewN]); omega))
        have hf4_2 : ∀ o, w4.frozen? ⟨w.heap.size + 1 + 1, o, none⟩ = _ := fun o => hb4.frozen (p := ⟨w.heap.size + 1 + 1, o, none⟩) (by ((try simp only [World.size_alloc, World.size_setCell, World.size_drew, size_drewN]); omega))
        have z4_2 : w.heap.size + 1 + 1 < w4.heap.size := (by omega)
        have hc4_3 : ∀ o, w4.cell? ⟨w1.heap.size, o, none⟩ = _ := fun o => hb4.cell (p := ⟨w1.heap.size, o, none⟩) (by ((try simp only [World.size_alloc, World.size_setCell, World.size_drew, size_drewN]); omega))
        have hf4_3 : ∀ o, w4.frozen? ⟨w1.heap.size, o, none⟩ = _ := fun o => hb4.frozen (p := ⟨w1.heap.size, o, none⟩) (by ((try simp only [World.size_alloc, World.size_setCell, World.size_drew, size_drewN]); omega))
        have z4_3 : w1.heap.size < w4.heap.size := (by omega)
        have hc4_4 : ∀ o, w4.cell? ⟨w2.heap.size, o, none⟩ = _ := fun o => hb4.cell (p := ⟨w2.heap.size, o, none⟩) (by ((try simp only [World.size_alloc, World.size_setCell, World.size_drew, size_drewN]); omega))
        have hf4_4 : ∀ o, w4.frozen? ⟨w2.heap.size, o, none⟩ = _ := fun o => hb4.frozen (p := ⟨w2.heap.size, o, none⟩) (by ((try simp only [World.size_alloc, World.size_setCell, World.size_drew, size_drewN]); omega))
        have z4_4 : w2.heap.size < w4.heap.size := (by omega)
        have hc4_5 : ∀ o, w4.cell? ⟨w3.heap.size, o, none⟩ = _ := fun o => hb4.cell (p := ⟨w3.heap.size, o, none⟩) (by ((try simp only [World.size_alloc, World.size_setCell, World.size_drew, size_drewN]); omega))
        have hf4_5 : ∀ o, w4.frozen? ⟨w3.heap.size, o, none⟩ = _ := fun o => hb4.frozen (p := ⟨w3.heap.size, o, none⟩) (by ((try simp only [World.size_alloc, World.size_setCell, World.size_drew, size_drewN]); omega))
        have z4_5 : w3.heap.size < w4.heap.size := (by omega)
        go_wp2_with fail
        refine (sub_c HS.out HB.out _).mono ?_
        rintro e w5 ⟨rfl, hb5⟩
        have hs5 := hb5.size
        try simp only [World.size_alloc, World.size_setCell, World.size_drew, size_drewN] at hs5
        have hc5_0 : ∀ o, w5.cell? ⟨w.heap.size, o, none⟩ = _ := fun o => hb5.cell (p := ⟨w.heap.size, o, none⟩) (by ((try simp only [World.size_alloc, World.size_setCell, World.size_drew, size_drewN]); omega))
        have hf5_0 : ∀ o, w5.frozen? ⟨w.heap.size, o, none⟩ = _ := fun o => hb5.frozen (p := ⟨w.heap.size, o, none⟩) (by ((try simp only [World.size_alloc, World.size_setCell, World.size_drew, size_drewN]); omega))
        have z5_0 : w.heap.size < w5.heap.size := (by omega)
        have hc5_1 : ∀ o, w5.cell? ⟨w.heap.size + 1, o, none⟩ = _ := fun o => hb5.cell (p := ⟨w.heap.size + 1, o, none⟩) (by ((try simp only [World.size_alloc, World.size_setCell, World.size_drew, size_drewN]); omega))
        have hf5_1 : ∀ o, w5.frozen? ⟨w.heap.size + 1, o, none⟩ = _ := fun o => hb5.frozen (p := ⟨w.heap.size + 1, o, none⟩) (by ((try simp only [World.size_alloc, World.size_setCell, World.size_drew, size_drewN]); omega))
        have z5_1 : w.heap.size + 1 < w5.heap.size := (by omega)
        have hc5_2 : ∀ o, w5.cell? ⟨w.heap.size + 1 + 1, o, none⟩ = _ := fun o => hb5.cell (p := ⟨w.heap.size + 1 + 1, o, none⟩) (by ((try simp only [World.size_alloc, World.size_setCell, World.size_drew, size_drewN]); omega))
        have hf5_2 : ∀ o, w5.frozen? ⟨w.heap.size + 1 + 1, o, none⟩ = _ := fun o => hb5.frozen (p := ⟨w.heap.size + 1 + 1, o, none⟩) (by ((try simp only [World.size_alloc, World.size_setCell, World.size_drew, size_drewN]); omega))
        have z5_2 : w.heap.size + 1 + 1 < w5.heap.size := (by omega)
        have hc5_3 : ∀ o, w5.cell? ⟨w1.heap.size, o, none⟩ = _ := fun o => hb5.cell (p := ⟨w1.heap.size, o, none⟩) (by ((try simp only [World.size_alloc, World.size_setCell, World.size_drew, size_drewN]); omega))
        have hf5_3 : ∀ o, w5.frozen? ⟨w1.heap.size, o, none⟩ = _ := fun o => hb5.frozen (p := ⟨w1.heap.size, o, none⟩) (by ((try simp only [World.size_alloc, World.size_setCell, World.size_drew, size_drewN]); omega))
        have z5_3 : w1.heap.size < w5.heap.size := (by omega)
        have hc5_4 : ∀ o, w5.cell? ⟨w2.heap.size, o, none⟩ = _ := fun o => hb5.cell (p := ⟨w2.heap.size, o, none⟩) (by ((try simp only [World.size_alloc, World.size_setCell, World.size_drew, size_drewN]); omega))
        have hf5_4 : ∀ o, w5.frozen? ⟨w2.heap.size, o, none⟩ = _ := fun o => hb5.frozen (p := ⟨w2.heap.size, o, none⟩) (by ((try simp only [World.size_alloc, World.size_setCell, World.size_drew, size_drewN]); omega))
        have z5_4 : w2.heap.size < w5.heap.size := (by omega)
        have hc5_5 : ∀ o, w5.cell? ⟨w3.heap.size, o, none⟩ = _ := fun o => hb5.cell (p := ⟨w3.heap.size, o, none⟩) (by ((try simp only [World.size_alloc, World.size_setCell, World.size_drew, size_drewN]); omega))
        have hf5_5 : ∀ o, w5.frozen? ⟨w3.heap.size, o, none⟩ = _ := fun o => hb5.frozen (p := ⟨w3.heap.size, o, none⟩) (by ((try simp only [World.size_alloc, World.size_setCell, World.size_drew, size_drewN]); omega))
        have z5_5 : w3.heap.size < w5.heap.size := (by omega)
        have hc5_6 : ∀ o, w5.cell? ⟨w4.heap.size, o, none⟩ = _ := fun o => hb5.cell (p := ⟨w4.heap.size, o, none⟩) (by ((try simp only [World.size_alloc, World.size_setCell, World.size_drew, size_drewN]); omega))
        have hf5_6 : ∀ o, w5.frozen? ⟨w4.heap.size, o, none⟩ = _ := fun o => hb5.frozen (p := ⟨w4.heap.size, o, none⟩) (by ((try simp only [World.size_alloc, World.size_setCell, World.size_drew, size_drewN]); omega))
        have z5_6 : w4.heap.size < w5.heap.size := (by omega)
        go_wp2_with fail
        refine (cmp_c HS.out HA.out _).mono ?_
        rintro e w6 ⟨rfl, hb6⟩
        have hs6 := hb6.size
        try simp only [World.size_alloc, World.size_setCell, World.size_drew, size_drewN] at hs6
        have hc6_0 : ∀ o, w6.cell? ⟨w.heap.size, o, none⟩ = _ := fun o => hb6.cell (p := ⟨w.heap.size, o, none⟩) (by ((try simp only [World.size_alloc, World.size_setCell, World.size_drew, size_drewN]); omega))
        have hf6_0 : ∀ o, w6.frozen? ⟨w.heap.size, o, none⟩ = _ := fun o => hb6.frozen (p := ⟨w.heap.size, o, none⟩) (by ((try simp only [World.size_alloc, World.size_setCell, World.size_drew, size_drewN]); omega))
        have z6_0 : w.heap.size < w6.heap.size := (by omega)
        have hc6_1 : ∀ o, w6.cell? ⟨w.heap.size + 1, o, none⟩ = _ := fun o => hb6.cell (p := ⟨w.heap.size + 1, o, none⟩) (by ((try simp only [World.size_alloc, World.size_setCell, World.size_drew, size_drewN]); omega))
        have hf6_1 : ∀ o, w6.frozen? ⟨w.heap.size + 1, o, none⟩ = _ := fun o => hb6.frozen (p := ⟨w.heap.size + 1, o, none⟩) (by ((try simp only [World.size_alloc, World.size_setCell, World.size_drew, size_drewN]); omega))
        have z6_1 : w.heap.size + 1 < w6.heap.size := (by omega)
        have hc6_2 : ∀ o, w6.cell? ⟨w.heap.size + 1 + 1, o, none⟩ = _ := fun o => hb6.cell (p := ⟨w.heap.size + 1 + 1, o, none⟩) (by ((try simp only [World.size_alloc, World.size_setCell, World.size_drew, size_drewN]); omega))
        have hf6_2 : ∀ o, w6.frozen? ⟨w.heap.size + 1 + 1, o, none⟩ = _ := fun o => hb6.frozen (p := ⟨w.heap.size + 1 + 1, o, none⟩) (by ((try simp only [World.size_alloc, World.size_setCell, World.size_drew, size_drewN]); omega))
        have z6_2 : w.heap.size + 1 + 1 < w6.heap.size := (by omega)
        have hc6_3 : ∀ o, w6.cell? ⟨w1.heap.size, o, none⟩ = _ := fun o => hb6.cell (p := ⟨w1.heap.size, o, none⟩) (by ((try simp only [World.size_alloc, World.size_setCell, World.size_drew, size_drewN]); omega))
        have hf6_3 : ∀ o, w6.frozen? ⟨w1.heap.size, o, none⟩ = _ := fun o => hb6.frozen (p := ⟨w1.heap.size, o, none⟩) (by ((try simp only [World.size_alloc, World.size_setCell, World.size_drew, size_drewN]); omega))
        have z6_3 : w1.heap.size < w6.heap.size := (by omega)
        have hc6_4 : ∀ o, w6.cell? ⟨w2.heap.size, o, none⟩ = _ := fun o => hb6.cell (p := ⟨w2.heap.size, o, none⟩) (by ((try simp only [World.size_alloc, World.size_setCell, World.size_drew, size_drewN]); omega))
        have hf6_4 : ∀ o, w6.frozen? ⟨w2.heap.size, o, none⟩ = _ := fun o => hb6.frozen (p := ⟨w2.heap.size, o, none⟩) (by ((try simp only [World.size_alloc, World.size_setCell, World.size_drew, size_drewN]); omega))
        have z6_4 : w2.heap.size < w6.heap.size := (by omega)
        have hc6_5 : ∀ o, w6.cell? ⟨w3.heap.size, o, none⟩ = _ := fun o => hb6.cell (p := ⟨w3.heap.size, o, none⟩) (by ((try simp only [World.size_alloc, World.size_setCell, World.size_drew, size_drewN]); omega))
        have hf6_5 : ∀ o, w6.frozen? ⟨w3.heap.size, o, none⟩ = _ := fun o => hb6.frozen (p := ⟨w3.heap.size, o, none⟩) (by ((try simp only [World.size_alloc, World.size_setCell, World.size_drew, size_drewN]); omega))
        have z6_5 : w3.heap.size < w6.heap.size := (by omega)
        have hc6_6 : ∀ o, w6.cell? ⟨w4.heap.size, o, none⟩ = _ := fun o => hb6.cell (p := ⟨w4.heap.size, o, none⟩) (by ((try simp only [World.size_alloc, World.size_setCell, World.size_drew, size_drewN]); omega))
        have hf6_6 : ∀ o, w6.frozen? ⟨w4.heap.size, o, none⟩ = _ := fun o => hb6.frozen (p := ⟨w4.heap.size, o, none⟩) (by ((try simp only [World.size_alloc, World.size_setCell, World.size_drew, size_drewN]); omega))
        have z6_6 : w4.heap.size < w6.heap.size := (by omega)
        have hc6_7 : ∀ o, w6.cell? ⟨w5.heap.size, o, none⟩ = _ := fun o => hb6.cell (p := ⟨w5.heap.size, o, none⟩) (by ((try simp only [World.size_alloc, World.size_setCell, World.size_drew, size_drewN]); omega))
        have hf6_7 : ∀ o, w6.frozen? ⟨w5.heap.size, o, none⟩ = _ := fun o => hb6.frozen (p := ⟨w5.heap.size, o, none⟩) (by ((try simp only [World.size_alloc, World.size_setCell, World.size_drew, size_drewN]); omega))
        have z6_7 : w5.heap.size < w6.heap.size := (by omega)
        go_wp2_with fail
        refine (mul_c HS.out HC.out _).mono ?_
        rintro e w7 ⟨rfl, hb7⟩
        have hs7 := hb7.size
        try simp only [World.size_alloc, World.size_setCell, World.size_drew, size_drewN] at hs7
        have hc7_0 : ∀ o, w7.cell? ⟨w.heap.size, o, none⟩ = _ := fun o => hb7.cell (p := ⟨w.heap.size, o, none⟩) (by ((try simp only [World.size_alloc, World.size_setCell, World.size_drew, size_drewN]); omega))
        have hf7_0 : ∀ o, w7.frozen? ⟨w.heap.size, o, none⟩ = _ := fun o => hb7.frozen (p := ⟨w.heap.size, o, none⟩) (by ((try simp only [World.size_alloc, World.size_setCell, World.size_drew, size_drewN]); omega))
        have z7_0 : w.heap.size < w7.heap.size := (by omega)
        have hc7_1 : ∀ o, w7.cell? ⟨w.heap.size + 1, o, none⟩ = _ := fun o => hb7.cell (p := ⟨w.heap.size + 1, o, none⟩) (by ((try simp only [World.size_alloc, World.size_setCell, World.size_drew, size_drewN]); omega))
        have hf7_1 : ∀ o, w7.frozen? ⟨w.heap.size + 1, o, none⟩ = _ := fun o => hb7.frozen (p := ⟨w.heap.size + 1, o, none⟩) (by ((try simp only [World.size_alloc, World.size_setCell, World.size_drew, size_drewN]); omega))
        have z7_1 : w.heap.size + 1 < w7.heap.size := (by omega)
        have hc7_2 : ∀ o, w7.cell? ⟨w.heap.size + 1 + 1, o, none⟩ = _ := fun o => hb7.cell (p := ⟨w.heap.size + 1 + 1, o, none⟩) (by ((try simp only [World.size_alloc, World.size_setCell, World.size_drew, size_drewN]); omega))
        have hf7_2 : ∀ o, w7.frozen? ⟨w.heap.size + 1 + 1, o, none⟩ = _ := fun o => hb7.frozen (p := ⟨w.heap.size + 1 + 1, o, none⟩) (by ((try simp only [World.size_alloc, World.size_setCell, World.size_drew, size_drewN]); omega))
        have z7_2 : w.heap.size + 1 + 1 < w7.heap.size := (by omega)
        have hc7_3 : ∀ o, w7.cell? ⟨w1.heap.size, o, none⟩ = _ := fun o => hb7.cell (p := ⟨w1.heap.size, o, none⟩) (by ((try simp only [World.size_alloc, World.size_setCell, World.size_drew, size_drewN]); omega))
        have hf7_3 : ∀ o, w7.frozen? ⟨w1.heap.size, o, none⟩ = _ := fun o => hb7.frozen (p := ⟨w1.heap.size, o, none⟩) (by ((try simp only [World.size_alloc, World.size_setCell, World.size_drew, size_drewN]); omega))
        have z7_3 : w1.heap.size < w7.heap.size := (by omega)
        have hc7_4 : ∀ o, w7.cell? ⟨w2.heap.size, o, none⟩ = _ := fun o => hb7.cell (p := ⟨w2.heap.size, o, none⟩) (by ((try simp only [World.size_alloc, World.size_setCell, World.size_drew, size_drewN]); omega))
        have hf7_4 : ∀ o, w7.frozen? ⟨w2.heap.size, o, none⟩ = _ := fun o => hb7.frozen (p := ⟨w2.heap.size, o, none⟩) (by ((try simp only [World.size_alloc, World.size_setCell, World.size_drew, size_drewN]); omega))
        have z7_4 : w2.heap.size < w7.heap.size := (by omega)
        have hc7_5 : ∀ o, w7.cell? ⟨w3.heap.size, o, none⟩ = _ := fun o => hb7.cell (p := ⟨w3.heap.size, o, none⟩) (by ((try simp only [World.size_alloc, World.size_setCell, World.size_drew, size_drewN]); omega))
        have hf7_5 : ∀ o, w7.frozen? ⟨w3.heap.size, o, none⟩ = _ := fun o => hb7.frozen (p := ⟨w3.heap.size, o, none⟩) (by ((try simp only [World.size_alloc, World.size_setCell, World.size_drew, size_drewN]); omega))
        have z7_5 : w3.heap.size < w7.heap.size := (by omega)
        have hc7_6 : ∀ o, w7.cell? ⟨w4.heap.size, o, none⟩ = _ := fun o => hb7.cell (p := ⟨w4.heap.size, o, none⟩) (by ((try simp only [World.size_alloc, World.size_setCell, World.size_drew, size_drewN]); omega))
        have hf7_6 : ∀ o, w7.frozen? ⟨w4.heap.size, o, none⟩ = _ := fun o => hb7.frozen (p := ⟨w4.heap.size, o, none⟩) (by ((try simp only [World.size_alloc, World.size_setCell, World.size_drew, size_drewN]); omega))
        have z7_6 : w4.heap.size < w7.heap.size := (by omega)
        have hc7_7 : ∀ o, w7.cell? ⟨w5.heap.size, o, none⟩ = _ := fun o => hb7.cell (p := ⟨w5.heap.size, o, none⟩) (by ((try simp only [World.size_alloc, World.size_setCell, World.size_drew, size_drewN]); omega))
        have hf7_7 : ∀ o, w7.frozen? ⟨w5.heap.size, o, none⟩ = _ := fun o => hb7.frozen (p := ⟨w5.heap.size, o, none⟩) (by ((try simp only [World.size_alloc, World.size_setCell, World.size_drew, size_drewN]); omega))
        have z7_7 : w5.heap.size < w7.heap.size := (by omega)
        go_wp2_with fail
        refine (mul_c HA.out HC.out _).mono ?_
        rintro e w8 ⟨rfl, hb8⟩
        have hs8 := hb8.size
        try simp only [World.size_alloc, World.size_setCell, World.size_drew, size_drewN] at hs8
        have hc8_0 : ∀ o, w8.cell? ⟨w.heap.size, o, none⟩ = _ := fun o => hb8.cell (p := ⟨w.heap.size, o, none⟩) (by ((try simp only [World.size_alloc, World.size_setCell, World.size_drew, size_drewN]); omega))
        have hf8_0 : ∀ o, w8.frozen? ⟨w.heap.size, o, none⟩ = _ := fun o => hb8.frozen (p := ⟨w.heap.size, o, none⟩) (by ((try simp only [World.size_alloc, World.size_setCell, World.size_drew, size_drewN]); omega))
        have z8_0 : w.heap.size < w8.heap.size := (by omega)
        have hc8_1 : ∀ o, w8.cell? ⟨w.heap.size + 1, o, none⟩ = _ := fun o => hb8.cell (p := ⟨w.heap.size + 1, o, none⟩) (by ((try simp only [World.size_alloc, World.size_setCell, World.size_drew, size_drewN]); omega))
        have hf8_1 : ∀ o, w8.frozen? ⟨w.heap.size + 1, o, none⟩ = _ := fun o => hb8.frozen (p := ⟨w.heap.size + 1, o, none⟩) (by ((try simp only [World.size_alloc, World.size_setCell, World.size_drew, size_drewN]); omega))
        have z8_1 : w.heap.size + 1 < w8.heap.size := (by omega)
        have hc8_2 : ∀ o, w8.cell? ⟨w.heap.size + 1 + 1, o, none⟩ = _ := fun o => hb8.cell (p := ⟨w.heap.size + 1 + 1, o, none⟩) (by ((try simp only [World.size_alloc, World.size_setCell, World.size_drew, size_drewN]); omega))
        have hf8_2 : ∀ o, w8.frozen? ⟨w.heap.size + 1 + 1, o, none⟩ = _ := fun o => hb8.frozen (p := ⟨w.heap.size + 1 + 1, o, none⟩) (by ((try simp only [World.size_alloc, World.size_setCell, World.size_drew, size_drewN]); omega))
        have z8_2 : w.heap.size + 1 + 1 < w8.heap.size := (by omega)
        have hc8_3 : ∀ o, w8.cell? ⟨w1.heap.size, o, none⟩ = _ := fun o => hb8.cell (p := ⟨w1.heap.size, o, none⟩) (by ((try simp only [World.size_alloc, World.size_setCell, World.size_drew, size_drewN]); omega))
        have hf8_3 : ∀ o, w8.frozen? ⟨w1.heap.size, o, none⟩ = _ := fun o => hb8.frozen (p := ⟨w1.heap.size, o, none⟩) (by ((try simp only [World.size_alloc, World.size_setCell, World.size_drew, size_drewN]); omega))
        have z8_3 : w1.heap.size < w8.heap.size := (by omega)
        have hc8_4 : ∀ o, w8.cell? ⟨w2.heap.size, o, none⟩ = _ := fun o => hb8.cell (p := ⟨w2.heap.size, o, none⟩) (by ((try simp only [World.size_alloc, World.size_setCell, World.size_drew, size_drewN]); omega))
        have hf8_4 : ∀ o, w8.frozen? ⟨w2.heap.size, o, none⟩ = _ := fun o => hb8.frozen (p := ⟨w2.heap.size, o, none⟩) (by ((try simp only [World.size_alloc, World.size_setCell, World.size_drew, size_drewN]); omega))
        have z8_4 : w2.heap.size < w8.heap.size := (by omega)
        have hc8_5 : ∀ o, w8.cell? ⟨w3.heap.size, o, none⟩ = _ := fun o => hb8.cell (p := ⟨w3.heap.size, o, none⟩) (by ((try simp only [World.size_alloc, World.size_setCell, World.size_drew, size_drewN]); omega))
        have hf8_5 : ∀ o, w8.frozen? ⟨w3.heap.size, o, none⟩ = _ := fun o => hb8.frozen (p := ⟨w3.heap.size, o, none⟩) (by ((try simp only [World.size_alloc, World.size_setCell, World.size_drew, size_drewN]); omega))
        have z8_5 : w3.heap.size < w8.heap.size := (by omega)
        have hc8_6 : ∀ o, w8.cell? ⟨w4.heap.size, o, none⟩ = _ := fun o => hb8.cell (p := ⟨w4.heap.size, o, none⟩) (by ((try simp only [World.size_alloc, World.size_setCell, World.size_drew, size_drewN]); omega))
        have hf8_6 : ∀ o, w8.frozen? ⟨w4.heap.size, o, none⟩ = _ := fun o => hb8.frozen (p := ⟨w4.heap.size, o, none⟩) (by ((try simp only [World.size_alloc, World.size_setCell, World.size_drew, size_drewN]); omega))
        have z8_6 : w4.heap.size < w8.heap.size := (by omega)
        have hc8_7 : ∀ o, w8.cell? ⟨w5.heap.size, o, none⟩ = _ := fun o => hb8.cell (p := ⟨w5.heap.size, o, none⟩) (by ((try simp only [World.size_alloc, World.size_setCell, World.size_drew, size_drewN]); omega))
        have hf8_7 : ∀ o, w8.frozen? ⟨w5.heap.size, o, none⟩ = _ := fun o => hb8.frozen (p := ⟨w5.heap.size, o, none⟩) (by ((try simp only [World.size_alloc, World.size_setCell, World.size_drew, size_drewN]); omega))
        have z8_7 : w5.heap.size < w8.heap.size := (by omega)
        have hc8_8 : ∀ o, w8.cell? ⟨w7.heap.size, o, none⟩ = _ := fun o => hb8.cell (p := ⟨w7.heap.size, o, none⟩) (by ((try simp only [World.size_alloc, World.size_setCell, World.size_drew, size_drewN]); omega))
        have hf8_8 : ∀ o, w8.frozen? ⟨w7.heap.size, o, none⟩ = _ := fun o => hb8.frozen (p := ⟨w7.heap.size, o, none⟩) (by ((try simp only [World.size_alloc, World.size_setCell, World.size_drew, size_drewN]); omega))
        have z8_8 : w7.heap.size < w8.heap.size := (by omega)
        go_wp2_with fail
        refine (mul_c HB.out HC.out _).mono ?_
        rintro e w9 ⟨rfl, hb9⟩
        have hs9 := hb9.size
        try simp only [World.size_alloc, World.size_setCell, World.size_drew, size_drewN] at hs9
        have hc9_0 : ∀ o, w9.cell? ⟨w.heap.size, o, none⟩ = _ := fun o => hb9.cell (p := ⟨w.heap.size, o, none⟩) (by ((try simp only [World.size_alloc, World.size_setCell, World.size_drew, size_drewN]); omega))
        have hf9_0 : ∀ o, w9.frozen? ⟨w.heap.size, o, none⟩ = _ := fun o => hb9.frozen (p := ⟨w.heap.size, o, none⟩) (by ((try simp only [World.size_alloc, World.size_setCell, World.size_drew, size_drewN]); omega))
        have z9_0 : w.heap.size < w9.heap.size := (by omega)
        have hc9_1 : ∀ o, w9.cell? ⟨w.heap.size + 1, o, none⟩ = _ := fun o => hb9.cell (p := ⟨w.heap.size + 1, o, none⟩) (by ((try simp only [World.size_alloc, World.size_setCell, World.size_drew, size_drewN]); omega))
        have hf9_1 : ∀ o, w9.frozen? ⟨w.heap.size + 1, o, none⟩ = _ := fun o => hb9.frozen (p := ⟨w.heap.size + 1, o, none⟩) (by ((try simp only [World.size_alloc, World.size_setCell, World.size_drew, size_drewN]); omega))
        have z9_1 : w.heap.size + 1 < w9.heap.size := (by omega)
        have hc9_2 : ∀ o, w9.cell? ⟨w.heap.size + 1 + 1, o, none⟩ = _ := fun o => hb9.cell (p := ⟨w.heap.size + 1 + 1, o, none⟩) (by ((try simp only [World.size_alloc, World.size_setCell, World.size_drew, size_drewN]); omega))
        have hf9_2 : ∀ o, w9.frozen? ⟨w.heap.size + 1 + 1, o, none⟩ = _ := fun o => hb9.frozen (p := ⟨w.heap.size + 1 + 1, o, none⟩) (by ((try simp only [World.size_alloc, World.size_setCell, World.size_drew, size_drewN]); omega))
        have z9_2 : w.heap.size + 1 + 1 < w9.heap.size := (by omega)
        have hc9_3 : ∀ o, w9.cell? ⟨w1.heap.size, o, none⟩ = _ := fun o => hb9.cell (p := ⟨w1.heap.size, o, none⟩) (by ((try simp only [World.size_alloc, World.size_setCell, World.size_drew, size_drewN]); omega))
        have hf9_3 : ∀ o, w9.frozen? ⟨w1.heap.size, o, none⟩ = _ := fun o => hb9.frozen (p := ⟨w1.heap.size, o, none⟩) (by ((try simp only [World.size_alloc, World.size_setCell, World.size_drew, size_drewN]); omega))
        have z9_3 : w1.heap.size < w9.heap.size := (by omega)
        have hc9_4 : ∀ o, w9.cell? ⟨w2.heap.size, o, none⟩ = _ := fun o => hb9.cell (p := ⟨w2.heap.size, o, none⟩) (by ((try simp only [World.size_alloc, World.size_setCell, World.size_drew, size_drewN]); omega))
        have hf9_4 : ∀ o, w9.frozen? ⟨w2.heap.size, o, none⟩ = _ := fun o => hb9.frozen (p := ⟨w2.heap.size, o, none⟩) (by ((try simp only [World.size_alloc, World.size_setCell, World.size_drew, size_drewN]); omega))
        have z9_4 : w2.heap.size < w9.heap.size := (by omega)
        have hc9_5 : ∀ o, w9.cell? ⟨w3.heap.size, o, none⟩ = _ := fun o => hb9.cell (p := ⟨w3.heap.size, o, none⟩) (by ((try simp only [World.size_alloc, World.size_setCell, World.size_drew, size_drewN]); omega))
        have hf9_5 : ∀ o, w9.frozen? ⟨w3.heap.size, o, none⟩ = _ := fun o => hb9.frozen (p := ⟨w3.heap.size, o, none⟩) (by ((try simp only [World.size_alloc, World.size_setCell, World.size_drew, size_drewN]); omega))
        have z9_5 : w3.heap.size < w9.heap.size := (by omega)
        have hc9_6 : ∀ o, w9.cell? ⟨w4.heap.size, o, none⟩ = _ := fun o => hb9.cell (p := ⟨w4.heap.size, o, none⟩) (by ((try simp only [World.size_alloc, World.size_setCell, World.size_drew, size_drewN]); omega))
        have hf9_6 : ∀ o, w9.frozen? ⟨w4.heap.size, o, none⟩ = _ := fun o => hb9.frozen (p := ⟨w4.heap.size, o, none⟩) (by ((try simp only [World.size_alloc, World.size_setCell, World.size_drew, size_drewN]); omega))
        have z9_6 : w4.heap.size < w9.heap.size := (by omega)
        have hc9_7 : ∀ o, w9.cell? ⟨w5.heap.size, o, none⟩ = _ := fun o => hb9.cell (p := ⟨w5.heap.size, o, none⟩) (by ((try simp only [World.size_alloc, World.size_setCell, World.size_drew, size_drewN]); omega))
        have hf9_7 : ∀ o, w9.frozen? ⟨w5.heap.size, o, none⟩ = _ := fun o => hb9.frozen (p := ⟨w5.heap.size, o, none⟩) (by ((try simp only [World.size_alloc, World.size_setCell, World.size_drew, size_drewN]); omega))
        have z9_7 : w5.heap.size < w9.heap.size := (by omega)
        have hc9_8 : ∀ o, w9.cell? ⟨w7.heap.size, o, none⟩ = _ := fun o => hb9.cell (p := ⟨w7.heap.size, o, none⟩) (by ((try simp only [World.size_alloc, World.size_setCell, World.size_drew, size_drewN]); omega))
        have hf9_8 : ∀ o, w9.frozen? ⟨w7.heap.size, o, none⟩ = _ := fun o => hb9.frozen (p := ⟨w7.heap.size, o, none⟩) (by ((try simp only [World.size_alloc, World.size_setCell, World.size_drew, size_drewN]); omega))
        have z9_8 : w7.heap.size < w9.heap.size := (by omega)
        have hc9_9 : ∀ o, w9.cell? ⟨w8.heap.size, o, none⟩ = _ := fun o => hb9.cell (p := ⟨w8.heap.size, o, none⟩) (by ((try simp only [World.size_alloc, World.size_setCell, World.size_drew, size_drewN]); omega))
        have hf9_9 : ∀ o, w9.frozen? ⟨w8.heap.size, o, none⟩ = _ := fun o => hb9.frozen (p := ⟨w8.heap.size, o, none⟩) (by ((try simp only [World.size_alloc, World.size_setCell, World.size_drew, size_drewN]); omega))
        have z9_9 : w8.heap.size < w9.heap.size := (by omega)
        go_wp2_with fail
        refine (add_c HM1.out HM2.out _).mono ?_
        rintro e w10 ⟨rfl, hb10⟩
        have hs10 := hb10.size
        try simp only [World.size_alloc, World.size_setCell, World.size_drew, size_drewN] at hs10
        have hc10_0 : ∀ o, w10.cell? ⟨w.heap.size, o, none⟩ = _ := fun o => hb10.cell (p := ⟨w.heap.size, o, none⟩) (by ((try simp only [World.size_alloc, World.size_setCell, World.size_drew, size_drewN]); omega))
        have hf10_0 : ∀ o, w10.frozen? ⟨w.heap.size, o, none⟩ = _ := fun o => hb10.frozen (p := ⟨w.heap.size, o, none⟩) (by ((try simp only [World.size_alloc, World.size_setCell, World.size_drew, size_drewN]); omega))
        have z10_0 : w.heap.size < w10.heap.size := (by omega)
        have hc10_1 : ∀ o, w10.cell? ⟨w.heap.size + 1, o, none⟩ = _ := fun o => hb10.cell (p := ⟨w.heap.size + 1, o, none⟩) (by ((try simp only [World.size_alloc, World.size_setCell, World.size_drew, size_drewN]); omega))
        have hf10_1 : ∀ o, w10.frozen? ⟨w.heap.size + 1, o, none⟩ = _ := fun o => hb10.frozen (p := ⟨w.heap.size + 1, o, none⟩) (by ((try simp only [World.size_alloc, World.size_setCell, World.size_drew, size_drewN]); omega))
        have z10_1 : w.heap.size + 1 < w10.heap.size := (by omega)
        have hc10_2 : ∀ o, w10.cell? ⟨w.heap.size + 1 + 1, o, none⟩ = _ := fun o => hb10.cell (p := ⟨w.heap.size + 1 + 1, o, none⟩) (by ((try simp only [World.size_alloc, World.size_setCell, World.size_drew, size_drewN]); omega))
        have hf10_2 : ∀ o, w10.frozen? ⟨w.heap.size + 1 + 1, o, none⟩ = _ := fun o => hb10.frozen (p := ⟨w.heap.size + 1 + 1, o, none⟩) (by ((try simp only [World.size_alloc, World.size_setCell, World.size_drew, size_drewN]); omega))
        have z10_2 : w.heap.size + 1 + 1 < w10.heap.size := (by omega)
        have hc10_3 : ∀ o, w10.cell? ⟨w1.heap.size, o, none⟩ = _ := fun o => hb10.cell (p := ⟨w1.heap.size, o, none⟩) (by ((try simp only [World.size_alloc, World.size_setCell, World.size_drew, size_drewN]); omega))
        have hf10_3 : ∀ o, w10.frozen? ⟨w1.heap.size, o, none⟩ = _ := fun o => hb10.frozen (p := ⟨w1.heap.size, o, none⟩) (by ((try simp only [World.size_alloc, World.size_setCell, World.size_drew, size_drewN]); omega))
        have z10_3 : w1.heap.size < w10.heap.size := (by omega)
        have hc10_4 : ∀ o, w10.cell? ⟨w2.heap.size, o, none⟩ = _ := fun o => hb10.cell (p := ⟨w2.heap.size, o, none⟩) (by ((try simp only [World.size_alloc, World.size_setCell, World.size_drew, size_drewN]); omega))
        have hf10_4 : ∀ o, w10.frozen? ⟨w2.heap.size, o, none⟩ = _ := fun o => hb10.frozen (p := ⟨w2.heap.size, o, none⟩) (by ((try simp only [World.size_alloc, World.size_setCell, World.size_drew, size_drewN]); omega))
        have z10_4 : w2.heap.size < w10.heap.size := (by omega)
        have hc10_5 : ∀ o, w10.cell? ⟨w3.heap.size, o, none⟩ = _ := fun o => hb10.cell (p := ⟨w3.heap.size, o, none⟩) (by ((try simp only [World.size_alloc, World.size_setCell, World.size_drew, size_drewN]); omega))
        have hf10_5 : ∀ o, w10.frozen? ⟨w3.heap.size, o, none⟩ = _ := fun o => hb10.frozen (p := ⟨w3.heap.size, o, none⟩) (by ((try simp only [World.size_alloc, World.size_setCell, World.size_drew, size_drewN]); omega))
        have z10_5 : w3.heap.size < w10.heap.size := (by omega)
        have hc10_6 : ∀ o, w10.cell? ⟨w4.heap.size, o, none⟩ = _ := fun o => hb10.cell (p := ⟨w4.heap.size, o, none⟩) (by ((try simp only [World.size_alloc, World.size_setCell, World.size_drew, size_drewN]); omega))
        have hf10_6 : ∀ o, w10.frozen? ⟨w4.heap.size, o, none⟩ = _ := fun o => hb10.frozen (p := ⟨w4.heap.size, o, none⟩) (by ((try simp only [World.size_alloc, World.size_setCell, World.size_drew, size_drewN]); omega))
        have z10_6 : w4.heap.size < w10.heap.size := (by omega)
        have hc10_7 : ∀ o, w10.cell? ⟨w5.heap.size, o, none⟩ = _ := fun o => hb10.cell (p := ⟨w5.heap.size, o, none⟩) (by ((try simp only [World.size_alloc, World.size_setCell, World.size_drew, size_drewN]); omega))
        have hf10_7 : ∀ o, w10.frozen? ⟨w5.heap.size, o, none⟩ = _ := fun o => hb10.frozen (p := ⟨w5.heap.size, o, none⟩) (by ((try simp only [World.size_alloc, World.size_setCell, World.size_drew, size_drewN]); omega))
        have z10_7 : w5.heap.size < w10.heap.size := (by omega)
        have hc10_8 : ∀ o, w10.cell? ⟨w7.heap.size, o, none⟩ = _ := fun o => hb10.cell (p := ⟨w7.heap.size, o, none⟩) (by ((try simp only [World.size_alloc, World.size_setCell, World.size_drew, size_drewN]); omega))
        have hf10_8 : ∀ o, w10.frozen? ⟨w7.heap.size, o, none⟩ = _ := fun o => hb10.frozen (p := ⟨w7.heap.size, o, none⟩) (by ((try simp only [World.size_alloc, World.size_setCell, World.size_drew, size_drewN]); omega))
        have z10_8 : w7.heap.size < w10.heap.size := (by omega)
        have hc10_9 : ∀ o, w10.cell? ⟨w8.heap.size, o, none⟩ = _ := fun o => hb10.cell (p := ⟨w8.heap.size, o, none⟩) (by ((try simp only [World.size_alloc, World.size_setCell, World.size_drew, size_drewN]); omega))
        have hf10_9 : ∀ o, w10.frozen? ⟨w8.heap.size, o, none⟩ = _ := fun o => hb10.frozen (p := ⟨w8.heap.size, o, none⟩) (by ((try simp only [World.size_alloc, World.size_setCell, World.size_drew, size_drewN]); omega))
        have z10_9 : w8.heap.size < w10.heap.size := (by omega)
        have hc10_10 : ∀ o, w10.cell? ⟨w9.heap.size, o, none⟩ = _ := fun o => hb10.cell (p := ⟨w9.heap.size, o, none⟩) (by ((try simp only [World.size_alloc, World.size_setCell, World.size_drew, size_drewN]); omega))
        have hf10_10 : ∀ o, w10.frozen? ⟨w9.heap.size, o, none⟩ = _ := fun o => hb10.frozen (p := ⟨w9.heap.size, o, none⟩) (by ((try simp only [World.size_alloc, World.size_setCell, World.size_drew, size_drewN]); omega))
        have z10_10 : w9.heap.size < w10.heap.size := (by omega)
        go_wp2_with fail
        refine (awake1_c _).mono ?_
        rintro e w11 ⟨rfl, hb11⟩
        have hs11 := hb11.size
        try simp only [World.size_alloc, World.size_setCell, World.size_drew, size_drewN] at hs11
        have hc11_0 : ∀ o, w11.cell? ⟨w.heap.size, o, none⟩ = _ := fun o => hb11.cell (p := ⟨w.heap.size, o, none⟩) (by ((try simp only [World.size_alloc, World.size_setCell, World.size_drew, size_drewN]); omega))
        have hf11_0 : ∀ o, w11.frozen? ⟨w.heap.size, o, none⟩ = _ := fun o => hb11.frozen (p := ⟨w.heap.size, o, none⟩) (by ((try simp only [World.size_alloc, World.size_setCell, World.size_drew, size_drewN]); omega))
        have z11_0 : w.heap.size < w11.heap.size := (by omega)
        have hc11_1 : ∀ o, w11.cell? ⟨w.heap.size + 1, o, none⟩ = _ := fun o => hb11.cell (p := ⟨w.heap.size + 1, o, none⟩) (by ((try simp only [World.size_alloc, World.size_setCell, World.size_drew, size_drewN]); omega))
        have hf11_1 : ∀ o, w11.frozen? ⟨w.heap.size + 1, o, none⟩ = _ := fun o => hb11.frozen (p := ⟨w.heap.size + 1, o, none⟩) (by ((try simp only [World.size_alloc, World.size_setCell, World.size_drew, size_drewN]); omega))
        have z11_1 : w.heap.size + 1 < w11.heap.size := (by omega)
        have hc11_2 : ∀ o, w11.cell? ⟨w.heap.size + 1 + 1, o, none⟩ = _ := fun o => hb11.cell (p := ⟨w.heap.size + 1 + 1, o, none⟩) (by ((try simp only [World.size_alloc, World.size_setCell, World.size_drew, size_drewN]); omega))
        have hf11_2 : ∀ o, w11.frozen? ⟨w.heap.size + 1 + 1, o, none⟩ = _ := fun o => hb11.frozen (p := ⟨w.heap.size + 1 + 1, o, none⟩) (by ((try simp only [World.size_alloc, World.size_setCell, World.size_drew, size_drewN]); omega))
        have z11_2 : w.heap.size + 1 + 1 < w11.heap.size := (by omega)
        have hc11_3 : ∀ o, w11.cell? ⟨w1.heap.size, o, none⟩ = _ := fun o => hb11.cell (p := ⟨w1.heap.size, o, none⟩) (by ((try simp only [World.size_alloc, World.size_setCell, World.size_drew, size_drewN]); omega))
        have hf11_3 : ∀ o, w11.frozen? ⟨w1.heap.size, o, none⟩ = _ := fun o => hb11.frozen (p := ⟨w1.heap.size, o, none⟩) (by ((try simp only [World.size_alloc, World.size_setCell, World.size_drew, size_drewN]); omega))
        have z11_3 : w1.heap.size < w11.heap.size := (by omega)
        have hc11_4 : ∀ o, w11.cell? ⟨w2.heap.size, o, none⟩ = _ := fun o => hb11.cell (p := ⟨w2.heap.size, o, none⟩) (by ((try simp only [World.size_alloc, World.size_setCell, World.size_drew, size_drewN]); omega))
        have hf11_4 : ∀ o, w11.frozen? ⟨w2.heap.size, o, none⟩ = _ := fun o => hb11.frozen (p := ⟨w2.heap.size, o, none⟩) (by ((try simp only [World.size_alloc, World.size_setCell, World.size_drew, size_drewN]); omega))
        have z11_4 : w2.heap.size < w11.heap.size := (by omega)
        have hc11_5 : ∀ o, w11.cell? ⟨w3.heap.size, o, none⟩ = _ := fun o => hb11.cell (p := ⟨w3.heap.size, o, none⟩) (by ((try simp only [World.size_alloc, World.size_setCell, World.size_drew, size_drewN]); omega))
        have hf11_5 : ∀ o, w11.frozen? ⟨w3.heap.size, o, none⟩ = _ := fun o => hb11.frozen (p := ⟨w3.heap.size, o, none⟩) (by ((try simp only [World.size_alloc, World.size_setCell, World.size_drew, size_drewN]); omega))
        have z11_5 : w3.heap.size < w11.heap.size := (by omega)
        have hc11_6 : ∀ o, w11.cell? ⟨w4.heap.size, o, none⟩ = _ := fun o => hb11.cell (p := ⟨w4.heap.size, o, none⟩) (by ((try simp only [World.size_alloc, World.size_setCell, World.size_drew, size_drewN]); omega))
        have hf11_6 : ∀ o, w11.frozen? ⟨w4.heap.size, o, none⟩ = _ := fun o => hb11.frozen (p := ⟨w4.heap.size, o, none⟩) (by ((try simp only [World.size_alloc, World.size_setCell, World.size_drew, size_drewN]); omega))
        have z11_6 : w4.heap.size < w11.heap.size := (by omega)
        have hc11_7 : ∀ o, w11.cell? ⟨w5.heap.size, o, none⟩ = _ := fun o => hb11.cell (p := ⟨w5.heap.size, o, none⟩) (by ((try simp only [World.size_alloc, World.size_setCell, World.size_drew, size_drewN]); omega))
        have hf11_7 : ∀ o, w11.frozen? ⟨w5.heap.size, o, none⟩ = _ := fun o => hb11.frozen (p := ⟨w5.heap.size, o, none⟩) (by ((try simp only [World.size_alloc, World.size_setCell, World.size_drew, size_drewN]); omega))
        have z11_7 : w5.heap.size < w11.heap.size := (by omega)
        have hc11_8 : ∀ o, w11.cell? ⟨w7.heap.size, o, none⟩ = _ := fun o => hb11.cell (p := ⟨w7.heap.size, o, none⟩) (by ((try simp only [World.size_alloc, World.size_setCell, World.size_drew, size_drewN]); omega))
        have hf11_8 : ∀ o, w11.frozen? ⟨w7.heap.size, o, none⟩ = _ := fun o => hb11.frozen (p := ⟨w7.heap.size, o, none⟩) (by ((try simp only [World.size_alloc, World.size_setCell, World.size_drew, size_drewN]); omega))
        have z11_8 : w7.heap.size < w11.heap.size := (by omega)
        have hc11_9 : ∀ o, w11.cell? ⟨w8.heap.size, o, none⟩ = _ := fun o => hb11.cell (p := ⟨w8.heap.size, o, none⟩) (by ((try simp only [World.size_alloc, World.size_setCell, World.size_drew, size_drewN]); omega))
        have hf11_9 : ∀ o, w11.frozen? ⟨w8.heap.size, o, none⟩ = _ := fun o => hb11.frozen (p := ⟨w8.heap.size, o, none⟩) (by ((try simp only [World.size_alloc, World.size_setCell, World.size_drew, size_drewN]); omega))
        have z11_9 : w8.heap.size < w11.heap.size := (by omega)
        have hc11_10 : ∀ o, w11.cell? ⟨w9.heap.size, o, none⟩ = _ := fun o => hb11.cell (p := ⟨w9.heap.size, o, none⟩) (by ((try simp only [World.size_alloc, World.size_setCell, World.size_drew, size_drewN]); omega))
        have hf11_10 : ∀ o, w11.frozen? ⟨w9.heap.size, o, none⟩ = _ := fun o => hb11.frozen (p := ⟨w9.heap.size, o, none⟩) (by ((try simp only [World.size_alloc, World.size_setCell, World.size_drew, size_drewN]); omega))
        have z11_10 : w9.heap.size < w11.heap.size := (by omega)
        have hc11_11 : ∀ o, w11.cell? ⟨w10.heap.size, o, none⟩ = _ := fun o => hb11.cell (p := ⟨w10.heap.size, o, none⟩) (by ((try simp only [World.size_alloc, World.size_setCell, World.size_drew, size_drewN]); omega))
        have hf11_11 : ∀ o, w11.frozen? ⟨w10.heap.size, o, none⟩ = _ := fun o => hb11.frozen (p := ⟨w10.heap.size, o, none⟩) (by ((try simp only [World.size_alloc, World.size_setCell, World.size_drew, size_drewN]); omega))
        have z11_11 : w10.heap.size < w11.heap.size := (by omega)
        go_wp2
        go_ret
        exact ⟨rfl, (by (repeat' (first | (with_reducible exact Below.refl _ _) | (with_reducible assumption) | (with_reducible refine Below.alloc ?_ ?_ _) | (with_reducible refine Below.drew ?_) | (with_reducible refine below_drewN ?_ _) | (with_reducible refine Below.setCell ?_ ?_ _) | (with_reducible refine below_step (by with_reducible assumption) ?_ ?_) | (first | (with_reducible exact Nat.le_refl _) | (with_reducible assumption) | omega | (simp only [World.size_alloc, World.size_setCell, World.size_drew, size_drewN]; omega) | (simp; omega) | (simp; done)))))⟩
      · have d1 : (mulE (addV A B) C == 0) = false := by rw [s0, mulE, if_neg hD]; rfl
        clear hM hS hD s0
        go_enter Try.func6, Try.ntmps6
        go_wp2_with fail
        refine (add_c HA.out HB.out _).mono ?_
        rintro e w1 ⟨rfl, hb1⟩
        have hs1 := hb1.size
        try simp only [World.size_alloc, World.size_setCell, World.size_drew, size_drewN] at hs1
        have hc1_0 : ∀ o, w1.cell? ⟨w.heap.size, o, none⟩ = _ := fun o => hb1.cell (p := ⟨w.heap.size, o, none⟩) (by ((try simp only [World.size_alloc, World.size_setCell, World.size_drew, size_drewN]); omega))
        have hf1_0 : ∀ o, w1.frozen? ⟨w.heap.size, o, none⟩ = _ := fun o => hb1.frozen (p := ⟨w.heap.size, o, none⟩) (by ((try simp only [World.size_alloc, World.size_setCell, World.size_drew, size_drewN]); omega))
        have z1_0 : w.heap.size < w1.heap.size := (by omega)
        have hc1_1 : ∀ o, w1.cell? ⟨w.heap.size + 1, o, none⟩ = _ := fun o => hb1.cell (p := ⟨w.heap.size + 1, o, none⟩) (by ((try simp only [World.size_alloc, World.size_setCell, World.size_drew, size_drewN]); omega))
        have hf1_1 : ∀ o, w1.frozen? ⟨w.heap.size + 1, o, none⟩ = _ := fun o => hb1.frozen (p := ⟨w.heap.size + 1, o, none⟩) (by ((try simp only [World.size_alloc, World.size_setCell, World.size_drew, size_drewN]); omega))
        have z1_1 : w.heap.size + 1 < w1.heap.size := (by omega)
        have hc1_2 : ∀ o, w1.cell? ⟨w.heap.size + 1 + 1, o, none⟩ = _ := fun o => hb1.cell (p := ⟨w.heap.size + 1 + 1, o, none⟩) (by ((try simp only [World.size_alloc, World.size_setCell, World.size_drew, size_drewN]); omega))
        have hf1_2 : ∀ o, w1.frozen? ⟨w.heap.size + 1 + 1, o, none⟩ = _ := fun o => hb1.frozen (p := ⟨w.heap.size + 1 + 1, o, none⟩) (by ((try simp only [World.size_alloc, World.size_setCell, World.size_drew, size_drewN]); omega))
        have z1_2 : w.heap.size + 1 + 1 < w1.heap.size := (by omega)
        go_wp2_with fail
        refine (add_c HB.out HA.out _).mono ?_
        rintro e w2 ⟨rfl, hb2⟩
        have hs2 := hb2.size
        try simp only [World.size_alloc, World.size_setCell, World.size_drew, size_drewN] at hs2
        have hc2_0 : ∀ o, w2.cell? ⟨w.heap.size, o, none⟩ = _ := fun o => hb2.cell (p := ⟨w.heap.size, o, none⟩) (by ((try simp only [World.size_alloc, World.size_setCell, World.size_drew, size_drewN]); omega))
        have hf2_0 : ∀ o, w2.frozen? ⟨w.heap.size, o, none⟩ = _ := fun o => hb2.frozen (p := ⟨w.heap.size, o, none⟩) (by ((try simp only [World.size_alloc, World.size_setCell, World.size_drew, size_drewN]); omega))
        have z2_0 : w.heap.size < w2.heap.size := (by omega)
        have hc2_1 : ∀ o, w2.cell? ⟨w.heap.size + 1, o, none⟩ = _ := fun o => hb2.cell (p := ⟨w.heap.size + 1, o, none⟩) (by ((try simp only [World.size_alloc, World.size_setCell, World.size_drew, size_drewN]); omega))
        have hf2_1 : ∀ o, w2.frozen? ⟨w.heap.size + 1, o, none⟩ = _ := fun o => hb2.frozen (p := ⟨w.heap.size + 1, o, none⟩) (by ((try simp only [World.size_alloc, World.size_setCell, World.size_drew, size_drewN]); omega))
        have z2_1 : w.heap.size + 1 < w2.heap.size := (by omega)
        have hc2_2 : ∀ o, w2.cell? ⟨w.heap.size + 1 + 1, o, none⟩ = _ := fun o => hb2.cell (p := ⟨w.heap.size + 1 + 1, o, none⟩) (by ((try simp only [World.size_alloc, World.size_setCell, World.size_drew, size_drewN]); omega))
        have hf2_2 : ∀ o, w2.frozen? ⟨w.heap.size + 1 + 1, o, none⟩ = _ := fun o => hb2.frozen (p := ⟨w.heap.size + 1 + 1, o, none⟩) (by ((try simp only [World.size_alloc, World.size_setCell, World.size_drew, size_drewN]); omega))
        have z2_2 : w.heap.size + 1 + 1 < w2.heap.size := (by omega)
        have hc2_3 : ∀ o, w2.cell? ⟨w1.heap.size, o, none⟩ = _ := fun o => hb2.cell (p := ⟨w1.heap.size, o, none⟩) (by ((try simp only [World.size_alloc, World.size_setCell, World.size_drew, size_drewN]); omega))
        have hf2_3 : ∀ o, w2.frozen? ⟨w1.heap.size, o, none⟩ = _ := fun o => hb2.frozen (p := ⟨w1.heap.size, o, none⟩) (by ((try simp only [World.size_alloc, World.size_setCell, World.size_drew, size_drewN]); omega))
        have z2_3 : w1.heap.size < w2.heap.size := (by omega)
        go_wp2_with fail
        refine (mul_c HA.out HB.out _).mono ?_
        rintro e w3 ⟨rfl, hb3⟩
        have hs3 := hb3.size
        try simp only [World.size_alloc, World.size_setCell, World.size_drew, size_drewN] at hs3
        have hc3_0 : ∀ o, w3.cell? ⟨w.heap.size, o, none⟩ = _ := fun o => hb3.cell (p := ⟨w.heap.size, o, none⟩) (by ((try simp only [World.size_alloc, World.size_setCell, World.size_drew, size_drewN]); omega))
        have hf3_0 : ∀ o, w3.frozen? ⟨w.heap.size, o, none⟩ = _ := fun o => hb3.frozen (p := ⟨w.heap.size, o, none⟩) (by ((try simp only [World.size_alloc, World.size_setCell, World.size_drew, size_drewN]); omega))
        have z3_0 : w.heap.size < w3.heap.size := (by omega)
        have hc3_1 : ∀ o, w3.cell? ⟨w.heap.size + 1, o, none⟩ = _ := fun o => hb3.cell (p := ⟨w.heap.size + 1, o, none⟩) (by ((try simp only [World.size_alloc, World.size_setCell, World.size_drew, size_drewN]); omega))
        have hf3_1 : ∀ o, w3.frozen? ⟨w.heap.size + 1, o, none⟩ = _ := fun o => hb3.frozen (p := ⟨w.heap.size + 1, o, none⟩) (by ((try simp only [World.size_alloc, World.size_setCell, World.size_drew, size_drewN]); omega))
        have z3_1 : w.heap.size + 1 < w3.heap.size := (by omega)
        have hc3_2 : ∀ o, w3.cell? ⟨w.heap.size + 1 + 1, o, none⟩ = _ := fun o => hb3.cell (p := ⟨w.heap.size + 1 + 1, o, none⟩) (by ((try simp only [World.size_alloc, World.size_setCell, World.size_drew, size_drewN]); omega))
        have hf3_2 : ∀ o, w3.frozen? ⟨w.heap.size + 1 + 1, o, none⟩ = _ := fun o => hb3.frozen (p := ⟨w.heap.size + 1 + 1, o, none⟩) (by ((try simp only [World.size_alloc, World.size_setCell, World.size_drew, size_drewN]); omega))
        have z3_2 : w.heap.size + 1 + 1 < w3.heap.size := (by omega)
        have hc3_3 : ∀ o, w3.cell? ⟨w1.heap.size, o, none⟩ = _ := fun o => hb3.cell (p := ⟨w1.heap.size, o, none⟩) (by ((try simp only [World.size_alloc, World.size_setCell, World.size_drew, size_drewN]); omega))
        have hf3_3 : ∀ o, w3.frozen? ⟨w1.heap.size, o, none⟩ = _ := fun o => hb3.frozen (p := ⟨w1.heap.size, o, none⟩) (by ((try simp only [World.size_alloc, World.size_setCell, World.size_drew, size_drewN]); omega))
        have z3_3 : w1.heap.size < w3.heap.size := (by omega)
        have hc3_4 : ∀ o, w3.cell? ⟨w2.heap.size, o, none⟩ = _ := fun o => hb3.cell (p := ⟨w2.heap.size, o, none⟩) (by ((try simp only [World.size_alloc, World.size_setCell, World.size_drew, size_drewN]); omega))
        have hf3_4 : ∀ o, w3.frozen? ⟨w2.heap.size, o, none⟩ = _ := fun o => hb3.frozen (p := ⟨w2.heap.size, o, none⟩) (by ((try simp only [World.size_alloc, World.size_setCell, World.size_drew, size_drewN]); omega))
        have z3_4 : w2.heap.size < w3.heap.size := (by omega)
        go_wp2_with fail
        refine (mul_c HB.out HA.out _).mono ?_
        rintro e w4 ⟨rfl, hb4⟩
        have hs4 := hb4.size
        try simp only [World.size_alloc, World.size_setCell, World.size_drew, size_drewN] at hs4
        have hc4_0 : ∀ o, w4.cell? ⟨w.heap.size, o, none⟩ = _ := fun o => hb4.cell (p := ⟨w.heap.size, o, none⟩) (by ((try simp only [World.size_alloc, World.size_setCell, World.size_drew, size_drewN]); omega))
        have hf4_0 : ∀ o, w4.frozen? ⟨w.heap.size, o, none⟩ = _ := fun o => hb4.frozen (p := ⟨w.heap.size, o, none⟩) (by ((try simp only [World.size_alloc, World.size_setCell, World.size_drew, size_drewN]); omega))
        have z4_0 : w.heap.size < w4.heap.size := (by omega)
        have hc4_1 : ∀ o, w4.cell? ⟨w.heap.size + 1, o, none⟩ = _ := fun o => hb4.cell (p := ⟨w.heap.size + 1, o, none⟩) (by ((try simp only [World.size_alloc, World.size_setCell, World.size_drew, size_drewN]); omega))
        have hf4_1 : ∀ o, w4.frozen? ⟨w.heap.size + 1, o, none⟩ = _ := fun o => hb4.frozen (p := ⟨w.heap.size + 1, o, none⟩) (by ((try simp only [World.size_alloc, World.size_setCell, World.size_drew, size_drewN]); omega))
        have z4_1 : w.heap.size + 1 < w4.heap.size := (by omega)
        have hc4_2 : ∀ o, w4.cell? ⟨w.heap.size + 1 + 1, o, none⟩ = _ := fun o => hb4.cell (p := ⟨w.heap.size + 1 + 1, o, none⟩) (by ((try simp only [World.size_alloc, World.size_setCell, World.size_drew, size_drewN]); omega))
        have hf4_2 : ∀ o, w4.frozen? ⟨w.heap.size + 1 + 1, o, none⟩ = _ := fun o => hb4.frozen (p := ⟨w.heap.size + 1 + 1, o, none⟩) (by ((try simp only [World.size_alloc, World.size_setCell, World.size_drew, size_drewN]); omega))
        have z4_2 : w.heap.size + 1 + 1 < w4.heap.size := (by omega)
        have hc4_3 : ∀ o, w4.cell? ⟨w1.heap.size, o, none⟩ = _ := fun o => hb4.cell (p := ⟨w1.heap.size, o, none⟩) (by ((try simp only [World.size_alloc, World.size_setCell, World.size_drew, size_drewN]); omega))
        have hf4_3 : ∀ o, w4.frozen? ⟨w1.heap.size, o, none⟩ = _ := fun o => hb4.frozen (p := ⟨w1.heap.size, o, none⟩) (by ((try simp only [World.size_alloc, World.size_setCell, World.size_drew, size_drewN]); omega))
        have z4_3 : w1.heap.size < w4.heap.size := (by omega)
        have hc4_4 : ∀ o, w4.cell? ⟨w2.heap.size, o, none⟩ = _ := fun o => hb4.cell (p := ⟨w2.heap.size, o, none⟩) (by ((try simp only [World.size_alloc, World.size_setCell, World.size_drew, size_drewN]); omega))
        have hf4_4 : ∀ o, w4.frozen? ⟨w2.heap.size, o, none⟩ = _ := fun o => hb4.frozen (p := ⟨w2.heap.size, o, none⟩) (by ((try simp only [World.size_alloc, World.size_setCell, World.size_drew, size_drewN]); omega))
        have z4_4 : w2.heap.size < w4.heap.size := (by omega)
        have hc4_5 : ∀ o, w4.cell? ⟨w3.heap.size, o, none⟩ = _ := fun o => hb4.cell (p := ⟨w3.heap.size, o, none⟩) (by ((try simp only [World.size_alloc, World.size_setCell, World.size_drew, size_drewN]); omega))
        have hf4_5 : ∀ o, w4.frozen? ⟨w3.heap.size, o, none⟩ = _ := fun o => hb4.frozen (p := ⟨w3.heap.size, o, none⟩) (by ((try simp only [World.size_alloc, World.size_setCell, World.size_drew, size_drewN]); omega))
        have z4_5 : w3.heap.size < w4.heap.size := (by omega)
        go_wp2_with fail
        refine (sub_c HS.out HB.out _).mono ?_
        rintro e w5 ⟨rfl, hb5⟩
        have hs5 := hb5.size
        try simp only [World.size_alloc, World.size_setCell, World.size_drew, size_drewN] at hs5
        have hc5_0 : ∀ o, w5.cell? ⟨w.heap.size, o, none⟩ = _ := fun o => hb5.cell (p := ⟨w.heap.size, o, none⟩) (by ((try simp only [World.size_alloc, World.size_setCell, World.size_drew, size_drewN]); omega))
        have hf5_0 : ∀ o, w5.frozen? ⟨w.heap.size, o, none⟩ = _ := fun o => hb5.frozen (p := ⟨w.heap.size, o, none⟩) (by ((try simp only [World.size_alloc, World.size_setCell, World.size_drew, size_drewN]); omega))
        have z5_0 : w.heap.size < w5.heap.size := (by omega)
        have hc5_1 : ∀ o, w5.cell? ⟨w.heap.size + 1, o, none⟩ = _ := fun o => hb5.cell (p := ⟨w.heap.size + 1, o, none⟩) (by ((try simp only [World.size_alloc, World.size_setCell, World.size_drew, size_drewN]); omega))
        have hf5_1 : ∀ o, w5.frozen? ⟨w.heap.size + 1, o, none⟩ = _ := fun o => hb5.frozen (p := ⟨w.heap.size + 1, o, none⟩) (by ((try simp only [World.size_alloc, World.size_setCell, World.size_drew, size_drewN]); omega))
        have z5_1 : w.heap.size + 1 < w5.heap.size := (by omega)
        have hc5_2 : ∀ o, w5.cell? ⟨w.heap.size + 1 + 1, o, none⟩ = _ := fun o => hb5.cell (p := ⟨w.heap.size + 1 + 1, o, none⟩) (by ((try simp only [World.size_alloc, World.size_setCell, World.size_drew, size_drewN]); omega))
        have hf5_2 : ∀ o, w5.frozen? ⟨w.heap.size + 1 + 1, o, none⟩ = _ := fun o => hb5.frozen (p := ⟨w.heap.size + 1 + 1, o, none⟩) (by ((try simp only [World.size_alloc, World.size_setCell, World.size_drew, size_drewN]); omega))
        have z5_2 : w.heap.size + 1 + 1 < w5.heap.size := (by omega)
        have hc5_3 : ∀ o, w5.cell? ⟨w1.heap.size, o, none⟩ = _ := fun o => hb5.cell (p := ⟨w1.heap.size, o, none⟩) (by ((try simp only [World.size_alloc, World.size_setCell, World.size_drew, size_drewN]); omega))
        have hf5_3 : ∀ o, w5.frozen? ⟨w1.heap.size, o, none⟩ = _ := fun o => hb5.frozen (p := ⟨w1.heap.size, o, none⟩) (by ((try simp only [World.size_alloc, World.size_setCell, World.size_drew, size_drewN]); omega))
        have z5_3 : w1.heap.size < w5.heap.size := (by omega)
        have hc5_4 : ∀ o, w5.cell? ⟨w2.heap.size, o, none⟩ = _ := fun o => hb5.cell (p := ⟨w2.heap.size, o, none⟩) (by ((try simp only [World.size_alloc, World.size_setCell, World.size_drew, size_drewN]); omega))
        have hf5_4 : ∀ o, w5.frozen? ⟨w2.heap.size, o, none⟩ = _ := fun o => hb5.frozen (p := ⟨w2.heap.size, o, none⟩) (by ((try simp only [World.size_alloc, World.size_setCell, World.size_drew, size_drewN]); omega))
        have z5_4 : w2.heap.size < w5.heap.size := (by omega)
        have hc5_5 : ∀ o, w5.cell? ⟨w3.heap.size, o, none⟩ = _ := fun o => hb5.cell (p := ⟨w3.heap.size, o, none⟩) (by ((try simp only [World.size_alloc, World.size_setCell, World.size_drew, size_drewN]); omega))
        have hf5_5 : ∀ o, w5.frozen? ⟨w3.heap.size, o, none⟩ = _ := fun o => hb5.frozen (p := ⟨w3.heap.size, o, none⟩) (by ((try simp only [World.size_alloc, World.size_setCell, World.size_drew, size_drewN]); omega))
        have z5_5 : w3.heap.size < w5.heap.size := (by omega)
        have hc5_6 : ∀ o, w5.cell? ⟨w4.heap.size, o, none⟩ = _ := fun o => hb5.cell (p := ⟨w4.heap.size, o, none⟩) (by ((try simp only [World.size_alloc, World.size_setCell, World.size_drew, size_drewN]); omega))
        have hf5_6 : ∀ o, w5.frozen? ⟨w4.heap.size, o, none⟩ = _ := fun o => hb5.frozen (p := ⟨w4.heap.size, o, none⟩) (by ((try simp only [World.size_alloc, World.size_setCell, World.size_drew, size_drewN]); omega))
        have z5_6 : w4.heap.size < w5.heap.size := (by omega)
        go_wp2_with fail
        refine (cmp_c HS.out HA.out _).mono ?_
        rintro e w6 ⟨rfl, hb6⟩
        have hs6 := hb6.size
        try simp only [World.size_alloc, World.size_setCell, World.size_drew, size_drewN] at hs6
        have hc6_0 : ∀ o, w6.cell? ⟨w.heap.size, o, none⟩ = _ := fun o => hb6.cell (p := ⟨w.heap.size, o, none⟩) (by ((try simp only [World.size_alloc, World.size_setCell, World.size_drew, size_drewN]); omega))
        have hf6_0 : ∀ o, w6.frozen? ⟨w.heap.size, o, none⟩ = _ := fun o => hb6.frozen (p := ⟨w.heap.size, o, none⟩) (by ((try simp only [World.size_alloc, World.size_setCell, World.size_drew, size_drewN]); omega))
        have z6_0 : w.heap.size < w6.heap.size := (by omega)
        have hc6_1 : ∀ o, w6.cell? ⟨w.heap.size + 1, o, none⟩ = _ := fun o => hb6.cell (p := ⟨w.heap.size + 1, o, none⟩) (by ((try simp only [World.size_alloc, World.size_setCell, World.size_drew, size_drewN]); omega))
        have hf6_1 : ∀ o, w6.frozen? ⟨w.heap.size + 1, o, none⟩ = _ := fun o => hb6.frozen (p := ⟨w.heap.size + 1, o, none⟩) (by ((try simp only [World.size_alloc, World.size_setCell, World.size_drew, size_drewN]); omega))
        have z6_1 : w.heap.size + 1 < w6.heap.size := (by omega)
        have hc6_2 : ∀ o, w6.cell? ⟨w.heap.size + 1 + 1, o, none⟩ = _ := fun o => hb6.cell (p := ⟨w.heap.size + 1 + 1, o, none⟩) (by ((try simp only [World.size_alloc, World.size_setCell, World.size_drew, size_drewN]); omega))
        have hf6_2 : ∀ o, w6.frozen? ⟨w.heap.size + 1 + 1, o, none⟩ = _ := fun o => hb6.frozen (p := ⟨w.heap.size + 1 + 1, o, none⟩) (by ((try simp only [World.size_alloc, World.size_setCell, World.size_drew, size_drewN]); omega))
        have z6_2 : w.heap.size + 1 + 1 < w6.heap.size := (by omega)
        have hc6_3 : ∀ o, w6.cell? ⟨w1.heap.size, o, none⟩ = _ := fun o => hb6.cell (p := ⟨w1.heap.size, o, none⟩) (by ((try simp only [World.size_alloc, World.size_setCell, World.size_drew, size_drewN]); omega))
        have hf6_3 : ∀ o, w6.frozen? ⟨w1.heap.size, o, none⟩ = _ := fun o => hb6.frozen (p := ⟨w1.heap.size, o, none⟩) (by ((try simp only [World.size_alloc, World.size_setCell, World.size_drew, size_drewN]); omega))
        have z6_3 : w1.heap.size < w6.heap.size := (by omega)
        have hc6_4 : ∀ o, w6.cell? ⟨w2.heap.size, o, none⟩ = _ := fun o => hb6.cell (p := ⟨w2.heap.size, o, none⟩) (by ((try simp only [World.size_alloc, World.size_setCell, World.size_drew, size_drewN]); omega))
        have hf6_4 : ∀ o, w6.frozen? ⟨w2.heap.size, o, none⟩ = _ := fun o => hb6.frozen (p := ⟨w2.heap.size, o, none⟩) (by ((try simp only [World.size_alloc, World.size_setCell, World.size_drew, size_drewN]); omega))
        have z6_4 : w2.heap.size < w6.heap.size := (by omega)
        have hc6_5 : ∀ o, w6.cell? ⟨w3.heap.size, o, none⟩ = _ := fun o => hb6.cell (p := ⟨w3.heap.size, o, none⟩) (by ((try simp only [World.size_alloc, World.size_setCell, World.size_drew, size_drewN]); omega))
        have hf6_5 : ∀ o, w6.frozen? ⟨w3.heap.size, o, none⟩ = _ := fun o => hb6.frozen (p := ⟨w3.heap.size, o, none⟩) (by ((try simp only [World.size_alloc, World.size_setCell, World.size_drew, size_drewN]); omega))
        have z6_5 : w3.heap.size < w6.heap.size := (by omega)
        have hc6_6 : ∀ o, w6.cell? ⟨w4.heap.size, o, none⟩ = _ := fun o => hb6.cell (p := ⟨w4.heap.size, o, none⟩) (by ((try simp only [World.size_alloc, World.size_setCell, World.size_drew, size_drewN]); omega))
        have hf6_6 : ∀ o, w6.frozen? ⟨w4.heap.size, o, none⟩ = _ := fun o => hb6.frozen (p := ⟨w4.heap.size, o, none⟩) (by ((try simp only [World.size_alloc, World.size_setCell, World.size_drew, size_drewN]); omega))
        have z6_6 : w4.heap.size < w6.heap.size := (by omega)
        have hc6_7 : ∀ o, w6.cell? ⟨w5.heap.size, o, none⟩ = _ := fun o => hb6.cell (p := ⟨w5.heap.size, o, none⟩) (by ((try simp only [World.size_alloc, World.size_setCell, World.size_drew, size_drewN]); omega))
        have hf6_7 : ∀ o, w6.frozen? ⟨w5.heap.size, o, none⟩ = _ := fun o => hb6.frozen (p := ⟨w5.heap.size, o, none⟩) (by ((try simp only [World.size_alloc, World.size_setCell, World.size_drew, size_drewN]); omega))
        have z6_7 : w5.heap.size < w6.heap.size := (by omega)
        go_wp2_with fail
        refine (mul_c HS.out HC.out _).mono ?_
        rintro e w7 ⟨rfl, hb7⟩
        have hs7 := hb7.size
        try simp only [World.size_alloc, World.size_setCell, World.size_drew, size_drewN] at hs7
        have hc7_0 : ∀ o, w7.cell? ⟨w.heap.size, o, none⟩ = _ := fun o => hb7.cell (p := ⟨w.heap.size, o, none⟩) (by ((try simp only [World.size_alloc, World.size_setCell, World.size_drew, size_drewN]); omega))
        have hf7_0 : ∀ o, w7.frozen? ⟨w.heap.size, o, none⟩ = _ := fun o => hb7.frozen (p := ⟨w.heap.size, o, none⟩) (by ((try simp only [World.size_alloc, World.size_setCell, World.size_drew, size_drewN]); omega))
        have z7_0 : w.heap.size < w7.heap.size := (by omega)
        have hc7_1 : ∀ o, w7.cell? ⟨w.heap.size + 1, o, none⟩ = _ := fun o => hb7.cell (p := ⟨w.heap.size + 1, o, none⟩) (by ((try simp only [World.size_alloc, World.size_setCell, World.size_drew, size_drewN]); omega))
        have hf7_1 : ∀ o, w7.frozen? ⟨w.heap.size + 1, o, none⟩ = _ := fun o => hb7.frozen (p := ⟨w.heap.size + 1, o, none⟩) (by ((try simp only [World.size_alloc, World.size_setCell, World.size_drew, size_drewN]); omega))
        have z7_1 : w.heap.size + 1 < w7.heap.size := (by omega)
        have hc7_2 : ∀ o, w7.cell? ⟨w.heap.size + 1 + 1, o, none⟩ = _ := fun o => hb7.cell (p := ⟨w.heap.size + 1 + 1, o, none⟩) (by ((try simp only [World.size_alloc, World.size_setCell, World.size_drew, size_drewN]); omega))
        have hf7_2 : ∀ o, w7.frozen? ⟨w.heap.size + 1 + 1, o, none⟩ = _ := fun o => hb7.frozen (p := ⟨w.heap.size + 1 + 1, o, none⟩) (by ((try simp only [World.size_alloc, World.size_setCell, World.size_drew, size_drewN]); omega))
        have z7_2 : w.heap.size + 1 + 1 < w7.heap.size := (by omega)
        have hc7_3 : ∀ o, w7.cell? ⟨w1.heap.size, o, none⟩ = _ := fun o => hb7.cell (p := ⟨w1.heap.size, o, none⟩) (by ((try simp only [World.size_alloc, World.size_setCell, World.size_drew, size_drewN]); omega))
        have hf7_3 : ∀ o, w7.frozen? ⟨w1.heap.size, o, none⟩ = _ := fun o => hb7.frozen (p := ⟨w1.heap.size, o, none⟩) (by ((try simp only [World.size_alloc, World.size_setCell, World.size_drew, size_drewN]); omega))
        have z7_3 : w1.heap.size < w7.heap.size := (by omega)
        have hc7_4 : ∀ o, w7.cell? ⟨w2.heap.size, o, none⟩ = _ := fun o => hb7.cell (p := ⟨w2.heap.size, o, none⟩) (by ((try simp only [World.size_alloc, World.size_setCell, World.size_drew, size_drewN]); omega))
        have hf7_4 : ∀ o, w7.frozen? ⟨w2.heap.size, o, none⟩ = _ := fun o => hb7.frozen (p := ⟨w2.heap.size, o, none⟩) (by ((try simp only [World.size_alloc, World.size_setCell, World.size_drew, size_drewN]); omega))
        have z7_4 : w2.heap.size < w7.heap.size := (by omega)
        have hc7_5 : ∀ o, w7.cell? ⟨w3.heap.size, o, none⟩ = _ := fun o => hb7.cell (p := ⟨w3.heap.size, o, none⟩) (by ((try simp only [World.size_alloc, World.size_setCell, World.size_drew, size_drewN]); omega))
        have hf7_5 : ∀ o, w7.frozen? ⟨w3.heap.size, o, none⟩ = _ := fun o => hb7.frozen (p := ⟨w3.heap.size, o, none⟩) (by ((try simp only [World.size_alloc, World.size_setCell, World.size_drew, size_drewN]); omega))
        have z7_5 : w3.heap.size < w7.heap.size := (by omega)
        have hc7_6 : ∀ o, w7.cell? ⟨w4.heap.size, o, none⟩ = _ := fun o => hb7.cell (p := ⟨w4.heap.size, o, none⟩) (by ((try simp only [World.size_alloc, World.size_setCell, World.size_drew, size_drewN]); omega))
        have hf7_6 : ∀ o, w7.frozen? ⟨w4.heap.size, o, none⟩ = _ := fun o => hb7.frozen (p := ⟨w4.heap.size, o, none⟩) (by ((try simp only [World.size_alloc, World.size_setCell, World.size_drew, size_drewN]); omega))
        have z7_6 : w4.heap.size < w7.heap.size := (by omega)
        have hc7_7 : ∀ o, w7.cell? ⟨w5.heap.size, o, none⟩ = _ := fun o => hb7.cell (p := ⟨w5.heap.size, o, none⟩) (by ((try simp only [World.size_alloc, World.size_setCell, World.size_drew, size_drewN]); omega))
        have hf7_7 : ∀ o, w7.frozen? ⟨w5.heap.size, o, none⟩ = _ := fun o => hb7.frozen (p := ⟨w5.heap.size, o, none⟩) (by ((try simp only [World.size_alloc, World.size_setCell, World.size_drew, size_drewN]); omega))
        have z7_7 : w5.heap.size < w7.heap.size := (by omega)
        go_wp2_with fail
        refine (mul_c HA.out HC.out _).mono ?_
        rintro e w8 ⟨rfl, hb8⟩
        have hs8 := hb8.size
        try simp only [World.size_alloc, World.size_setCell, World.size_drew, size_drewN] at hs8
        have hc8_0 : ∀ o, w8.cell? ⟨w.heap.size, o, none⟩ = _ := fun o => hb8.cell (p := ⟨w.heap.size, o, none⟩) (by ((try simp only [World.size_alloc, World.size_setCell, World.size_drew, size_drewN]); omega))
        have hf8_0 : ∀ o, w8.frozen? ⟨w.heap.size, o, none⟩ = _ := fun o => hb8.frozen (p := ⟨w.heap.size, o, none⟩) (by ((try simp only [World.size_alloc, World.size_setCell, World.size_drew, size_drewN]); omega))
        have z8_0 : w.heap.size < w8.heap.size := (by omega)
        have hc8_1 : ∀ o, w8.cell? ⟨w.heap.size + 1, o, none⟩ = _ := fun o => hb8.cell (p := ⟨w.heap.size + 1, o, none⟩) (by ((try simp only [World.size_alloc, World.size_setCell, World.size_drew, size_drewN]); omega))
        have hf8_1 : ∀ o, w8.frozen? ⟨w.heap.size + 1, o, none⟩ = _ := fun o => hb8.frozen (p := ⟨w.heap.size + 1, o, none⟩) (by ((try simp only [World.size_alloc, World.size_setCell, World.size_drew, size_drewN]); omega))
        have z8_1 : w.heap.size + 1 < w8.heap.size := (by omega)
        have hc8_2 : ∀ o, w8.cell? ⟨w.heap.size + 1 + 1, o, none⟩ = _ := fun o => hb8.cell (p := ⟨w.heap.size + 1 + 1, o, none⟩) (by ((try simp only [World.size_alloc, World.size_setCell, World.size_drew, size_drewN]); omega))
        have hf8_2 : ∀ o, w8.frozen? ⟨w.heap.size + 1 + 1, o, none⟩ = _ := fun o => hb8.frozen (p := ⟨w.heap.size + 1 + 1, o, none⟩) (by ((try simp only [World.size_alloc, World.size_setCell, World.size_drew, size_drewN]); omega))
        have z8_2 : w.heap.size + 1 + 1 < w8.heap.size := (by omega)
        have hc8_3 : ∀ o, w8.cell? ⟨w1.heap.size, o, none⟩ = _ := fun o => hb8.cell (p := ⟨w1.heap.size, o, none⟩) (by ((try simp only [World.size_alloc, World.size_setCell, World.size_drew, size_drewN]); omega))
        have hf8_3 : ∀ o, w8.frozen? ⟨w1.heap.size, o, none⟩ = _ := fun o => hb8.frozen (p := ⟨w1.heap.size, o, none⟩) (by ((try simp only [World.size_alloc, World.size_setCell, World.size_drew, size_drewN]); omega))
        have z8_3 : w1.heap.size < w8.heap.size := (by omega)
        have hc8_4 : ∀ o, w8.cell? ⟨w2.heap.size, o, none⟩ = _ := fun o => hb8.cell (p := ⟨w2.heap.size, o, none⟩) (by ((try simp only [World.size_alloc, World.size_setCell, World.size_drew, size_drewN]); omega))
        have hf8_4 : ∀ o, w8.frozen? ⟨w2.heap.size, o, none⟩ = _ := fun o => hb8.frozen (p := ⟨w2.heap.size, o, none⟩) (by ((try simp only [World.size_alloc, World.size_setCell, World.size_drew, size_drewN]); omega))
        have z8_4 : w2.heap.size < w8.heap.size := (by omega)
        have hc8_5 : ∀ o, w8.cell? ⟨w3.heap.size, o, none⟩ = _ := fun o => hb8.cell (p := ⟨w3.heap.size, o, none⟩) (by ((try simp only [World.size_alloc, World.size_setCell, World.size_drew, size_drewN]); omega))
        have hf8_5 : ∀ o, w8.frozen? ⟨w3.heap.size, o, none⟩ = _ := fun o => hb8.frozen (p := ⟨w3.heap.size, o, none⟩) (by ((try simp only [World.size_alloc, World.size_setCell, World.size_drew, size_drewN]); omega))
        have z8_5 : w3.heap.size < w8.heap.size := (by omega)
        have hc8_6 : ∀ o, w8.cell? ⟨w4.heap.size, o, none⟩ = _ := fun o => hb8.cell (p := ⟨w4.heap.size, o, none⟩) (by ((try simp only [World.size_alloc, World.size_setCell, World.size_drew, size_drewN]); omega))
        have hf8_6 : ∀ o, w8.frozen? ⟨w4.heap.size, o, none⟩ = _ := fun o => hb8.frozen (p := ⟨w4.heap.size, o, none⟩) (by ((try simp only [World.size_alloc, World.size_setCell, World.size_drew, size_drewN]); omega))
        have z8_6 : w4.heap.size < w8.heap.size := (by omega)
        have hc8_7 : ∀ o, w8.cell? ⟨w5.heap.size, o, none⟩ = _ := fun o => hb8.cell (p := ⟨w5.heap.size, o, none⟩) (by ((try simp only [World.size_alloc, World.size_setCell, World.size_drew, size_drewN]); omega))
        have hf8_7 : ∀ o, w8.frozen? ⟨w5.heap.size, o, none⟩ = _ := fun o => hb8.frozen (p := ⟨w5.heap.size, o, none⟩) (by ((try simp only [World.size_alloc, World.size_setCell, World.size_drew, size_drewN]); omega))
        have z8_7 : w5.heap.size < w8.heap.size := (by omega)
        have hc8_8 : ∀ o, w8.cell? ⟨w7.heap.size, o, none⟩ = _ := fun o => hb8.cell (p := ⟨w7.heap.size, o, none⟩) (by ((try simp only [World.size_alloc, World.size_setCell, World.size_drew, size_drewN]); omega))
        have hf8_8 : ∀ o, w8.frozen? ⟨w7.heap.size, o, none⟩ = _ := fun o => hb8.frozen (p := ⟨w7.heap.size, o, none⟩) (by ((try simp only [World.size_alloc, World.size_setCell, World.size_drew, size_drewN]); omega))
        have z8_8 : w7.heap.size < w8.heap.size := (by omega)
        go_wp2_with fail
        refine (mul_c HB.out HC.out _).mono ?_
        rintro e w9 ⟨rfl, hb9⟩
        have hs9 := hb9.size
        try simp only [World.size_alloc, World.size_setCell, World.size_drew, size_drewN] at hs9
        have hc9_0 : ∀ o, w9.cell? ⟨w.heap.size, o, none⟩ = _ := fun o => hb9.cell (p := ⟨w.heap.size, o, none⟩) (by ((try simp only [World.size_alloc, World.size_setCell, World.size_drew, size_drewN]); omega))
        have hf9_0 : ∀ o, w9.frozen? ⟨w.heap.size, o, none⟩ = _ := fun o => hb9.frozen (p := ⟨w.heap.size, o, none⟩) (by ((try simp only [World.size_alloc, World.size_setCell, World.size_drew, size_drewN]); omega))
        have z9_0 : w.heap.size < w9.heap.size := (by omega)
        have hc9_1 : ∀ o, w9.cell? ⟨w.heap.size + 1, o, none⟩ = _ := fun o => hb9.cell (p := ⟨w.heap.size + 1, o, none⟩) (by ((try simp only [World.size_alloc, World.size_setCell, World.size_drew, size_drewN]); omega))
        have hf9_1 : ∀ o, w9.frozen? ⟨w.heap.size + 1, o, none⟩ = _ := fun o => hb9.frozen (p := ⟨w.heap.size + 1, o, none⟩) (by ((try simp only [World.size_alloc, World.size_setCell, World.size_drew, size_drewN]); omega))
        have z9_1 : w.heap.size + 1 < w9.heap.size := (by omega)
        have hc9_2 : ∀ o, w9.cell? ⟨w.heap.size + 1 + 1, o, none⟩ = _ := fun o => hb9.cell (p := ⟨w.heap.size + 1 + 1, o, none⟩) (by ((try simp only [World.size_alloc, World.size_setCell, World.size_drew, size_drewN]); omega))
        have hf9_2 : ∀ o, w9.frozen? ⟨w.heap.size + 1 + 1, o, none⟩ = _ := fun o => hb9.frozen (p := ⟨w.heap.size + 1 + 1, o, none⟩) (by ((try simp only [World.size_alloc, World.size_setCell, World.size_drew, size_drewN]); omega))
        have z9_2 : w.heap.size + 1 + 1 < w9.heap.size := (by omega)
        have hc9_3 : ∀ o, w9.cell? ⟨w1.heap.size, o, none⟩ = _ := fun o => hb9.cell (p := ⟨w1.heap.size, o, none⟩) (by ((try simp only [World.size_alloc, World.size_setCell, World.size_drew, size_drewN]); omega))
        have hf9_3 : ∀ o, w9.frozen? ⟨w1.heap.size, o, none⟩ = _ := fun o => hb9.frozen (p := ⟨w1.heap.size, o, none⟩) (by ((try simp only [World.size_alloc, World.size_setCell, World.size_drew, size_drewN]); omega))
        have z9_3 : w1.heap.size < w9.heap.size := (by omega)
        have hc9_4 : ∀ o, w9.cell? ⟨w2.heap.size, o, none⟩ = _ := fun o => hb9.cell (p := ⟨w2.heap.size, o, none⟩) (by ((try simp only [World.size_alloc, World.size_setCell, World.size_drew, size_drewN]); omega))
        have hf9_4 : ∀ o, w9.frozen? ⟨w2.heap.size, o, none⟩ = _ := fun o => hb9.frozen (p := ⟨w2.heap.size, o, none⟩) (by ((try simp only [World.size_alloc, World.size_setCell, World.size_drew, size_drewN]); omega))
        have z9_4 : w2.heap.size < w9.heap.size := (by omega)
        have hc9_5 : ∀ o, w9.cell? ⟨w3.heap.size, o, none⟩ = _ := fun o => hb9.cell (p := ⟨w3.heap.size, o, none⟩) (by ((try simp only [World.size_alloc, World.size_setCell, World.size_drew, size_drewN]); omega))
        have hf9_5 : ∀ o, w9.frozen? ⟨w3.heap.size, o, none⟩ = _ := fun o => hb9.frozen (p := ⟨w3.heap.size, o, none⟩) (by ((try simp only [World.size_alloc, World.size_setCell, World.size_drew, size_drewN]); omega))
        have z9_5 : w3.heap.size < w9.heap.size := (by omega)
        have hc9_6 : ∀ o, w9.cell? ⟨w4.heap.size, o, none⟩ = _ := fun o => hb9.cell (p := ⟨w4.heap.size, o, none⟩) (by ((try simp only [World.size_alloc, World.size_setCell, World.size_drew, size_drewN]); omega))
        have hf9_6 : ∀ o, w9.frozen? ⟨w4.heap.size, o, none⟩ = _ := fun o => hb9.frozen (p := ⟨w4.heap.size, o, none⟩) (by ((try simp only [World.size_alloc, World.size_setCell, World.size_drew, size_drewN]); omega))
        have z9_6 : w4.heap.size < w9.heap.size := (by omega)
        have hc9_7 : ∀ o, w9.cell? ⟨w5.heap.size, o, none⟩ = _ := fun o => hb9.cell (p := ⟨w5.heap.size, o, none⟩) (by ((try simp only [World.size_alloc, World.size_setCell, World.size_drew, size_drewN]); omega))
        have hf9_7 : ∀ o, w9.frozen? ⟨w5.heap.size, o, none⟩ = _ := fun o => hb9.frozen (p := ⟨w5.heap.size, o, none⟩) (by ((try simp only [World.size_alloc, World.size_setCell, World.size_drew, size_drewN]); omega))
        have z9_7 : w5.heap.size < w9.heap.size := (by omega)
        have hc9_8 : ∀ o, w9.cell? ⟨w7.heap.size, o, none⟩ = _ := fun o => hb9.cell (p := ⟨w7.heap.size, o, none⟩) (by ((try simp only [World.size_alloc, World.size_setCell, World.size_drew, size_drewN]); omega))
        have hf9_8 : ∀ o, w9.frozen? ⟨w7.heap.size, o, none⟩ = _ := fun o => hb9.frozen (p := ⟨w7.heap.size, o, none⟩) (by ((try simp only [World.size_alloc, World.size_setCell, World.size_drew, size_drewN]); omega))
        have z9_8 : w7.heap.size < w9.heap.size := (by omega)
        have hc9_9 : ∀ o, w9.cell? ⟨w8.heap.size, o, none⟩ = _ := fun o => hb9.cell (p := ⟨w8.heap.size, o, none⟩) (by ((try simp only [World.size_alloc, World.size_setCell, World.size_drew, size_drewN]); omega))
        have hf9_9 : ∀ o, w9.frozen? ⟨w8.heap.size, o, none⟩ = _ := fun o => hb9.frozen (p := ⟨w8.heap.size, o, none⟩) (by ((try simp only [World.size_alloc, World.size_setCell, World.size_drew, size_drewN]); omega))
        have z9_9 : w8.heap.size < w9.heap.size := (by omega)
        go_wp2_with fail
        refine (awake1_c _).mono ?_
        rintro e w10 ⟨rfl, hb10⟩
        have hs10 := hb10.size
        try simp only [World.size_alloc, World.size_setCell, World.size_drew, size_drewN] at hs10
        have hc10_0 : ∀ o, w10.cell? ⟨w.heap.size, o, none⟩ = _ := fun o => hb10.cell (p := ⟨w.heap.size, o, none⟩) (by ((try simp only [World.size_alloc, World.size_setCell, World.size_drew, size_drewN]); omega))
        have hf10_0 : ∀ o, w10.frozen? ⟨w.heap.size, o, none⟩ = _ := fun o => hb10.frozen (p := ⟨w.heap.size, o, none⟩) (by ((try simp only [World.size_alloc, World.size_setCell, World.size_drew, size_drewN]); omega))
        have z10_0 : w.heap.size < w10.heap.size := (by omega)
        have hc10_1 : ∀ o, w10.cell? ⟨w.heap.size + 1, o, none⟩ = _ := fun o => hb10.cell (p := ⟨w.heap.size + 1, o, none⟩) (by ((try simp only [World.size_alloc, World.size_setCell, World.size_drew, size_drewN]); omega))
        have hf10_1 : ∀ o, w10.frozen? ⟨w.heap.size + 1, o, none⟩ = _ := fun o => hb10.frozen (p := ⟨w.heap.size + 1, o, none⟩) (by ((try simp only [World.size_alloc, World.size_setCell, World.size_drew, size_drewN]); omega))
        have z10_1 : w.heap.size + 1 < w10.heap.size := (by omega)
        have hc10_2 : ∀ o, w10.cell? ⟨w.heap.size + 1 + 1, o, none⟩ = _ := fun o => hb10.cell (p := ⟨w.heap.size + 1 + 1, o, none⟩) (by ((try simp only [World.size_alloc, World.size_setCell, World.size_drew, size_drewN]); omega))
        have hf10_2 : ∀ o, w10.frozen? ⟨w.heap.size + 1 + 1, o, none⟩ = _ := fun o => hb10.frozen (p := ⟨w.heap.size + 1 + 1, o, none⟩) (by ((try simp only [World.size_alloc, World.size_setCell, World.size_drew, size_drewN]); omega))
        have z10_2 : w.heap.size + 1 + 1 < w10.heap.size := (by omega)
        have hc10_3 : ∀ o, w10.cell? ⟨w1.heap.size, o, none⟩ = _ := fun o => hb10.cell (p := ⟨w1.heap.size, o, none⟩) (by ((try simp only [World.size_alloc, World.size_setCell, World.size_drew, size_drewN]); omega))
        have hf10_3 : ∀ o, w10.frozen? ⟨w1.heap.size, o, none⟩ = _ := fun o => hb10.frozen (p := ⟨w1.heap.size, o, none⟩) (by ((try simp only [World.size_alloc, World.size_setCell, World.size_drew, size_drewN]); omega))
        have z10_3 : w1.heap.size < w10.heap.size := (by omega)
        have hc10_4 : ∀ o, w10.cell? ⟨w2.heap.size, o, none⟩ = _ := fun o => hb10.cell (p := ⟨w2.heap.size, o, none⟩) (by ((try simp only [World.size_alloc, World.size_setCell, World.size_drew, size_drewN]); omega))
        have hf10_4 : ∀ o, w10.frozen? ⟨w2.heap.size, o, none⟩ = _ := fun o => hb10.frozen (p := ⟨w2.heap.size, o, none⟩) (by ((try simp only [World.size_alloc, World.size_setCell, World.size_drew, size_drewN]); omega))
        have z10_4 : w2.heap.size < w10.heap.size := (by omega)
        have hc10_5 : ∀ o, w10.cell? ⟨w3.heap.size, o, none⟩ = _ := fun o => hb10.cell (p := ⟨w3.heap.size, o, none⟩) (by ((try simp only [World.size_alloc, World.size_setCell, World.size_drew, size_drewN]); omega))
        have hf10_5 : ∀ o, w10.frozen? ⟨w3.heap.size, o, none⟩ = _ := fun o => hb10.frozen (p := ⟨w3.heap.size, o, none⟩) (by ((try simp only [World.size_alloc, World.size_setCell, World.size_drew, size_drewN]); omega))
        have z10_5 : w3.heap.size < w10.heap.size := (by omega)
        have hc10_6 : ∀ o, w10.cell? ⟨w4.heap.size, o, none⟩ = _ := fun o => hb10.cell (p := ⟨w4.heap.size, o, none⟩) (by ((try simp only [World.size_alloc, World.size_setCell, World.size_drew, size_drewN]); omega))
        have hf10_6 : ∀ o, w10.frozen? ⟨w4.heap.size, o, none⟩ = _ := fun o => hb10.frozen (p := ⟨w4.heap.size, o, none⟩) (by ((try simp only [World.size_alloc, World.size_setCell, World.size_drew, size_drewN]); omega))
        have z10_6 : w4.heap.size < w10.heap.size := (by omega)
        have hc10_7 : ∀ o, w10.cell? ⟨w5.heap.size, o, none⟩ = _ := fun o => hb10.cell (p := ⟨w5.heap.size, o, none⟩) (by ((try simp only [World.size_alloc, World.size_setCell, World.size_drew, size_drewN]); omega))
        have hf10_7 : ∀ o, w10.frozen? ⟨w5.heap.size, o, none⟩ = _ := fun o => hb10.frozen (p := ⟨w5.heap.size, o, none⟩) (by ((try simp only [World.size_alloc, World.size_setCell, World.size_drew, size_drewN]); omega))
        have z10_7 : w5.heap.size < w10.heap.size := (by omega)
        have hc10_8 : ∀ o, w10.cell? ⟨w7.heap.size, o, none⟩ = _ := fun o => hb10.cell (p := ⟨w7.heap.size, o, none⟩) (by ((try simp only [World.size_alloc, World.size_setCell, World.size_drew, size_drewN]); omega))
        have hf10_8 : ∀ o, w10.frozen? ⟨w7.heap.size, o, none⟩ = _ := fun o => hb10.frozen (p := ⟨w7.heap.size, o, none⟩) (by ((try simp only [World.size_alloc, World.size_setCell, World.size_drew, size_drewN]); omega))
        have z10_8 : w7.heap.size < w10.heap.size := (by omega)
        have hc10_9 : ∀ o, w10.cell? ⟨w8.heap.size, o, none⟩ = _ := fun o => hb10.cell (p := ⟨w8.heap.size, o, none⟩) (by ((try simp only [World.size_alloc, World.size_setCell, World.size_drew, size_drewN]); omega))
        have hf10_9 : ∀ o, w10.frozen? ⟨w8.heap.size, o, none⟩ = _ := fun o => hb10.frozen (p := ⟨w8.heap.size, o, none⟩) (by ((try simp only [World.size_alloc, World.size_setCell, World.size_drew, size_drewN]); omega))
        have z10_9 : w8.heap.size < w10.heap.size := (by omega)
        have hc10_10 : ∀ o, w10.cell? ⟨w9.heap.size, o, none⟩ = _ := fun o => hb10.cell (p := ⟨w9.heap.size, o, none⟩) (by ((try simp only [World.size_alloc, World.size_setCell, World.size_drew, size_drewN]); omega))
        have hf10_10 : ∀ o, w10.frozen? ⟨w9.heap.size, o, none⟩ = _ := fun o => hb10.frozen (p := ⟨w9.heap.size, o, none⟩) (by ((try simp only [World.size_alloc, World.size_setCell, World.size_drew, size_drewN]); omega))
        have z10_10 : w9.heap.size < w10.heap.size := (by omega)
        go_wp2
        go_ret
        exact ⟨rfl, (by (repeat' (first | (with_reducible exact Below.refl _ _) | (with_reducible assumption) | (with_reducible refine Below.alloc ?_ ?_ _) | (with_reducible refine Below.drew ?_) | (with_reducible refine below_drewN ?_ _) | (with_reducible refine Below.setCell ?_ ?_ _) | (with_reducible refine below_step (by with_reducible assumption) ?_ ?_) | (first | (with_reducible exact Nat.le_refl _) | (with_reducible assumption) | omega | (simp only [World.size_alloc, World.size_setCell, World.size_drew, size_drewN]; omega) | (simp; omega) | (simp; done)))))⟩
    · have e1 : (addE A B == 0) = false := by rw [addE, if_neg hS]; rfl
      have s0 : addV A B = 0 := by rw [addV, if_neg hS]
      clear hM hS HS
      go_enter Try.func6, Try.ntmps6
      go_wp2_with fail
      refine (add_c HA.out HB.out _).mono ?_
      rintro e w1 ⟨rfl, hb1⟩
      have hs1 := hb1.size
      try simp only [World.size_alloc, World.size_setCell, World.size_drew, size_drewN] at hs1
      have hc1_0 : ∀ o, w1.cell? ⟨w.heap.size, o, none⟩ = _ := fun o => hb1.cell (p := ⟨w.heap.size, o, none⟩) (by ((try simp only [World.size_alloc, World.size_setCell, World.size_drew, size_drewN]); omega))
      have hf1_0 : ∀ o, w1.frozen? ⟨w.heap.size, o, none⟩ = _ := fun o => hb1.frozen (p := ⟨w.heap.size, o, none⟩) (by ((try simp only [World.size_alloc, World.size_setCell, World.size_drew, size_drewN]); omega))
      have z1_0 : w.heap.size < w1.heap.size := (by omega)
      have hc1_1 : ∀ o, w1.cell? ⟨w.heap.size + 1, o, none⟩ = _ := fun o => hb1.cell (p := ⟨w.heap.size + 1, o, none⟩) (by ((try simp only [World.size_alloc, World.size_setCell, World.size_drew, size_drewN]); omega))
      have hf1_1 : ∀ o, w1.frozen? ⟨w.heap.size + 1, o, none⟩ = _ := fun o => hb1.frozen (p := ⟨w.heap.size + 1, o, none⟩) (by ((try simp only [World.size_alloc, World.size_setCell, World.size_drew, size_drewN]); omega))
      have z1_1 : w.heap.size + 1 < w1.heap.size := (by omega)
      have hc1_2 : ∀ o, w1.cell? ⟨w.heap.size + 1 + 1, o, none⟩ = _ := fun o => hb1.cell (p := ⟨w.heap.size + 1 + 1, o, none⟩) (by ((try simp only [World.size_alloc, World.size_setCell, World.size_drew, size_drewN]); omega))
      have hf1_2 : ∀ o, w1.frozen? ⟨w.heap.size + 1 + 1, o, none⟩ = _ := fun o => hb1.frozen (p := ⟨w.heap.size + 1 + 1, o, none⟩) (by ((try simp only [World.size_alloc, World.size_setCell, World.size_drew, size_drewN]); omega))
      have z1_2 : w.heap.size + 1 + 1 < w1.heap.size := (by omega)
      go_wp2_with fail
      refine (add_c HB.out HA.out _).mono ?_
      rintro e w2 ⟨rfl, hb2⟩
      have hs2 := hb2.size
      try simp only [World.size_alloc, World.size_setCell, World.size_drew, size_drewN] at hs2
      have hc2_0 : ∀ o, w2.cell? ⟨w.heap.size, o, none⟩ = _ := fun o => hb2.cell (p := ⟨w.heap.size, o, none⟩) (by ((try simp only [World.size_alloc, World.size_setCell, World.size_drew, size_drewN]); omega))
      have hf2_0 : ∀ o, w2.frozen? ⟨w.heap.size, o, none⟩ = _ := fun o => hb2.frozen (p := ⟨w.heap.size, o, none⟩) (by ((try simp only [World.size_alloc, World.size_setCell, World.size_drew, size_drewN]); omega))
      have z2_0 : w.heap.size < w2.heap.size := (by omega)
      have hc2_1 : ∀ o, w2.cell? ⟨w.heap.size + 1, o, none⟩ = _ := fun o => hb2.cell (p := ⟨w.heap.size + 1, o, none⟩) (by ((try simp only [World.size_alloc, World.size_setCell, World.size_drew, size_drewN]); omega))
      have hf2_1 : ∀ o, w2.frozen? ⟨w.heap.size + 1, o, none⟩ = _ := fun o => hb2.frozen (p := ⟨w.heap.size + 1, o, none⟩) (by ((try simp only [World.size_alloc, World.size_setCell, World.size_drew, size_drewN]); omega))
      have z2_1 : w.heap.size + 1 < w2.heap.size := (by omega)
      have hc2_2 : ∀ o, w2.cell? ⟨w.heap.size + 1 + 1, o, none⟩ = _ := fun o => hb2.cell (p := ⟨w.heap.size + 1 + 1, o, none⟩) (by ((try simp only [World.size_alloc, World.size_setCell, World.size_drew, size_drewN]); omega))
      have hf2_2 : ∀ o, w2.frozen? ⟨w.heap.size + 1 + 1, o, none⟩ = _ := fun o => hb2.frozen (p := ⟨w.heap.size + 1 + 1, o, none⟩) (by ((try simp only [World.size_alloc, World.size_setCell, World.size_drew, size_drewN]); omega))
      have z2_2 : w.heap.size + 1 + 1 < w2.heap.size := (by omega)
      have hc2_3 : ∀ o, w2.cell? ⟨w1.heap.size, o, none⟩ = _ := fun o => hb2.cell (p := ⟨w1.heap.size, o, none⟩) (by ((try simp only [World.size_alloc, World.size_setCell, World.size_drew, size_drewN]); omega))
      have hf2_3 : ∀ o, w2.frozen? ⟨w1.heap.size, o, none⟩ = _ := fun o => hb2.frozen (p := ⟨w1.heap.size, o, none⟩) (by ((try simp only [World.size_alloc, World.size_setCell, World.size_drew, size_drewN]); omega))
      have z2_3 : w1.heap.size < w2.heap.size := (by omega)
      go_wp2_with fail
      refine (mul_c HA.out HB.out _).mono ?_
      rintro e w3 ⟨rfl, hb3⟩
      have hs3 := hb3.size
      try simp only [World.size_alloc, World.size_setCell, World.size_drew, size_drewN] at hs3
      have hc3_0 : ∀ o, w3.cell? ⟨w.heap.size, o, none⟩ = _ := fun o => hb3.cell (p := ⟨w.heap.size, o, none⟩) (by ((try simp only [World.size_alloc, World.size_setCell, World.size_drew, size_drewN]); omega))
      have hf3_0 : ∀ o, w3.frozen? ⟨w.heap.size, o, none⟩ = _ := fun o => hb3.frozen (p := ⟨w.heap.size, o, none⟩) (by ((try simp only [World.size_alloc, World.size_setCell, World.size_drew, size_drewN]); omega))
      have z3_0 : w.heap.size < w3.heap.size := (by omega)
      have hc3_1 : ∀ o, w3.cell? ⟨w.heap.size + 1, o, none⟩ = _ := fun o => hb3.cell (p := ⟨w.heap.size + 1, o, none⟩) (by ((try simp only [World.size_alloc, World.size_setCell, World.size_drew, size_drewN]); omega))
      have hf3_1 : ∀ o, w3.frozen? ⟨w.heap.size + 1, o, none⟩ = _ := fun o => hb3.frozen (p := ⟨w.heap.size + 1, o, none⟩) (by ((try simp only [World.size_alloc, World.size_setCell, World.size_drew, size_drewN]); omega))
      have z3_1 : w.heap.size + 1 < w3.heap.size := (by omega)
      have hc3_2 : ∀ o, w3.cell? ⟨w.heap.size + 1 + 1, o, none⟩ = _ := fun o => hb3.cell (p := ⟨w.heap.size + 1 + 1, o, none⟩) (by ((try simp only [World.size_alloc, World.size_setCell, World.size_drew, size_drewN]); omega))
      have hf3_2 : ∀ o, w3.frozen? ⟨w.heap.size + 1 + 1, o, none⟩ = _ := fun o => hb3.frozen (p := ⟨w.heap.size + 1 + 1, o, none⟩) (by ((try simp only [World.size_alloc, World.size_setCell, World.size_drew, size_drewN]); omega))
      have z3_2 : w.heap.size + 1 + 1 < w3.heap.size := (by omega)
      have hc3_3 : ∀ o, w3.cell? ⟨w1.heap.size, o, none⟩ = _ := fun o => hb3.cell (p := ⟨w1.heap.size, o, none⟩) (by ((try simp only [World.size_alloc, World.size_setCell, World.size_drew, size_drewN]); omega))
      have hf3_3 : ∀ o, w3.frozen? ⟨w1.heap.size, o, none⟩ = _ := fun o => hb3.frozen (p := ⟨w1.heap.size, o, none⟩) (by ((try simp only [World.size_alloc, World.size_setCell, World.size_drew, size_drewN]); omega))
      have z3_3 : w1.heap.size < w3.heap.size := (by omega)
      have hc3_4 : ∀ o, w3.cell? ⟨w2.heap.size, o, none⟩ = _ := fun o => hb3.cell (p := ⟨w2.heap.size, o, none⟩) (by ((try simp only [World.size_alloc, World.size_setCell, World.size_drew, size_drewN]); omega))
      have hf3_4 : ∀ o, w3.frozen? ⟨w2.heap.size, o, none⟩ = _ := fun o => hb3.frozen (p := ⟨w2.heap.size, o, none⟩) (by ((try simp only [World.size_alloc, World.size_setCell, World.size_drew, size_drewN]); omega))
      have z3_4 : w2.heap.size < w3.heap.size := (by omega)
      go_wp2_with fail
      refine (mul_c HB.out HA.out _).mono ?_
      rintro e w4 ⟨rfl, hb4⟩
      have hs4 := hb4.size
      try simp only [World.size_alloc, World.size_setCell, World.size_drew, size_drewN] at hs4
      have hc4_0 : ∀ o, w4.cell? ⟨w.heap.size, o, none⟩ = _ := fun o => hb4.cell (p := ⟨w.heap.size, o, none⟩) (by ((try simp only [World.size_alloc, World.size_setCell, World.size_drew, size_drewN]); omega))
      have hf4_0 : ∀ o, w4.frozen? ⟨w.heap.size, o, none⟩ = _ := fun o => hb4.frozen (p := ⟨w.heap.size, o, none⟩) (by ((try simp only [World.size_alloc, World.size_setCell, World.size_drew, size_drewN]); omega))
      have z4_0 : w.heap.size < w4.heap.size := (by omega)
      have hc4_1 : ∀ o, w4.cell? ⟨w.heap.size + 1, o, none⟩ = _ := fun o => hb4.cell (p := ⟨w.heap.size + 1, o, none⟩) (by ((try simp only [World.size_alloc, World.size_setCell, World.size_drew, size_drewN]); omega))
      have hf4_1 : ∀ o, w4.frozen? ⟨w.heap.size + 1, o, none⟩ = _ := fun o => hb4.frozen (p := ⟨w.heap.size + 1, o, none⟩) (by ((try simp only [World.size_alloc, World.size_setCell, World.size_drew, size_drewN]); omega))
      have z4_1 : w.heap.size + 1 < w4.heap.size := (by omega)
      have hc4_2 : ∀ o, w4.cell? ⟨w.heap.size + 1 + 1, o, none⟩ = _ := fun o => hb4.cell (p := ⟨w.heap.size + 1 + 1, o, none⟩) (by ((try simp only [World.size_alloc, World.size_setCell, World.size_drew, size_drewN]); omega))
      have hf4_2 : ∀ o, w4.frozen? ⟨w.heap.size + 1 + 1, o, none⟩ = _ := fun o => hb4.frozen (p := ⟨w.heap.size + 1 + 1, o, none⟩) (by ((try simp only [World.size_alloc, World.size_setCell, World.size_drew, size_drewN]); omega))
      have z4_2 : w.heap.size + 1 + 1 < w4.heap.size := (by omega)
      have hc4_3 : ∀ o, w4.cell? ⟨w1.heap.size, o, none⟩ = _ := fun o => hb4.cell (p := ⟨w1.heap.size, o, none⟩) (by ((try simp only [World.size_alloc, World.size_setCell, World.size_drew, size_drewN]); omega))
      have hf4_3 : ∀ o, w4.frozen? ⟨w1.heap.size, o, none⟩ = _ := fun o => hb4.frozen (p := ⟨w1.heap.size, o, none⟩) (by ((try simp only [World.size_alloc, World.size_setCell, World.size_drew, size_drewN]); omega))
      have z4_3 : w1.heap.size < w4.heap.size := (by omega)
      have hc4_4 : ∀ o, w4.cell? ⟨w2.heap.size, o, none⟩ = _ := fun o => hb4.cell (p := ⟨w2.heap.size, o, none⟩) (by ((try simp only [World.size_alloc, World.size_setCell, World.size_drew, size_drewN]); omega))
      have hf4_4 : ∀ o, w4.frozen? ⟨w2.heap.size, o, none⟩ = _ := fun o => hb4.frozen (p := ⟨w2.heap.size, o, none⟩) (by ((try simp only [World.size_alloc, World.size_setCell, World.size_drew, size_drewN]); omega))
      have z4_4 : w2.heap.size < w4.heap.size := (by omega)
      have hc4_5 : ∀ o, w4.cell? ⟨w3.heap.size, o, none⟩ = _ := fun o => hb4.cell (p := ⟨w3.heap.size, o, none⟩) (by ((try simp only [World.size_alloc, World.size_setCell, World.size_drew, size_drewN]); omega))
      have hf4_5 : ∀ o, w4.frozen? ⟨w3.heap.size, o, none⟩ = _ := fun o => hb4.frozen (p := ⟨w3.heap.size, o, none⟩) (by ((try simp only [World.size_alloc, World.size_setCell, World.size_drew, size_drewN]); omega))
      have z4_5 : w3.heap.size < w4.heap.size := (by omega)
      go_wp2_with fail
      refine (awake1_c _).mono ?_
      rintro e w5 ⟨rfl, hb5⟩
      have hs5 := hb5.size
      try simp only [World.size_alloc, World.size_setCell, World.size_drew, size_drewN] at hs5
      have hc5_0 : ∀ o, w5.cell? ⟨w.heap.size, o, none⟩ = _ := fun o => hb5.cell (p := ⟨w.heap.size, o, none⟩) (by ((try simp only [World.size_alloc, World.size_setCell, World.size_drew, size_drewN]); omega))
      have hf5_0 : ∀ o, w5.frozen? ⟨w.heap.size, o, none⟩ = _ := fun o => hb5.frozen (p := ⟨w.heap.size, o, none⟩) (by ((try simp only [World.size_alloc, World.size_setCell, World.size_drew, size_drewN]); omega))
      have z5_0 : w.heap.size < w5.heap.size := (by omega)
      have hc5_1 : ∀ o, w5.cell? ⟨w.heap.size + 1, o, none⟩ = _ := fun o => hb5.cell (p := ⟨w.heap.size + 1, o, none⟩) (by ((try simp only [World.size_alloc, World.size_setCell, World.size_drew, size_drewN]); omega))
      have hf5_1 : ∀ o, w5.frozen? ⟨w.heap.size + 1, o, none⟩ = _ := fun o => hb5.frozen (p := ⟨w.heap.size + 1, o, none⟩) (by ((try simp only [World.size_alloc, World.size_setCell, World.size_drew, size_drewN]); omega))
      have z5_1 : w.heap.size + 1 < w5.heap.size := (by omega)
      have hc5_2 : ∀ o, w5.cell? ⟨w.heap.size + 1 + 1, o, none⟩ = _ := fun o => hb5.cell (p := ⟨w.heap.size + 1 + 1, o, none⟩) (by ((try simp only [World.size_alloc, World.size_setCell, World.size_drew, size_drewN]); omega))
      have hf5_2 : ∀ o, w5.frozen? ⟨w.heap.size + 1 + 1, o, none⟩ = _ := fun o => hb5.frozen (p := ⟨w.heap.size + 1 + 1, o, none⟩) (by ((try simp only [World.size_alloc, World.size_setCell, World.size_drew, size_drewN]); omega))
      have z5_2 : w.heap.size + 1 + 1 < w5.heap.size := (by omega)
      have hc5_3 : ∀ o, w5.cell? ⟨w1.heap.size, o, none⟩ = _ := fun o => hb5.cell (p := ⟨w1.heap.size, o, none⟩) (by ((try simp only [World.size_alloc, World.size_setCell, World.size_drew, size_drewN]); omega))
      have hf5_3 : ∀ o, w5.frozen? ⟨w1.heap.size, o, none⟩ = _ := fun o => hb5.frozen (p := ⟨w1.heap.size, o, none⟩) (by ((try simp only [World.size_alloc, World.size_setCell, World.size_drew, size_drewN]); omega))
      have z5_3 : w1.heap.size < w5.heap.size := (by omega)
      have hc5_4 : ∀ o, w5.cell? ⟨w2.heap.size, o, none⟩ = _ := fun o => hb5.cell (p := ⟨w2.heap.size, o, none⟩) (by ((try simp only [World.size_alloc, World.size_setCell, World.size_drew, size_drewN]); omega))
      have hf5_4 : ∀ o, w5.frozen? ⟨w2.heap.size, o, none⟩ = _ := fun o => hb5.frozen (p := ⟨w2.heap.size, o, none⟩) (by ((try simp only [World.size_alloc, World.size_setCell, World.size_drew, size_drewN]); omega))
      have z5_4 : w2.heap.size < w5.heap.size := (by omega)
      have hc5_5 : ∀ o, w5.cell? ⟨w3.heap.size, o, none⟩ = _ := fun o => hb5.cell (p := ⟨w3.heap.size, o, none⟩) (by ((try simp only [World.size_alloc, World.size_setCell, World.size_drew, size_drewN]); omega))
      have hf5_5 : ∀ o, w5.frozen? ⟨w3.heap.size, o, none⟩ = _ := fun o => hb5.frozen (p := ⟨w3.heap.size, o, none⟩) (by ((try simp only [World.size_alloc, World.size_setCell, World.size_drew, size_drewN]); omega))
      have z5_5 : w3.heap.size < w5.heap.size := (by omega)
      have hc5_6 : ∀ o, w5.cell? ⟨w4.heap.size, o, none⟩ = _ := fun o => hb5.cell (p := ⟨w4.heap.size, o, none⟩) (by ((try simp only [World.size_alloc, World.size_setCell, World.size_drew, size_drewN]); omega))
      have hf5_6 : ∀ o, w5.frozen? ⟨w4.heap.size, o, none⟩ = _ := fun o => hb5.frozen (p := ⟨w4.heap.size, o, none⟩) (by ((try simp only [World.size_alloc, World.size_setCell, World.size_drew, size_drewN]); omega))
      have z5_6 : w4.heap.size < w5.heap.size := (by omega)
      go_wp2
      go_ret
      exact ⟨rfl, (by (repeat' (first | (with_reducible exact Below.refl _ _) | (with_reducible assumption) | (with_reducible refine Below.alloc ?_ ?_ _) | (with_reducible refine Below.drew ?_) | (with_reducible refine below_drewN ?_ _) | (with_reducible refine Below.setCell ?_ ?_ _) | (with_reducible refine below_step (by with_reducible assumption) ?_ ?_) | (first | (with_reducible exact Nat.le_refl _) | (with_reducible assumption) | omega | (simp only [World.size_alloc, World.size_setCell, World.size_drew, size_drewN]; omega) | (simp; omega) | (simp; done)))))⟩
  · have g1 : (mulE A B == 0) = false := by rw [mulE, if_neg hM]; rfl
    have g2 : mulV A B = 0 := by rw [mulV, if_neg hM]
    by_cases hS : A + B < M256
    · have e1 : (addE A B == 0) = true := by rw [addE, if_pos hS]; rfl
      have s0 : addV A B = A + B := by rw [addV, if_pos hS]
      have s1 : subV (addV A B) B = A := by rw [s0, subV, if_neg (by omega)]; omega
      have s2 : (subE (addV A B) B != 0) = false := by rw [s0, subE, if_neg (by omega)]; rfl
      have s3 : decide (cmpV (addV A B) A < 0) = false := by rw [s0]; unfold cmpV; rw [if_neg (by omega)]; split <;> rfl
      by_cases hD : (A + B) * C < M256
      · have d1 : (mulE (addV A B) C == 0) = true := by rw [s0, mulE, if_pos hD]; rfl
        have hAC : A * C < M256 := Nat.lt_of_le_of_lt (Nat.mul_le_mul_right _ (by omega)) hD
        have hBC : B * C < M256 := Nat.lt_of_le_of_lt (Nat.mul_le_mul_right _ (by omega)) hD
        have hsum : A * C + B * C = (A + B) * C := (Nat.add_mul A B C).symm
        have d2 : (mulE A C != 0) = false := by rw [mulE, if_pos hAC]; rfl
        have d3 : (mulE B C != 0) = false := by rw [mulE, if_pos hBC]; rfl
        have d4 : (addE (mulV A C) (mulV B C) != 0) = false := by rw [mulV, mulV, if_pos hAC, if_pos hBC, addE, hsum, if_pos hD]; rfl
        have d5 : addV (mulV A C) (mulV B C) = mulV (addV A B) C := by rw [s0, mulV, mulV, mulV, if_pos hAC, if_pos hBC, if_pos hD, addV, hsum, if_pos hD]
        have HM1 := hide (isU_lim (mulV_lt A C))
        have HM2 := hide (isU_lim (mulV_lt B C))
        clear hM hS hD hAC hBC hsum s0
        go_enter Try.func6, Try.ntmps6
        go_wp2_with fail
        refine (add_c HA.out HB.out _).mono ?_
        rintro e w1 ⟨rfl, hb1⟩
        have hs1 := hb1.size
        try simp only [World.size_alloc, World.size_setCell, World.size_drew, size_drewN] at hs1
        have hc1_0 : ∀ o, w1.cell? ⟨w.heap.size, o, none⟩ = _ := fun o => hb1.cell (p := ⟨w.heap.size, o, none⟩) (by ((try simp only [World.size_alloc, World.size_setCell, World.size_drew, size_drewN]); omega))
        have hf1_0 : ∀ o, w1.frozen? ⟨w.heap.size, o, none⟩ = _ := fun o => hb1.frozen (p := ⟨w.heap.size, o, none⟩) (by ((try simp only [World.size_alloc, World.size_setCell, World.size_drew, size_drewN]); omega))
        have z1_0 : w.heap.size < w1.heap.size := (by omega)
        have hc1_1 : ∀ o, w1.cell? ⟨w.heap.size + 1, o, none⟩ = _ := fun o => hb1.cell (p := ⟨w.heap.size + 1, o, none⟩) (by ((try simp only [World.size_alloc, World.size_setCell, World.size_drew, size_drewN]); omega))
        have hf1_1 : ∀ o, w1.frozen? ⟨w.heap.size + 1, o, none⟩ = _ := fun o => hb1.frozen (p := ⟨w.heap.size + 1, o, none⟩) (by ((try simp only [World.size_alloc, World.size_setCell, World.size_drew, size_drewN]); omega))
        have z1_1 : w.heap.size + 1 < w1.heap.size := (by omega)
        have hc1_2 : ∀ o, w1.cell? ⟨w.heap.size + 1 + 1, o, none⟩ = _ := fun o => hb1.cell (p := ⟨w.heap.size + 1 + 1, o, none⟩) (by ((try simp only [World.size_alloc, World.size_setCell, World.size_drew, size_drewN]); omega))
        have hf1_2 : ∀ o, w1.frozen? ⟨w.heap.size + 1 + 1, o, none⟩ = _ := fun o => hb1.frozen (p := ⟨w.heap.size + 1 + 1, o, none⟩) (by ((try simp only [World.size_alloc, World.size_setCell, World.size_drew, size_drewN]); omega))
        have z1_2 : w.heap.size + 1 + 1 < w1.heap.size := (by omega)
        go_wp2_with fail
        refine (add_c HB.out HA.out _).mono ?_
        rintro e w2 ⟨rfl, hb2⟩
        have hs2 := hb2.size
        try simp only [World.size_alloc, World.size_setCell, World.size_drew, size_drewN] at hs2
        have hc2_0 : ∀ o, w2.cell? ⟨w.heap.size, o, none⟩ = _ := fun o => hb2.cell (p := ⟨w.heap.size, o, none⟩) (by ((try simp only [World.size_alloc, World.size_setCell, World.size_drew, size_drewN]); omega))
        have hf2_0 : ∀ o, w2.frozen? ⟨w.heap.size, o, none⟩ = _ := fun o => hb2.frozen (p := ⟨w.heap.size, o, none⟩) (by ((try simp only [World.size_alloc, World.size_setCell, World.size_drew, size_drewN]); omega))
        have z2_0 : w.heap.size < w2.heap.size := (by omega)
        have hc2_1 : ∀ o, w2.cell? ⟨w.heap.size + 1, o, none⟩ = _ := fun o => hb2.cell (p := ⟨w.heap.size + 1, o, none⟩) (by ((try simp only [World.size_alloc, World.size_setCell, World.size_drew, size_drewN]); omega))
        have hf2_1 : ∀ o, w2.frozen? ⟨w.heap.size + 1, o, none⟩ = _ := fun o => hb2.frozen (p := ⟨w.heap.size + 1, o, none⟩) (by ((try simp only [World.size_alloc, World.size_setCell, World.size_drew, size_drewN]); omega))
        have z2_1 : w.heap.size + 1 < w2.heap.size := (by omega)
        have hc2_2 : ∀ o, w2.cell? ⟨w.heap.size + 1 + 1, o, none⟩ = _ := fun o => hb2.cell (p := ⟨w.heap.size + 1 + 1, o, none⟩) (by ((try simp only [World.size_alloc, World.size_setCell, World.size_drew, size_drewN]); omega))
        have hf2_2 : ∀ o, w2.frozen? ⟨w.heap.size + 1 + 1, o, none⟩ = _ := fun o => hb2.frozen (p := ⟨w.heap.size + 1 + 1, o, none⟩) (by ((try simp only [World.size_alloc, World.size_setCell, World.size_drew, size_drewN]); omega))
        have z2_2 : w.heap.size + 1 + 1 < w2.heap.size := (by omega)
        have hc2_3 : ∀ o, w2.cell? ⟨w1.heap.size, o, none⟩ = _ := fun o => hb2.cell (p := ⟨w1.heap.size, o, none⟩) (by ((try simp only [World.size_alloc, World.size_setCell, World.size_drew, size_drewN]); omega))
        have hf2_3 : ∀ o, w2.frozen? ⟨w1.heap.size, o, none⟩ = _ := fun o => hb2.frozen (p := ⟨w1.heap.size, o, none⟩) (by ((try simp only [World.size_alloc, World.size_setCell, World.size_drew, size_drewN]); omega))
        have z2_3 : w1.heap.size < w2.heap.size := (by omega)
        go_wp2_with fail
        refine (mul_c HA.out HB.out _).mono ?_
        rintro e w3 ⟨rfl, hb3⟩
        have hs3 := hb3.size
        try simp only [World.size_alloc, World.size_setCell, World.size_drew, size_drewN] at hs3
        have hc3_0 : ∀ o, w3.cell? ⟨w.heap.size, o, none⟩ = _ := fun o => hb3.cell (p := ⟨w.heap.size, o, none⟩) (by ((try simp only [World.size_alloc, World.size_setCell, World.size_drew, size_drewN]); omega))
        have hf3_0 : ∀ o, w3.frozen? ⟨w.heap.size, o, none⟩ = _ := fun o => hb3.frozen (p := ⟨w.heap.size, o, none⟩) (by ((try simp only [World.size_alloc, World.size_setCell, World.size_drew, size_drewN]); omega))
        have z3_0 : w.heap.size < w3.heap.size := (by omega)
        have hc3_1 : ∀ o, w3.cell? ⟨w.heap.size + 1, o, none⟩ = _ := fun o => hb3.cell (p := ⟨w.heap.size + 1, o, none⟩) (by ((try simp only [World.size_alloc, World.size_setCell, World.size_drew, size_drewN]); omega))
        have hf3_1 : ∀ o, w3.frozen? ⟨w.heap.size + 1, o, none⟩ = _ := fun o => hb3.frozen (p := ⟨w.heap.size + 1, o, none⟩) (by ((try simp only [World.size_alloc, World.size_setCell, World.size_drew, size_drewN]); omega))
        have z3_1 : w.heap.size + 1 < w3.heap.size := (by omega)
        have hc3_2 : ∀ o, w3.cell? ⟨w.heap.size + 1 + 1, o, none⟩ = _ := fun o => hb3.cell (p := ⟨w.heap.size + 1 + 1, o, none⟩) (by ((try simp only [World.size_alloc, World.size_setCell, World.size_drew, size_drewN]); omega))
        have hf3_2 : ∀ o, w3.frozen? ⟨w.heap.size + 1 + 1, o, none⟩ = _ := fun o => hb3.frozen (p := ⟨w.heap.size + 1 + 1, o, none⟩) (by ((try simp only [World.size_alloc, World.size_setCell, World.size_drew, size_drewN]); omega))
        have z3_2 : w.heap.size + 1 + 1 < w3.heap.size := (by omega)
        have hc3_3 : ∀ o, w3.cell? ⟨w1.heap.size, o, none⟩ = _ := fun o => hb3.cell (p := ⟨w1.heap.size, o, none⟩) (by ((try simp only [World.size_alloc, World.size_setCell, World.size_drew, size_drewN]); omega))
        have hf3_3 : ∀ o, w3.frozen? ⟨w1.heap.size, o, none⟩ = _ := fun o => hb3.frozen (p := ⟨w1.heap.size, o, none⟩) (by ((try simp only [World.size_alloc, World.size_setCell, World.size_drew, size_drewN]); omega))
        have z3_3 : w1.heap.size < w3.heap.size := (by omega)
        have hc3_4 : ∀ o, w3.cell? ⟨w2.heap.size, o, none⟩ = _ := fun o => hb3.cell (p := ⟨w2.heap.size, o, none⟩) (by ((try simp only [World.size_alloc, World.size_setCell, World.size_drew, size_drewN]); omega))
        have hf3_4 : ∀ o, w3.frozen? ⟨w2.heap.size, o, none⟩ = _ := fun o => hb3.frozen (p := ⟨w2.heap.size, o, none⟩) (by ((try simp only [World.size_alloc, World.size_setCell, World.size_drew, size_drewN]); omega))
        have z3_4 : w2.heap.size < w3.heap.size := (by omega)
        go_wp2_with fail
        refine (mul_c HB.out HA.out _).mono ?_
        rintro e w4 ⟨rfl, hb4⟩
        have hs4 := hb4.size
        try simp only [World.size_alloc, World.size_setCell, World.size_drew, size_drewN] at hs4
        have hc4_0 : ∀ o, w4.cell? ⟨w.heap.size, o, none⟩ = _ := fun o => hb4.cell (p := ⟨w.heap.size, o, none⟩) (by ((try simp only [World.size_alloc, World.size_setCell, World.size_drew, size_drewN]); omega))
        have hf4_0 : ∀ o, w4.frozen? ⟨w.heap.size, o, none⟩ = _ := fun o => hb4.frozen (p := ⟨w.heap.size, o, none⟩) (by ((try simp only [World.size_alloc, World.size_setCell, World.size_drew, size_drewN]); omega))
        have z4_0 : w.heap.size < w4.heap.size := (by omega)
        have hc4_1 : ∀ o, w4.cell? ⟨w.heap.size + 1, o, none⟩ = _ := fun o => hb4.cell (p := ⟨w.heap.size + 1, o, none⟩) (by ((try simp only [World.size_alloc, World.size_setCell, World.size_drew, size_drewN]); omega))
        have hf4_1 : ∀ o, w4.frozen? ⟨w.heap.size + 1, o, none⟩ = _ := fun o => hb4.frozen (p := ⟨w.heap.size + 1, o, none⟩) (by ((try simp only [World.size_alloc, World.size_setCell, World.size_drew, size_drewN]); omega))
        have z4_1 : w.heap.size + 1 < w4.heap.size := (by omega)
        have hc4_2 : ∀ o, w4.cell? ⟨w.heap.size + 1 + 1, o, none⟩ = _ := fun o => hb4.cell (p := ⟨w.heap.size + 1 + 1, o, none⟩) (by ((try simp only [World.size_alloc, World.size_setCell, World.size_drew, size_drewN]); omega))
        have hf4_2 : ∀ o, w4.frozen? ⟨w.heap.size + 1 + 1, o, none⟩ = _ := fun o => hb4.frozen (p := ⟨w.heap.size + 1 + 1, o, none⟩) (by ((try simp only [World.size_alloc, World.size_setCell, World.size_drew, size_drewN]); omega))
        have z4_2 : w.heap.size + 1 + 1 < w4.heap.size := (by omega)
        have hc4_3 : ∀ o, w4.cell? ⟨w1.heap.size, o, none⟩ = _ := fun o => hb4.cell (p := ⟨w1.heap.size, o, none⟩) (by ((try simp only [World.size_alloc, World.size_setCell, World.size_drew, size_drewN]); omega))
        have hf4_3 : ∀ o, w4.frozen? ⟨w1.heap.size, o, none⟩ = _ := fun o => hb4.frozen (p := ⟨w1.heap.size, o, none⟩) (by ((try simp only [World.size_alloc, World.size_setCell, World.size_drew, size_drewN]); omega))
        have z4_3 : w1.heap.size < w4.heap.size := (by omega)
        have hc4_4 : ∀ o, w4.cell? ⟨w2.heap.size, o, none⟩ = _ := fun o => hb4.cell (p := ⟨w2.heap.size, o, none⟩) (by ((try simp only [World.size_alloc, World.size_setCell, World.size_drew, size_drewN]); omega))
        have hf4_4 : ∀ o, w4.frozen? ⟨w2.heap.size, o, none⟩ = _ := fun o => hb4.frozen (p := ⟨w2.heap.size, o, none⟩) (by ((try simp only [World.size_alloc, World.size_setCell, World.size_drew, size_drewN]); omega))
        have z4_4 : w2.heap.size < w4.heap.size := (by omega)
        have hc4_5 : ∀ o, w4.cell? ⟨w3.heap.size, o, none⟩ = _ := fun o => hb4.cell (p := ⟨w3.heap.size, o, none⟩) (by ((try simp only [World.size_alloc, World.size_setCell, World.size_drew, size_drewN]); omega))
        have hf4_5 : ∀ o, w4.frozen? ⟨w3.heap.size, o, none⟩ = _ := fun o => hb4.frozen (p := ⟨w3.heap.size, o, none⟩) (by ((try simp only [World.size_alloc, World.size_setCell, World.size_drew, size_drewN]); omega))
        have z4_5 : w3.heap.size < w4.heap.size := (by omega)
        go_wp2_with fail
        refine (sub_c HS.out HB.out _).mono ?_
        rintro e w5 ⟨rfl, hb5⟩
        have hs5 := hb5.size
        try simp only [World.size_alloc, World.size_setCell, World.size_drew, size_drewN] at hs5
        have hc5_0 : ∀ o, w5.cell? ⟨w.heap.size, o, none⟩ = _ := fun o => hb5.cell (p := ⟨w.heap.size, o, none⟩) (by ((try simp only [World.size_alloc, World.size_setCell, World.size_drew, size_drewN]); omega))
        have hf5_0 : ∀ o, w5.frozen? ⟨w.heap.size, o, none⟩ = _ := fun o => hb5.frozen (p := ⟨w.heap.size, o, none⟩) (by ((try simp only [World.size_alloc, World.size_setCell, World.size_drew, size_drewN]); omega))
        have z5_0 : w.heap.size < w5.heap.size := (by omega)
        have hc5_1 : ∀ o, w5.cell? ⟨w.heap.size + 1, o, none⟩ = _ := fun o => hb5.cell (p := ⟨w.heap.size + 1, o, none⟩) (by ((try simp only [World.size_alloc, World.size_setCell, World.size_drew, size_drewN]); omega))
        have hf5_1 : ∀ o, w5.frozen? ⟨w.heap.size + 1, o, none⟩ = _ := fun o => hb5.frozen (p := ⟨w.heap.size + 1, o, none⟩) (by ((try simp only [World.size_alloc, World.size_setCell, World.size_drew, size_drewN]); omega))
        have z5_1 : w.heap.size + 1 < w5.heap.size := (by omega)
        have hc5_2 : ∀ o, w5.cell? ⟨w.heap.size + 1 + 1, o, none⟩ = _ := fun o => hb5.cell (p := ⟨w.heap.size + 1 + 1, o, none⟩) (by ((try simp only [World.size_alloc, World.size_setCell, World.size_drew, size_drewN]); omega))
        have hf5_2 : ∀ o, w5.frozen? ⟨w.heap.size + 1 + 1, o, none⟩ = _ := fun o => hb5.frozen (p := ⟨w.heap.size + 1 + 1, o, none⟩) (by ((try simp only [World.size_alloc, World.size_setCell, World.size_drew, size_drewN]); omega))
        have z5_2 : w.heap.size + 1 + 1 < w5.heap.size := (by omega)
        have hc5_3 : ∀ o, w5.cell? ⟨w1.heap.size, o, none⟩ = _ := fun o => hb5.cell (p := ⟨w1.heap.size, o, none⟩) (by ((try simp only [World.size_alloc, World.size_setCell, World.size_drew, size_drewN]); omega))
        have hf5_3 : ∀ o, w5.frozen? ⟨w1.heap.size, o, none⟩ = _ := fun o => hb5.frozen (p := ⟨w1.heap.size, o, none⟩) (by ((try simp only [World.size_alloc, World.size_setCell, World.size_drew, size_drewN]); omega))
        have z5_3 : w1.heap.size < w5.heap.size := (by omega)
        have hc5_4 : ∀ o, w5.cell? ⟨w2.heap.size, o, none⟩ = _ := fun o => hb5.cell (p := ⟨w2.heap.size, o, none⟩) (by ((try simp only [World.size_alloc, World.size_setCell, World.size_drew, size_drewN]); omega))
        have hf5_4 : ∀ o, w5.frozen? ⟨w2.heap.size, o, none⟩ = _ := fun o => hb5.frozen (p := ⟨w2.heap.size, o, none⟩) (by ((try simp only [World.size_alloc, World.size_setCell, World.size_drew, size_drewN]); omega))
        have z5_4 : w2.heap.size < w5.heap.size := (by omega)
        have hc5_5 : ∀ o, w5.cell? ⟨w3.heap.size, o, none⟩ = _ := fun o => hb5.cell (p := ⟨w3.heap.size, o, none⟩) (by ((try simp only [World.size_alloc, World.size_setCell, World.size_drew, size_drewN]); omega))
        have hf5_5 : ∀ o, w5.frozen? ⟨w3.heap.size, o, none⟩ = _ := fun o => hb5.frozen (p := ⟨w3.heap.size, o, none⟩) (by ((try simp only [World.size_alloc, World.size_setCell, World.size_drew, size_drewN]); omega))
        have z5_5 : w3.heap.size < w5.heap.size := (by omega)
        have hc5_6 : ∀ o, w5.cell? ⟨w4.heap.size, o, none⟩ = _ := fun o => hb5.cell (p := ⟨w4.heap.size, o, none⟩) (by ((try simp only [World.size_alloc, World.size_setCell, World.size_drew, size_drewN]); omega))
        have hf5_6 : ∀ o, w5.frozen? ⟨w4.heap.size, o, none⟩ = _ := fun o => hb5.frozen (p := ⟨w4.heap.size, o, none⟩) (by ((try simp only [World.size_alloc, World.size_setCell, World.size_drew, size_drewN]); omega))
        have z5_6 : w4.heap.size < w5.heap.size := (by omega)
        go_wp2_with fail
        refine (cmp_c HS.out HA.out _).mono ?_
        rintro e w6 ⟨rfl, hb6⟩
        have hs6 := hb6.size
        try simp only [World.size_alloc, World.size_setCell, World.size_drew, size_drewN] at hs6
        have hc6_0 : ∀ o, w6.cell? ⟨w.heap.size, o, none⟩ = _ := fun o => hb6.cell (p := ⟨w.heap.size, o, none⟩) (by ((try simp only [World.size_alloc, World.size_setCell, World.size_drew, size_drewN]); omega))
        have hf6_0 : ∀ o, w6.frozen? ⟨w.heap.size, o, none⟩ = _ := fun o => hb6.frozen (p := ⟨w.heap.size, o, none⟩) (by ((try simp only [World.size_alloc, World.size_setCell, World.size_drew, size_drewN]); omega))
        have z6_0 : w.heap.size < w6.heap.size := (by omega)
        have hc6_1 : ∀ o, w6.cell? ⟨w.heap.size + 1, o, none⟩ = _ := fun o => hb6.cell (p := ⟨w.heap.size + 1, o, none⟩) (by ((try simp only [World.size_alloc, World.size_setCell, World.size_drew, size_drewN]); omega))
        have hf6_1 : ∀ o, w6.frozen? ⟨w.heap.size + 1, o, none⟩ = _ := fun o => hb6.frozen (p := ⟨w.heap.size + 1, o, none⟩) (by ((try simp only [World.size_alloc, World.size_setCell, World.size_drew, size_drewN]); omega))
        have z6_1 : w.heap.size + 1 < w6.heap.size := (by omega)
        have hc6_2 : ∀ o, w6.cell? ⟨w.heap.size + 1 + 1, o, none⟩ = _ := fun o => hb6.cell (p := ⟨w.heap.size + 1 + 1, o, none⟩) (by ((try simp only [World.size_alloc, World.size_setCell, World.size_drew, size_drewN]); omega))
        have hf6_2 : ∀ o, w6.frozen? ⟨w.heap.size + 1 + 1, o, none⟩ = _ := fun o => hb6.frozen (p := ⟨w.heap.size + 1 + 1, o, none⟩) (by ((try simp only [World.size_alloc, World.size_setCell, World.size_drew, size_drewN]); omega))
        have z6_2 : w.heap.size + 1 + 1 < w6.heap.size := (by omega)
        have hc6_3 : ∀ o, w6.cell? ⟨w1.heap.size, o, none⟩ = _ := fun o => hb6.cell (p := ⟨w1.heap.size, o, none⟩) (by ((try simp only [World.size_alloc, World.size_setCell, World.size_drew, size_drewN]); omega))
        have hf6_3 : ∀ o, w6.frozen? ⟨w1.heap.size, o, none⟩ = _ := fun o => hb6.frozen (p := ⟨w1.heap.size, o, none⟩) (by ((try simp only [World.size_alloc, World.size_setCell, World.size_drew, size_drewN]); omega))
        have z6_3 : w1.heap.size < w6.heap.size := (by omega)
        have hc6_4 : ∀ o, w6.cell? ⟨w2.heap.size, o, none⟩ = _ := fun o => hb6.cell (p := ⟨w2.heap.size, o, none⟩) (by ((try simp only [World.size_alloc, World.size_setCell, World.size_drew, size_drewN]); omega))
        have hf6_4 : ∀ o, w6.frozen? ⟨w2.heap.size, o, none⟩ = _ := fun o => hb6.frozen (p := ⟨w2.heap.size, o, none⟩) (by ((try simp only [World.size_alloc, World.size_setCell, World.size_drew, size_drewN]); omega))
        have z6_4 : w2.heap.size < w6.heap.size := (by omega)
        have hc6_5 : ∀ o, w6.cell? ⟨w3.heap.size, o, none⟩ = _ := fun o => hb6.cell (p := ⟨w3.heap.size, o, none⟩) (by ((try simp only [World.size_alloc, World.size_setCell, World.size_drew, size_drewN]); omega))
        have hf6_5 : ∀ o, w6.frozen? ⟨w3.heap.size, o, none⟩ = _ := fun o => hb6.frozen (p := ⟨w3.heap.size, o, none⟩) (by ((try simp only [World.size_alloc, World.size_setCell, World.size_drew, size_drewN]); omega))
        have z6_5 : w3.heap.size < w6.heap.size := (by omega)
        have hc6_6 : ∀ o, w6.cell? ⟨w4.heap.size, o, none⟩ = _ := fun o => hb6.cell (p := ⟨w4.heap.size, o, none⟩) (by ((try simp only [World.size_alloc, World.size_setCell, World.size_drew, size_drewN]); omega))
        have hf6_6 : ∀ o, w6.frozen? ⟨w4.heap.size, o, none⟩ = _ := fun o => hb6.frozen (p := ⟨w4.heap.size, o, none⟩) (by ((try simp only [World.size_alloc, World.size_setCell, World.size_drew, size_drewN]); omega))
        have z6_6 : w4.heap.size < w6.heap.size := (by omega)
        have hc6_7 : ∀ o, w6.cell? ⟨w5.heap.size, o, none⟩ = _ := fun o => hb6.cell (p := ⟨w5.heap.size, o, none⟩) (by ((try simp only [World.size_alloc, World.size_setCell, World.size_drew, size_drewN]); omega))
        have hf6_7 : ∀ o, w6.frozen? ⟨w5.heap.size, o, none⟩ = _ := fun o => hb6.frozen (p := ⟨w5.heap.size, o, none⟩) (by ((try simp only [World.size_alloc, World.size_setCell, World.size_drew, size_drewN]); omega))
        have z6_7 : w5.heap.size < w6.heap.size := (by omega)
        go_wp2_with fail
        refine (mul_c HS.out HC.out _).mono ?_
        rintro e w7 ⟨rfl, hb7⟩
        have hs7 := hb7.size
        try simp only [World.size_alloc, World.size_setCell, World.size_drew, size_drewN] at hs7
        have hc7_0 : ∀ o, w7.cell? ⟨w.heap.size, o, none⟩ = _ := fun o => hb7.cell (p := ⟨w.heap.size, o, none⟩) (by ((try simp only [World.size_alloc, World.size_setCell, World.size_drew, size_drewN]); omega))
        have hf7_0 : ∀ o, w7.frozen? ⟨w.heap.size, o, none⟩ = _ := fun o => hb7.frozen (p := ⟨w.heap.size, o, none⟩) (by ((try simp only [World.size_alloc, World.size_setCell, World.size_drew, size_drewN]); omega))
        have z7_0 : w.heap.size < w7.heap.size := (by omega)
        have hc7_1 : ∀ o, w7.cell? ⟨w.heap.size + 1, o, none⟩ = _ := fun o => hb7.cell (p := ⟨w.heap.size + 1, o, none⟩) (by ((try simp only [World.size_alloc, World.size_setCell, World.size_drew, size_drewN]); omega))
        have hf7_1 : ∀ o, w7.frozen? ⟨w.heap.size + 1, o, none⟩ = _ := fun o => hb7.frozen (p := ⟨w.heap.size + 1, o, none⟩) (by ((try simp only [World.size_alloc, World.size_setCell, World.size_drew, size_drewN]); omega))
        have z7_1 : w.heap.size + 1 < w7.heap.size := (by omega)
        have hc7_2 : ∀ o, w7.cell? ⟨w.heap.size + 1 + 1, o, none⟩ = _ := fun o => hb7.cell (p := ⟨w.heap.size + 1 + 1, o, none⟩) (by ((try simp only [World.size_alloc, World.size_setCell, World.size_drew, size_drewN]); omega))
        have hf7_2 : ∀ o, w7.frozen? ⟨w.heap.size + 1 + 1, o, none⟩ = _ := fun o => hb7.frozen (p := ⟨w.heap.size + 1 + 1, o, none⟩) (by ((try simp only [World.size_alloc, World.size_setCell, World.size_drew, size_drewN]); omega))
        have z7_2 : w.heap.size + 1 + 1 < w7.heap.size := (by omega)
        have hc7_3 : ∀ o, w7.cell? ⟨w1.heap.size, o, none⟩ = _ := fun o => hb7.cell (p := ⟨w1.heap.size, o, none⟩) (by ((try simp only [World.size_alloc, World.size_setCell, World.size_drew, size_drewN]); omega))
        have hf7_3 : ∀ o, w7.frozen? ⟨w1.heap.size, o, none⟩ = _ := fun o => hb7.frozen (p := ⟨w1.heap.size, o, none⟩) (by ((try simp only [World.size_alloc, World.size_setCell, World.size_drew, size_drewN]); omega))
        have z7_3 : w1.heap.size < w7.heap.size := (by omega)
        have hc7_4 : ∀ o, w7.cell? ⟨w2.heap.size, o, none⟩ = _ := fun o => hb7.cell (p := ⟨w2.heap.size, o, none⟩) (by ((try simp only [World.size_alloc, World.size_setCell, World.size_drew, size_drewN]); omega))
        have hf7_4 : ∀ o, w7.frozen? ⟨w2.heap.size, o, none⟩ = _ := fun o => hb7.frozen (p := ⟨w2.heap.size, o, none⟩) (by ((try simp only [World.size_alloc, World.size_setCell, World.size_drew, size_drewN]); omega))
        have z7_4 : w2.heap.size < w7.heap.size := (by omega)
        have hc7_5 : ∀ o, w7.cell? ⟨w3.heap.size, o, none⟩ = _ := fun o => hb7.cell (p := ⟨w3.heap.size, o, none⟩) (by ((try simp only [World.size_alloc, World.size_setCell, World.size_drew, size_drewN]); omega))
        have hf7_5 : ∀ o, w7.frozen? ⟨w3.heap.size, o, none⟩ = _ := fun o => hb7.frozen (p := ⟨w3.heap.size, o, none⟩) (by ((try simp only [World.size_alloc, World.size_setCell, World.size_drew, size_drewN]); omega))
        have z7_5 : w3.heap.size < w7.heap.size := (by omega)
        have hc7_6 : ∀ o, w7.cell? ⟨w4.heap.size, o, none⟩ = _ := fun o => hb7.cell (p := ⟨w4.heap.size, o, none⟩) (by ((try simp only [World.size_alloc, World.size_setCell, World.size_drew, size_drewN]); omega))
        have hf7_6 : ∀ o, w7.frozen? ⟨w4.heap.size, o, none⟩ = _ := fun o => hb7.frozen (p := ⟨w4.heap.size, o, none⟩) (by ((try simp only [World.size_alloc, World.size_setCell, World.size_drew, size_drewN]); omega))
        have z7_6 : w4.heap.size < w7.heap.size := (by omega)
        have hc7_7 : ∀ o, w7.cell? ⟨w5.heap.size, o, none⟩ = _ := fun o => hb7.cell (p := ⟨w5.heap.size, o, none⟩) (by ((try simp only [World.size_alloc, World.size_setCell, World.size_drew, size_drewN]); omega))
        have hf7_7 : ∀ o, w7.frozen? ⟨w5.heap.size, o, none⟩ = _ := fun o => hb7.frozen (p := ⟨w5.heap.size, o, none⟩) (by ((try simp only [World.size_alloc, World.size_setCell, World.size_drew, size_drewN]); omega))
        have z7_7 : w5.heap.size < w7.heap.size := (by omega)
        go_wp2_with fail
        refine (mul_c HA.out HC.out _).mono ?_
        rintro e w8 ⟨rfl, hb8⟩
        have hs8 := hb8.size
        try simp only [World.size_alloc, World.size_setCell, World.size_drew, size_drewN] at hs8
        have hc8_0 : ∀ o, w8.cell? ⟨w.heap.size, o, none⟩ = _ := fun o => hb8.cell (p := ⟨w.heap.size, o, none⟩) (by ((try simp only [World.size_alloc, World.size_setCell, World.size_drew, size_drewN]); omega))
        have hf8_0 : ∀ o, w8.frozen? ⟨w.heap.size, o, none⟩ = _ := fun o => hb8.frozen (p := ⟨w.heap.size, o, none⟩) (by ((try simp only [World.size_alloc, World.size_setCell, World.size_drew, size_drewN]); omega))
        have z8_0 : w.heap.size < w8.heap.size := (by omega)
        have hc8_1 : ∀ o, w8.cell? ⟨w.heap.size + 1, o, none⟩ = _ := fun o => hb8.cell (p := ⟨w.heap.size + 1, o, none⟩) (by ((try simp only [World.size_alloc, World.size_setCell, World.size_drew, size_drewN]); omega))
        have hf8_1 : ∀ o, w8.frozen? ⟨w.heap.size + 1, o, none⟩ = _ := fun o => hb8.frozen (p := ⟨w.heap.size + 1, o, none⟩) (by ((try simp only [World.size_alloc, World.size_setCell, World.size_drew, size_drewN]); omega))
        have z8_1 : w.heap.size + 1 < w8.heap.size := (by omega)
        have hc8_2 : ∀ o, w8.cell? ⟨w.heap.size + 1 + 1, o, none⟩ = _ := fun o => hb8.cell (p := ⟨w.heap.size + 1 + 1, o, none⟩) (by ((try simp only [World.size_alloc, World.size_setCell, World.size_drew, size_drewN]); omega))
        have hf8_2 : ∀ o, w8.frozen? ⟨w.heap.size + 1 + 1, o, none⟩ = _ := fun o => hb8.frozen (p := ⟨w.heap.size + 1 + 1, o, none⟩) (by ((try simp only [World.size_alloc, World.size_setCell, World.size_drew, size_drewN]); omega))
        have z8_2 : w.heap.size + 1 + 1 < w8.heap.size := (by omega)
        have hc8_3 : ∀ o, w8.cell? ⟨w1.heap.size, o, none⟩ = _ := fun o => hb8.cell (p := ⟨w1.heap.size, o, none⟩) (by ((try simp only [World.size_alloc, World.size_setCell, World.size_drew, size_drewN]); omega))
        have hf8_3 : ∀ o, w8.frozen? ⟨w1.heap.size, o, none⟩ = _ := fun o => hb8.frozen (p := ⟨w1.heap.size, o, none⟩) (by ((try simp only [World.size_alloc, World.size_setCell, World.size_drew, size_drewN]); omega))
        have z8_3 : w1.heap.size < w8.heap.size := (by omega)
        have hc8_4 : ∀ o, w8.cell? ⟨w2.heap.size, o, none⟩ = _ := fun o => hb8.cell (p := ⟨w2.heap.size, o, none⟩) (by ((try simp only [World.size_alloc, World.size_setCell, World.size_drew, size_drewN]); omega))
        have hf8_4 : ∀ o, w8.frozen? ⟨w2.heap.size, o, none⟩ = _ := fun o => hb8.frozen (p := ⟨w2.heap.size, o, none⟩) (by ((try simp only [World.size_alloc, World.size_setCell, World.size_drew, size_drewN]); omega))
        have z8_4 : w2.heap.size < w8.heap.size := (by omega)
        have hc8_5 : ∀ o, w8.cell? ⟨w3.heap.size, o, none⟩ = _ := fun o => hb8.cell (p := ⟨w3.heap.size, o, none⟩) (by ((try simp only [World.size_alloc, World.size_setCell, World.size_drew, size_drewN]); omega))
        have hf8_5 : ∀ o, w8.frozen? ⟨w3.heap.size, o, none⟩ = _ := fun o => hb8.frozen (p := ⟨w3.heap.size, o, none⟩) (by ((try simp only [World.size_alloc, World.size_setCell, World.size_drew, size_drewN]); omega))
        have z8_5 : w3.heap.size < w8.heap.size := (by omega)
        have hc8_6 : ∀ o, w8.cell? ⟨w4.heap.size, o, none⟩ = _ := fun o => hb8.cell (p := ⟨w4.heap.size, o, none⟩) (by ((try simp only [World.size_alloc, World.size_setCell, World.size_drew, size_drewN]); omega))
        have hf8_6 : ∀ o, w8.frozen? ⟨w4.heap.size, o, none⟩ = _ := fun o => hb8.frozen (p := ⟨w4.heap.size, o, none⟩) (by ((try simp only [World.size_alloc, World.size_setCell, World.size_drew, size_drewN]); omega))
        have z8_6 : w4.heap.size < w8.heap.size := (by omega)
        have hc8_7 : ∀ o, w8.cell? ⟨w5.heap.size, o, none⟩ = _ := fun o => hb8.cell (p := ⟨w5.heap.size, o, none⟩) (by ((try simp only [World.size_alloc, World.size_setCell, World.size_drew, size_drewN]); omega))
        have hf8_7 : ∀ o, w8.frozen? ⟨w5.heap.size, o, none⟩ = _ := fun o => hb8.frozen (p := ⟨w5.heap.size, o, none⟩) (by ((try simp only [World.size_alloc, World.size_setCell, World.size_drew, size_drewN]); omega))
        have z8_7 : w5.heap.size < w8.heap.size := (by omega)
        have hc8_8 : ∀ o, w8.cell? ⟨w7.heap.size, o, none⟩ = _ := fun o => hb8.cell (p := ⟨w7.heap.size, o, none⟩) (by ((try simp only [World.size_alloc, World.size_setCell, World.size_drew, size_drewN]); omega))
        have hf8_8 : ∀ o, w8.frozen? ⟨w7.heap.size, o, none⟩ = _ := fun o => hb8.frozen (p := ⟨w7.heap.size, o, none⟩) (by ((try simp only [World.size_alloc, World.size_setCell, World.size_drew, size_drewN]); omega))
        have z8_8 : w7.heap.size < w8.heap.size := (by omega)
        go_wp2_with fail
        refine (mul_c HB.out HC.out _).mono ?_
        rintro e w9 ⟨rfl, hb9⟩
        have hs9 := hb9.size
        try simp only [World.size_alloc, World.size_setCell, World.size_drew, size_drewN] at hs9
        have hc9_0 : ∀ o, w9.cell? ⟨w.heap.size, o, none⟩ = _ := fun o => hb9.cell (p := ⟨w.heap.size, o, none⟩) (by ((try simp only [World.size_alloc, World.size_setCell, World.size_drew, size_drewN]); omega))
        have hf9_0 : ∀ o, w9.frozen? ⟨w.heap.size, o, none⟩ = _ := fun o => hb9.frozen (p := ⟨w.heap.size, o, none⟩) (by ((try simp only [World.size_alloc, World.size_setCell, World.size_drew, size_drewN]); omega))
        have z9_0 : w.heap.size < w9.heap.size := (by omega)
        have hc9_1 : ∀ o, w9.cell? ⟨w.heap.size + 1, o, none⟩ = _ := fun o => hb9.cell (p := ⟨w.heap.size + 1, o, none⟩) (by ((try simp only [World.size_alloc, World.size_setCell, World.size_drew, size_drewN]); omega))
        have hf9_1 : ∀ o, w9.frozen? ⟨w.heap.size + 1, o, none⟩ = _ := fun o => hb9.frozen (p := ⟨w.heap.size + 1, o, none⟩) (by ((try simp only [World.size_alloc, World.size_setCell, World.size_drew, size_drewN]); omega))
        have z9_1 : w.heap.size + 1 < w9.heap.size := (by omega)
        have hc9_2 : ∀ o, w9.cell? ⟨w.heap.size + 1 + 1, o, none⟩ = _ := fun o => hb9.cell (p := ⟨w.heap.size + 1 + 1, o, none⟩) (by ((try simp only [World.size_alloc, World.size_setCell, World.size_drew, size_drewN]); omega))
        have hf9_2 : ∀ o, w9.frozen? ⟨w.heap.size + 1 + 1, o, none⟩ = _ := fun o => hb9.frozen (p := ⟨w.heap.size + 1 + 1, o, none⟩) (by ((try simp only [World.size_alloc, World.size_setCell, World.size_drew, size_drewN]); omega))
        have z9_2 : w.heap.size + 1 + 1 < w9.heap.size := (by omega)
        have hc9_3 : ∀ o, w9.cell? ⟨w1.heap.size, o, none⟩ = _ := fun o => hb9.cell (p := ⟨w1.heap.size, o, none⟩) (by ((try simp only [World.size_alloc, World.size_setCell, World.size_drew, size_drewN]); omega))
        have hf9_3 : ∀ o, w9.frozen? ⟨w1.heap.size, o, none⟩ = _ := fun o => hb9.frozen (p := ⟨w1.heap.size, o, none⟩) (by ((try simp only [World.size_alloc, World.size_setCell, World.size_drew, size_drewN]); omega))
        have z9_3 : w1.heap.size < w9.heap.size := (by omega)
        have hc9_4 : ∀ o, w9.cell? ⟨w2.heap.size, o, none⟩ = _ := fun o => hb9.cell (p := ⟨w2.heap.size, o, none⟩) (by ((try simp only [World.size_alloc, World.size_setCell, World.size_drew, size_drewN]); omega))
        have hf9_4 : ∀ o, w9.frozen? ⟨w2.heap.size, o, none⟩ = _ := fun o => hb9.frozen (p := ⟨w2.heap.size, o, none⟩) (by ((try simp only [World.size_alloc, World.size_setCell, World.size_drew, size_drewN]); omega))
        have z9_4 : w2.heap.size < w9.heap.size := (by omega)
        have hc9_5 : ∀ o, w9.cell? ⟨w3.heap.size, o, none⟩ = _ := fun o => hb9.cell (p := ⟨w3.heap.size, o, none⟩) (by ((try simp only [World.size_alloc, World.size_setCell, World.size_drew, size_drewN]); omega))
        have hf9_5 : ∀ o, w9.frozen? ⟨w3.heap.size, o, none⟩ = _ := fun o => hb9.frozen (p := ⟨w3.heap.size, o, none⟩) (by ((try simp only [World.size_alloc, World.size_setCell, World.size_drew, size_drewN]); omega))
        have z9_5 : w3.heap.size < w9.heap.size := (by omega)
        have hc9_6 : ∀ o, w9.cell? ⟨w4.heap.size, o, none⟩ = _ := fun o => hb9.cell (p := ⟨w4.heap.size, o, none⟩) (by ((try simp only [World.size_alloc, World.size_setCell, World.size_drew, size_drewN]); omega))
        have hf9_6 : ∀ o, w9.frozen? ⟨w4.heap.size, o, none⟩ = _ := fun o => hb9.frozen (p := ⟨w4.heap.size, o, none⟩) (by ((try simp only [World.size_alloc, World.size_setCell, World.size_drew, size_drewN]); omega))
        have z9_6 : w4.heap.size < w9.heap.size := (by omega)
        have hc9_7 : ∀ o, w9.cell? ⟨w5.heap.size, o, none⟩ = _ := fun o => hb9.cell (p := ⟨w5.heap.size, o, none⟩) (by ((try simp only [World.size_alloc, World.size_setCell, World.size_drew, size_drewN]); omega))
        have hf9_7 : ∀ o, w9.frozen? ⟨w5.heap.size, o, none⟩ = _ := fun o => hb9.frozen (p := ⟨w5.heap.size, o, none⟩) (by ((try simp only [World.size_alloc, World.size_setCell, World.size_drew, size_drewN]); omega))
        have z9_7 : w5.heap.size < w9.heap.size := (by omega)
        have hc9_8 : ∀ o, w9.cell? ⟨w7.heap.size, o, none⟩ = _ := fun o => hb9.cell (p := ⟨w7.heap.size, o, none⟩) (by ((try simp only [World.size_alloc, World.size_setCell, World.size_drew, size_drewN]); omega))
        have hf9_8 : ∀ o, w9.frozen? ⟨w7.heap.size, o, none⟩ = _ := fun o => hb9.frozen (p := ⟨w7.heap.size, o, none⟩) (by ((try simp only [World.size_alloc, World.size_setCell, World.size_drew, size_drewN]); omega))
        have z9_8 : w7.heap.size < w9.heap.size := (by omega)
        have hc9_9 : ∀ o, w9.cell? ⟨w8.heap.size, o, none⟩ = _ := fun o => hb9.cell (p := ⟨w8.heap.size, o, none⟩) (by ((try simp only [World.size_alloc, World.size_setCell, World.size_drew, size_drewN]); omega))
        have hf9_9 : ∀ o, w9.frozen? ⟨w8.heap.size, o, none⟩ = _ := fun o => hb9.frozen (p := ⟨w8.heap.size, o, none⟩) (by ((try simp only [World.size_alloc, World.size_setCell, World.size_drew, size_drewN]); omega))
        have z9_9 : w8.heap.size < w9.heap.size := (by omega)
        go_wp2_with fail
        refine (add_c HM1.out HM2.out _).mono ?_
        rintro e w10 ⟨rfl, hb10⟩
        have hs10 := hb10.size
        try simp only [World.size_alloc, World.size_setCell, World.size_drew, size_drewN] at hs10
        have hc10_0 : ∀ o, w10.cell? ⟨w.heap.size, o, none⟩ = _ := fun o => hb10.cell (p := ⟨w.heap.size, o, none⟩) (by ((try simp only [World.size_alloc, World.size_setCell, World.size_drew, size_drewN]); omega))
        have hf10_0 : ∀ o, w10.frozen? ⟨w.heap.size, o, none⟩ = _ := fun o => hb10.frozen (p := ⟨w.heap.size, o, none⟩) (by ((try simp only [World.size_alloc, World.size_setCell, World.size_drew, size_drewN]); omega))
        have z10_0 : w.heap.size < w10.heap.size := (by omega)
        have hc10_1 : ∀ o, w10.cell? ⟨w.heap.size + 1, o, none⟩ = _ := fun o => hb10.cell (p := ⟨w.heap.size + 1, o, none⟩) (by ((try simp only [World.size_alloc, World.size_setCell, World.size_drew, size_drewN]); omega))
        have hf10_1 : ∀ o, w10.frozen? ⟨w.heap.size + 1, o, none⟩ = _ := fun o => hb10.frozen (p := ⟨w.heap.size + 1, o, none⟩) (by ((try simp only [World.size_alloc, World.size_setCell, World.size_drew, size_drewN]); omega))
        have z10_1 : w.heap.size + 1 < w10.heap.size := (by omega)
        have hc10_2 : ∀ o, w10.cell? ⟨w.heap.size + 1 + 1, o, none⟩ = _ := fun o => hb10.cell (p := ⟨w.heap.size + 1 + 1, o, none⟩) (by ((try simp only [World.size_alloc, World.size_setCell, World.size_drew, size_drewN]); omega))
        have hf10_2 : ∀ o, w10.frozen? ⟨w.heap.size + 1 + 1, o, none⟩ = _ := fun o => hb10.frozen (p := ⟨w.heap.size + 1 + 1, o, none⟩) (by ((try simp only [World.size_alloc, World.size_setCell, World.size_drew, size_drewN]); omega))
        have z10_2 : w.heap.size + 1 + 1 < w10.heap.size := (by omega)
        have hc10_3 : ∀ o, w10.cell? ⟨w1.heap.size, o, none⟩ = _ := fun o => hb10.cell (p := ⟨w1.heap.size, o, none⟩) (by ((try simp only [World.size_alloc, World.size_setCell, World.size_drew, size_drewN]); omega))
        have hf10_3 : ∀ o, w10.frozen? ⟨w1.heap.size, o, none⟩ = _ := fun o => hb10.frozen (p := ⟨w1.heap.size, o, none⟩) (by ((try simp only [World.size_alloc, World.size_setCell, World.size_drew, size_drewN]); omega))
        have z10_3 : w1.heap.size < w10.heap.size := (by omega)
        have hc10_4 : ∀ o, w10.cell? ⟨w2.heap.size, o, none⟩ = _ := fun o => hb10.cell (p := ⟨w2.heap.size, o, none⟩) (by ((try simp only [World.size_alloc, World.size_setCell, World.size_drew, size_drewN]); omega))
        have hf10_4 : ∀ o, w10.frozen? ⟨w2.heap.size, o, none⟩ = _ := fun o => hb10.frozen (p := ⟨w2.heap.size, o, none⟩) (by ((try simp only [World.size_alloc, World.size_setCell, World.size_drew, size_drewN]); omega))
        have z10_4 : w2.heap.size < w10.heap.size := (by omega)
        have hc10_5 : ∀ o, w10.cell? ⟨w3.heap.size, o, none⟩ = _ := fun o => hb10.cell (p := ⟨w3.heap.size, o, none⟩) (by ((try simp only [World.size_alloc, World.size_setCell, World.size_drew, size_drewN]); omega))
        have hf10_5 : ∀ o, w10.frozen? ⟨w3.heap.size, o, none⟩ = _ := fun o => hb10.frozen (p := ⟨w3.heap.size, o, none⟩) (by ((try simp only [World.size_alloc, World.size_setCell, World.size_drew, size_drewN]); omega))
        have z10_5 : w3.heap.size < w10.heap.size := (by omega)
        have hc10_6 : ∀ o, w10.cell? ⟨w4.heap.size, o, none⟩ = _ := fun o => hb10.cell (p := ⟨w4.heap.size, o, none⟩) (by ((try simp only [World.size_alloc, World.size_setCell, World.size_drew, size_drewN]); omega))
        have hf10_6 : ∀ o, w10.frozen? ⟨w4.heap.size, o, none⟩ = _ := fun o => hb10.frozen (p := ⟨w4.heap.size, o, none⟩) (by ((try simp only [World.size_alloc, World.size_setCell, World.size_drew, size_drewN]); omega))
        have z10_6 : w4.heap.size < w10.heap.size := (by omega)
        have hc10_7 : ∀ o, w10.cell? ⟨w5.heap.size, o, none⟩ = _ := fun o => hb10.cell (p := ⟨w5.heap.size, o, none⟩) (by ((try simp only [World.size_alloc, World.size_setCell, World.size_drew, size_drewN]); omega))
        have hf10_7 : ∀ o, w10.frozen? ⟨w5.heap.size, o, none⟩ = _ := fun o => hb10.frozen (p := ⟨w5.heap.size, o, none⟩) (by ((try simp only [World.size_alloc, World.size_setCell, World.size_drew, size_drewN]); omega))
        have z10_7 : w5.heap.size < w10.heap.size := (by omega)
        have hc10_8 : ∀ o, w10.cell? ⟨w7.heap.size, o, none⟩ = _ := fun o => hb10.cell (p := ⟨w7.heap.size, o, none⟩) (by ((try simp only [World.size_alloc, World.size_setCell, World.size_drew, size_drewN]); omega))
        have hf10_8 : ∀ o, w10.frozen? ⟨w7.heap.size, o, none⟩ = _ := fun o => hb10.frozen (p := ⟨w7.heap.size, o, none⟩) (by ((try simp only [World.size_alloc, World.size_setCell, World.size_drew, size_drewN]); omega))
        have z10_8 : w7.heap.size < w10.heap.size := (by omega)
        have hc10_9 : ∀ o, w10.cell? ⟨w8.heap.size, o, none⟩ = _ := fun o => hb10.cell (p := ⟨w8.heap.size, o, none⟩) (by ((try simp only [World.size_alloc, World.size_setCell, World.size_drew, size_drewN]); omega))
        have hf10_9 : ∀ o, w10.frozen? ⟨w8.heap.size, o, none⟩ = _ := fun o => hb10.frozen (p := ⟨w8.heap.size, o, none⟩) (by ((try simp only [World.size_alloc, World.size_setCell, World.size_drew, size_drewN]); omega))
        have z10_9 : w8.heap.size < w10.heap.size := (by omega)
        have hc10_10 : ∀ o, w10.cell? ⟨w9.heap.size, o, none⟩ = _ := fun o => hb10.cell (p := ⟨w9.heap.size, o, none⟩) (by ((try simp only [World.size_alloc, World.size_setCell, World.size_drew, size_drewN]); omega))
        have hf10_10 : ∀ o, w10.frozen? ⟨w9.heap.size, o, none⟩ = _ := fun o => hb10.frozen (p := ⟨w9.heap.size, o, none⟩) (by ((try simp only [World.size_alloc, World.size_setCell, World.size_drew, size_drewN]); omega))
        have z10_10 : w9.heap.size < w10.heap.size := (by omega)
        go_wp2_with fail
        refine (awake1_c _).mono ?_
        rintro e w11 ⟨rfl, hb11⟩
        have hs11 := hb11.size
        try simp only [World.size_alloc, World.size_setCell, World.size_drew, size_drewN] at hs11
        have hc11_0 : ∀ o, w11.cell? ⟨w.heap.size, o, none⟩ = _ := fun o => hb11.cell (p := ⟨w.heap.size, o, none⟩) (by ((try simp only [World.size_alloc, World.size_setCell, World.size_drew, size_drewN]); omega))
        have hf11_0 : ∀ o, w11.frozen? ⟨w.heap.size, o, none⟩ = _ := fun o => hb11.frozen (p := ⟨w.heap.size, o, none⟩) (by ((try simp only [World.size_alloc, World.size_setCell, World.size_drew, size_drewN]); omega))
        have z11_0 : w.heap.size < w11.heap.size := (by omega)
        have hc11_1 : ∀ o, w11.cell? ⟨w.heap.size + 1, o, none⟩ = _ := fun o => hb11.cell (p := ⟨w.heap.size + 1, o, none⟩) (by ((try simp only [World.size_alloc, World.size_setCell, World.size_drew, size_drewN]); omega))
        have hf11_1 : ∀ o, w11.frozen? ⟨w.heap.size + 1, o, none⟩ = _ := fun o => hb11.frozen (p := ⟨w.heap.size + 1, o, none⟩) (by ((try simp only [World.size_alloc, World.size_setCell, World.size_drew, size_drewN]); omega))
        have z11_1 : w.heap.size + 1 < w11.heap.size := (by omega)
        have hc11_2 : ∀ o, w11.cell? ⟨w.heap.size + 1 + 1, o, none⟩ = _ := fun o => hb11.cell (p := ⟨w.heap.size + 1 + 1, o, none⟩) (by ((try simp only [World.size_alloc, World.size_setCell, World.size_drew, size_drewN]); omega))
        have hf11_2 : ∀ o, w11.frozen? ⟨w.heap.size + 1 + 1, o, none⟩ = _ := fun o => hb11.frozen (p := ⟨w.heap.size + 1 + 1, o, none⟩) (by ((try simp only [World.size_alloc, World.size_setCell, World.size_drew, size_drewN]); omega))
        have z11_2 : w.heap.size + 1 + 1 < w11.heap.size := (by omega)
        have hc11_3 : ∀ o, w11.cell? ⟨w1.heap.size, o, none⟩ = _ := fun o => hb11.cell (p := ⟨w1.heap.size, o, none⟩) (by ((try simp only [World.size_alloc, World.size_setCell, World.size_drew, size_drewN]); omega))
        have hf11_3 : ∀ o, w11.frozen? ⟨w1.heap.size, o, none⟩ = _ := fun o => hb11.frozen (p := ⟨w1.heap.size, o, none⟩) (by ((try simp only [World.size_alloc, World.size_setCell, World.size_drew, size_drewN]); omega))
        have z11_3 : w1.heap.size < w11.heap.size := (by omega)
        have hc11_4 : ∀ o, w11.cell? ⟨w2.heap.size, o, none⟩ = _ := fun o => hb11.cell (p := ⟨w2.heap.size, o, none⟩) (by ((try simp only [World.size_alloc, World.size_setCell, World.size_drew, size_drewN]); omega))
        have hf11_4 : ∀ o, w11.frozen? ⟨w2.heap.size, o, none⟩ = _ := fun o => hb11.frozen (p := ⟨w2.heap.size, o, none⟩) (by ((try simp only [World.size_alloc, World.size_setCell, World.size_drew, size_drewN]); omega))
        have z11_4 : w2.heap.size < w11.heap.size := (by omega)
        have hc11_5 : ∀ o, w11.cell? ⟨w3.heap.size, o, none⟩ = _ := fun o => hb11.cell (p := ⟨w3.heap.size, o, none⟩) (by ((try simp only [World.size_alloc, World.size_setCell, World.size_drew, size_drewN]); omega))
        have hf11_5 : ∀ o, w11.frozen? ⟨w3.heap.size, o, none⟩ = _ := fun o => hb11.frozen (p := ⟨w3.heap.size, o, none⟩) (by ((try simp only [World.size_alloc, World.size_setCell, World.size_drew, size_drewN]); omega))
        have z11_5 : w3.heap.size < w11.heap.size := (by omega)
        have hc11_6 : ∀ o, w11.cell? ⟨w4.heap.size, o, none⟩ = _ := fun o => hb11.cell (p := ⟨w4.heap.size, o, none⟩) (by ((try simp only [World.size_alloc, World.size_setCell, World.size_drew, size_drewN]); omega))
        have hf11_6 : ∀ o, w11.frozen? ⟨w4.heap.size, o, none⟩ = _ := fun o => hb11.frozen (p := ⟨w4.heap.size, o, none⟩) (by ((try simp only [World.size_alloc, World.size_setCell, World.size_drew, size_drewN]); omega))
        have z11_6 : w4.heap.size < w11.heap.size := (by omega)
        have hc11_7 : ∀ o, w11.cell? ⟨w5.heap.size, o, none⟩ = _ := fun o => hb11.cell (p := ⟨w5.heap.size, o, none⟩) (by ((try simp only [World.size_alloc, World.size_setCell, World.size_drew, size_drewN]); omega))
        have hf11_7 : ∀ o, w11.frozen? ⟨w5.heap.size, o, none⟩ = _ := fun o => hb11.frozen (p := ⟨w5.heap.size, o, none⟩) (by ((try simp only [World.size_alloc, World.size_setCell, World.size_drew, size_drewN]); omega))
        have z11_7 : w5.heap.size < w11.heap.size := (by omega)
        have hc11_8 : ∀ o, w11.cell? ⟨w7.heap.size, o, none⟩ = _ := fun o => hb11.cell (p := ⟨w7.heap.size, o, none⟩) (by ((try simp only [World.size_alloc, World.size_setCell, World.size_drew, size_drewN]); omega))
        have hf11_8 : ∀ o, w11.frozen? ⟨w7.heap.size, o, none⟩ = _ := fun o => hb11.frozen (p := ⟨w7.heap.size, o, none⟩) (by ((try simp only [World.size_alloc, World.size_setCell, World.size_drew, size_drewN]); omega))
        have z11_8 : w7.heap.size < w11.heap.size := (by omega)
        have hc11_9 : ∀ o, w11.cell? ⟨w8.heap.size, o, none⟩ = _ := fun o => hb11.cell (p := ⟨w8.heap.size, o, none⟩) (by ((try simp only [World.size_alloc, World.size_setCell, World.size_drew, size_drewN]); omega))
        have hf11_9 : ∀ o, w11.frozen? ⟨w8.heap.size, o, none⟩ = _ := fun o => hb11.frozen (p := ⟨w8.heap.size, o, none⟩) (by ((try simp only [World.size_alloc, World.size_setCell, World.size_drew, size_drewN]); omega))
        have z11_9 : w8.heap.size < w11.heap.size := (by omega)
        have hc11_10 : ∀ o, w11.cell? ⟨w9.heap.size, o, none⟩ = _ := fun o => hb11.cell (p := ⟨w9.heap.size, o, none⟩) (by ((try simp only [World.size_alloc, World.size_setCell, World.size_drew, size_drewN]); omega))
        have hf11_10 : ∀ o, w11.frozen? ⟨w9.heap.size, o, none⟩ = _ := fun o => hb11.frozen (p := ⟨w9.heap.size, o, none⟩) (by ((try simp only [World.size_alloc, World.size_setCell, World.size_drew, size_drewN]); omega))
        have z11_10 : w9.heap.size < w11.heap.size := (by omega)
        have hc11_11 : ∀ o, w11.cell? ⟨w10.heap.size, o, none⟩ = _ := fun o => hb11.cell (p := ⟨w10.heap.size, o, none⟩) (by ((try simp only [World.size_alloc, World.size_setCell, World.size_drew, size_drewN]); omega))
        have hf11_11 : ∀ o, w11.frozen? ⟨w10.heap.size, o, none⟩ = _ := fun o => hb11.frozen (p := ⟨w10.heap.size, o, none⟩) (by ((try simp only [World.size_alloc, World.size_setCell, World.size_drew, size_drewN]); omega))
        have z11_11 : w10.heap.size < w11.heap.size := (by omega)
        go_wp2
        go_ret
        exact ⟨rfl, (by (repeat' (first | (with_reducible exact Below.refl _ _) | (with_reducible assumption) | (with_reducible refine Below.alloc ?_ ?_ _) | (with_reducible refine Below.drew ?_) | (with_reducible refine below_drewN ?_ _) | (with_reducible refine Below.setCell ?_ ?_ _) | (with_reducible refine below_step (by with_reducible assumption) ?_ ?_) | (first | (with_reducible exact Nat.le_refl _) | (with_reducible assumption) | omega | (simp only [World.size_alloc, World.size_setCell, World.size_drew, size_drewN]; omega) | (simp; omega) | (simp; done)))))⟩
      · have d1 : (mulE (addV A B) C == 0) = false := by rw [s0, mulE, if_neg hD]; rfl
        clear hM hS hD s0
        go_enter Try.func6, Try.ntmps6
        go_wp2_with fail
        refine (add_c HA.out HB.out _).mono ?_
        rintro e w1 ⟨rfl, hb1⟩
        have hs1 := hb1.size
        try simp only [World.size_alloc, World.size_setCell, World.size_drew, size_drewN] at hs1
        have hc1_0 : ∀ o, w1.cell? ⟨w.heap.size, o, none⟩ = _ := fun o => hb1.cell (p := ⟨w.heap.size, o, none⟩) (by ((try simp only [World.size_alloc, World.size_setCell, World.size_drew, size_drewN]); omega))
        have hf1_0 : ∀ o, w1.frozen? ⟨w.heap.size, o, none⟩ = _ := fun o => hb1.frozen (p := ⟨w.heap.size, o, none⟩) (by ((try simp only [World.size_alloc, World.size_setCell, World.size_drew, size_drewN]); omega))
        have z1_0 : w.heap.size < w1.heap.size := (by omega)
        have hc1_1 : ∀ o, w1.cell? ⟨w.heap.size + 1, o, none⟩ = _ := fun o => hb1.cell (p := ⟨w.heap.size + 1, o, none⟩) (by ((try simp only [World.size_alloc, World.size_setCell, World.size_drew, size_drewN]); omega))
        have hf1_1 : ∀ o, w1.frozen? ⟨w.heap.size + 1, o, none⟩ = _ := fun o => hb1.frozen (p := ⟨w.heap.size + 1, o, none⟩) (by ((try simp only [World.size_alloc, World.size_setCell, World.size_drew, size_drewN]); omega))
        have z1_1 : w.heap.size + 1 < w1.heap.size := (by omega)
        have hc1_2 : ∀ o, w1.cell? ⟨w.heap.size + 1 + 1, o, none⟩ = _ := fun o => hb1.cell (p := ⟨w.heap.size + 1 + 1, o, none⟩) (by ((try simp only [World.size_alloc, World.size_setCell, World.size_drew, size_drewN]); omega))
        have hf1_2 : ∀ o, w1.frozen? ⟨w.heap.size + 1 + 1, o, none⟩ = _ := fun o => hb1.frozen (p := ⟨w.heap.size + 1 + 1, o, none⟩) (by ((try simp only [World.size_alloc, World.size_setCell, World.size_drew, size_drewN]); omega))
        have z1_2 : w.heap.size + 1 + 1 < w1.heap.size := (by omega)
        go_wp2_with fail
        refine (add_c HB.out HA.out _).mono ?_
        rintro e w2 ⟨rfl, hb2⟩
        have hs2 := hb2.size
        try simp only [World.size_alloc, World.size_setCell, World.size_drew, size_drewN] at hs2
        have hc2_0 : ∀ o, w2.cell? ⟨w.heap.size, o, none⟩ = _ := fun o => hb2.cell (p := ⟨w.heap.size, o, none⟩) (by ((try simp only [World.size_alloc, World.size_setCell, World.size_drew, size_drewN]); omega))
        have hf2_0 : ∀ o, w2.frozen? ⟨w.heap.size, o, none⟩ = _ := fun o => hb2.frozen (p := ⟨w.heap.size, o, none⟩) (by ((try simp only [World.size_alloc, World.size_setCell, World.size_drew, size_drewN]); omega))
        have z2_0 : w.heap.size < w2.heap.size := (by omega)
        have hc2_1 : ∀ o, w2.cell? ⟨w.heap.size + 1, o, none⟩ = _ := fun o => hb2.cell (p := ⟨w.heap.size + 1, o, none⟩) (by ((try simp only [World.size_alloc, World.size_setCell, World.size_drew, size_drewN]); omega))
        have hf2_1 : ∀ o, w2.frozen? ⟨w.heap.size + 1, o, none⟩ = _ := fun o => hb2.frozen (p := ⟨w.heap.size + 1, o, none⟩) (by ((try simp only [World.size_alloc, World.size_setCell, World.size_drew, size_drewN]); omega))
        have z2_1 : w.heap.size + 1 < w2.heap.size := (by omega)
        have hc2_2 : ∀ o, w2.cell? ⟨w.heap.size + 1 + 1, o, none⟩ = _ := fun o => hb2.cell (p := ⟨w.heap.size + 1 + 1, o, none⟩) (by ((try simp only [World.size_alloc, World.size_setCell, World.size_drew, size_drewN]); omega))
        have hf2_2 : ∀ o, w2.frozen? ⟨w.heap.size + 1 + 1, o, none⟩ = _ := fun o => hb2.frozen (p := ⟨w.heap.size + 1 + 1, o, none⟩) (by ((try simp only [World.size_alloc, World.size_setCell, World.size_drew, size_drewN]); omega))
        have z2_2 : w.heap.size + 1 + 1 < w2.heap.size := (by omega)
        have hc2_3 : ∀ o, w2.cell? ⟨w1.heap.size, o, none⟩ = _ := fun o => hb2.cell (p := ⟨w1.heap.size, o, none⟩) (by ((try simp only [World.size_alloc, World.size_setCell, World.size_drew, size_drewN]); omega))
        have hf2_3 : ∀ o, w2.frozen? ⟨w1.heap.size, o, none⟩ = _ := fun o => hb2.frozen (p := ⟨w1.heap.size, o, none⟩) (by ((try simp only [World.size_alloc, World.size_setCell, World.size_drew, size_drewN]); omega))
        have z2_3 : w1.heap.size < w2.heap.size := (by omega)
        go_wp2_with fail
        refine (mul_c HA.out HB.out _).mono ?_
        rintro e w3 ⟨rfl, hb3⟩
        have hs3 := hb3.size
        try simp only [World.size_alloc, World.size_setCell, World.size_drew, size_drewN] at hs3
        have hc3_0 : ∀ o, w3.cell? ⟨w.heap.size, o, none⟩ = _ := fun o => hb3.cell (p := ⟨w.heap.size, o, none⟩) (by ((try simp only [World.size_alloc, World.size_setCell, World.size_drew, size_drewN]); omega))
        have hf3_0 : ∀ o, w3.frozen? ⟨w.heap.size, o, none⟩ = _ := fun o => hb3.frozen (p := ⟨w.heap.size, o, none⟩) (by ((try simp only [World.size_alloc, World.size_setCell, World.size_drew, size_drewN]); omega))
        have z3_0 : w.heap.size < w3.heap.size := (by omega)
        have hc3_1 : ∀ o, w3.cell? ⟨w.heap.size + 1, o, none⟩ = _ := fun o => hb3.cell (p := ⟨w.heap.size + 1, o, none⟩) (by ((try simp only [World.size_alloc, World.size_setCell, World.size_drew, size_drewN]); omega))
        have hf3_1 : ∀ o, w3.frozen? ⟨w.heap.size + 1, o, none⟩ = _ := fun o => hb3.frozen (p := ⟨w.heap.size + 1, o, none⟩) (by ((try simp only [World.size_alloc, World.size_setCell, World.size_drew, size_drewN]); omega))
        have z3_1 : w.heap.size + 1 < w3.heap.size := (by omega)
        have hc3_2 : ∀ o, w3.cell? ⟨w.heap.size + 1 + 1, o, none⟩ = _ := fun o => hb3.cell (p := ⟨w.heap.size + 1 + 1, o, none⟩) (by ((try simp only [World.size_alloc, World.size_setCell, World.size_drew, size_drewN]); omega))
        have hf3_2 : ∀ o, w3.frozen? ⟨w.heap.size + 1 + 1, o, none⟩ = _ := fun o => hb3.frozen (p := ⟨w.heap.size + 1 + 1, o, none⟩) (by ((try simp only [World.size_alloc, World.size_setCell, World.size_drew, size_drewN]); omega))
        have z3_2 : w.heap.size + 1 + 1 < w3.heap.size := (by omega)
        have hc3_3 : ∀ o, w3.cell? ⟨w1.heap.size, o, none⟩ = _ := fun o => hb3.cell (p := ⟨w1.heap.size, o, none⟩) (by ((try simp only [World.size_alloc, World.size_setCell, World.size_drew, size_drewN]); omega))
        have hf3_3 : ∀ o, w3.frozen? ⟨w1.heap.size, o, none⟩ = _ := fun o => hb3.frozen (p := ⟨w1.heap.size, o, none⟩) (by ((try simp only [World.size_alloc, World.size_setCell, World.size_drew, size_drewN]); omega))
        have z3_3 : w1.heap.size < w3.heap.size := (by omega)
        have hc3_4 : ∀ o, w3.cell? ⟨w2.heap.size, o, none⟩ = _ := fun o => hb3.cell (p := ⟨w2.heap.size, o, none⟩) (by ((try simp only [World.size_alloc, World.size_setCell, World.size_drew, size_drewN]); omega))
        have hf3_4 : ∀ o, w3.frozen? ⟨w2.heap.size, o, none⟩ = _ := fun o => hb3.frozen (p := ⟨w2.heap.size, o, none⟩) (by ((try simp only [World.size_alloc, World.size_setCell, World.size_drew, size_drewN]); omega))
        have z3_4 : w2.heap.size < w3.heap.size := (by omega)
        go_wp2_with fail
        refine (mul_c HB.out HA.out _).mono ?_
        rintro e w4 ⟨rfl, hb4⟩
        have hs4 := hb4.size
        try simp only [World.size_alloc, World.size_setCell, World.size_drew, size_drewN] at hs4
        have hc4_0 : ∀ o, w4.cell? ⟨w.heap.size, o, none⟩ = _ := fun o => hb4.cell (p := ⟨w.heap.size, o, none⟩) (by ((try simp only [World.size_alloc, World.size_setCell, World.size_drew, size_drewN]); omega))
        have hf4_0 : ∀ o, w4.frozen? ⟨w.heap.size, o, none⟩ = _ := fun o => hb4.frozen (p := ⟨w.heap.size, o, none⟩) (by ((try simp only [World.size_alloc, World.size_setCell, World.size_drew, size_drewN]); omega))
        have z4_0 : w.heap.size < w4.heap.size := (by omega)
        have hc4_1 : ∀ o, w4.cell? ⟨w.heap.size + 1, o, none⟩ = _ := fun o => hb4.cell (p := ⟨w.heap.size + 1, o, none⟩) (by ((try simp only [World.size_alloc, World.size_setCell, World.size_drew, size_drewN]); omega))
        have hf4_1 : ∀ o, w4.frozen? ⟨w.heap.size + 1, o, none⟩ = _ := fun o => hb4.frozen (p := ⟨w.heap.size + 1, o, none⟩) (by ((try simp only [World.size_alloc, World.size_setCell, World.size_drew, size_drewN]); omega))
        have z4_1 : w.heap.size + 1 < w4.heap.size := (by omega)
        have hc4_2 : ∀ o, w4.cell? ⟨w.heap.size + 1 + 1, o, none⟩ = _ := fun o => hb4.cell (p := ⟨w.heap.size + 1 + 1, o, none⟩) (by ((try simp only [World.size_alloc, World.size_setCell, World.size_drew, size_drewN]); omega))
        have hf4_2 : ∀ o, w4.frozen? ⟨w.heap.size + 1 + 1, o, none⟩ = _ := fun o => hb4.frozen (p := ⟨w.heap.size + 1 + 1, o, none⟩) (by ((try simp only [World.size_alloc, World.size_setCell, World.size_drew, size_drewN]); omega))
        have z4_2 : w.heap.size + 1 + 1 < w4.heap.size := (by omega)
        have hc4_3 : ∀ o, w4.cell? ⟨w1.heap.size, o, none⟩ = _ := fun o => hb4.cell (p := ⟨w1.heap.size, o, none⟩) (by ((try simp only [World.size_alloc, World.size_setCell, World.size_drew, size_drewN]); omega))
        have hf4_3 : ∀ o, w4.frozen? ⟨w1.heap.size, o, none⟩ = _ := fun o => hb4.frozen (p := ⟨w1.heap.size, o, none⟩) (by ((try simp only [World.size_alloc, World.size_setCell, World.size_drew, size_drewN]); omega))
        have z4_3 : w1.heap.size < w4.heap.size := (by omega)
        have hc4_4 : ∀ o, w4.cell? ⟨w2.heap.size, o, none⟩ = _ := fun o => hb4.cell (p := ⟨w2.heap.size, o, none⟩) (by ((try simp only [World.size_alloc, World.size_setCell, World.size_drew, size_drewN]); omega))
        have hf4_4 : ∀ o, w4.frozen? ⟨w2.heap.size, o, none⟩ = _ := fun o => hb4.frozen (p := ⟨w2.heap.size, o, none⟩) (by ((try simp only [World.size_alloc, World.size_setCell, World.size_drew, size_drewN]); omega))
        have z4_4 : w2.heap.size < w4.heap.size := (by omega)
        have hc4_5 : ∀ o, w4.cell? ⟨w3.heap.size, o, none⟩ = _ := fun o => hb4.cell (p := ⟨w3.heap.size, o, none⟩) (by ((try simp only [World.size_alloc, World.size_setCell, World.size_drew, size_drewN]); omega))
        have hf4_5 : ∀ o, w4.frozen? ⟨w3.heap.size, o, none⟩ = _ := fun o => hb4.frozen (p := ⟨w3.heap.size, o, none⟩) (by ((try simp only [World.size_alloc, World.size_setCell, World.size_drew, size_drewN]); omega))
        have z4_5 : w3.heap.size < w4.heap.size := (by omega)
        go_wp2_with fail
        refine (sub_c HS.out HB.out _).mono ?_
        rintro e w5 ⟨rfl, hb5⟩
        have hs5 := hb5.size
        try simp only [World.size_alloc, World.size_setCell, World.size_drew, size_drewN] at hs5
        have hc5_0 : ∀ o, w5.cell? ⟨w.heap.size, o, none⟩ = _ := fun o => hb5.cell (p := ⟨w.heap.size, o, none⟩) (by ((try simp only [World.size_alloc, World.size_setCell, World.size_drew, size_drewN]); omega))
        have hf5_0 : ∀ o, w5.frozen? ⟨w.heap.size, o, none⟩ = _ := fun o => hb5.frozen (p := ⟨w.heap.size, o, none⟩) (by ((try simp only [World.size_alloc, World.size_setCell, World.size_drew, size_drewN]); omega))
        have z5_0 : w.heap.size < w5.heap.size := (by omega)
        have hc5_1 : ∀ o, w5.cell? ⟨w.heap.size + 1, o, none⟩ = _ := fun o => hb5.cell (p := ⟨w.heap.size + 1, o, none⟩) (by ((try simp only [World.size_alloc, World.size_setCell, World.size_drew, size_drewN]); omega))
        have hf5_1 : ∀ o, w5.frozen? ⟨w.heap.size + 1, o, none⟩ = _ := fun o => hb5.frozen (p := ⟨w.heap.size + 1, o, none⟩) (by ((try simp only [World.size_alloc, World.size_setCell, World.size_drew, size_drewN]); omega))
        have z5_1 : w.heap.size + 1 < w5.heap.size := (by omega)
        have hc5_2 : ∀ o, w5.cell? ⟨w.heap.size + 1 + 1, o, none⟩ = _ := fun o => hb5.cell (p := ⟨w.heap.size + 1 + 1, o, none⟩) (by ((try simp only [World.size_alloc, World.size_setCell, World.size_drew, size_drewN]); omega))
        have hf5_2 : ∀ o, w5.frozen? ⟨w.heap.size + 1 + 1, o, none⟩ = _ := fun o => hb5.frozen (p := ⟨w.heap.size + 1 + 1, o, none⟩) (by ((try simp only [World.size_alloc, World.size_setCell, World.size_drew, size_drewN]); omega))
        have z5_2 : w.heap.size + 1 + 1 < w5.heap.size := (by omega)
        have hc5_3 : ∀ o, w5.cell? ⟨w1.heap.size, o, none⟩ = _ := fun o => hb5.cell (p := ⟨w1.heap.size, o, none⟩) (by ((try simp only [World.size_alloc, World.size_setCell, World.size_drew, size_drewN]); omega))
        have hf5_3 : ∀ o, w5.frozen? ⟨w1.heap.size, o, none⟩ = _ := fun o => hb5.frozen (p := ⟨w1.heap.size, o, none⟩) (by ((try simp only [World.size_alloc, World.size_setCell, World.size_drew, size_drewN]); omega))
        have z5_3 : w1.heap.size < w5.heap.size := (by omega)
        have hc5_4 : ∀ o, w5.cell? ⟨w2.heap.size, o, none⟩ = _ := fun o => hb5.cell (p := ⟨w2.heap.size, o, none⟩) (by ((try simp only [World.size_alloc, World.size_setCell, World.size_drew, size_drewN]); omega))
        have hf5_4 : ∀ o, w5.frozen? ⟨w2.heap.size, o, none⟩ = _ := fun o => hb5.frozen (p := ⟨w2.heap.size, o, none⟩) (by ((try simp only [World.size_alloc, World.size_setCell, World.size_drew, size_drewN]); omega))
        have z5_4 : w2.heap.size < w5.heap.size := (by omega)
        have hc5_5 : ∀ o, w5.cell? ⟨w3.heap.size, o, none⟩ = _ := fun o => hb5.cell (p := ⟨w3.heap.size, o, none⟩) (by ((try simp only [World.size_alloc, World.size_setCell, World.size_drew, size_drewN]); omega))
        have hf5_5 : ∀ o, w5.frozen? ⟨w3.heap.size, o, none⟩ = _ := fun o => hb5.frozen (p := ⟨w3.heap.size, o, none⟩) (by ((try simp only [World.size_alloc, World.size_setCell, World.size_drew, size_drewN]); omega))
        have z5_5 : w3.heap.size < w5.heap.size := (by omega)
        have hc5_6 : ∀ o, w5.cell? ⟨w4.heap.size, o, none⟩ = _ := fun o => hb5.cell (p := ⟨w4.heap.size, o, none⟩) (by ((try simp only [World.size_alloc, World.size_setCell, World.size_drew, size_drewN]); omega))
        have hf5_6 : ∀ o, w5.frozen? ⟨w4.heap.size, o, none⟩ = _ := fun o => hb5.frozen (p := ⟨w4.heap.size, o, none⟩) (by ((try simp only [World.size_alloc, World.size_setCell, World.size_drew, size_drewN]); omega))
        have z5_6 : w4.heap.size < w5.heap.size := (by omega)
        go_wp2_with fail
        refine (cmp_c HS.out HA.out _).mono ?_
        rintro e w6 ⟨rfl, hb6⟩
        have hs6 := hb6.size
        try simp only [World.size_alloc, World.size_setCell, World.size_drew, size_drewN] at hs6
        have hc6_0 : ∀ o, w6.cell? ⟨w.heap.size, o, none⟩ = _ := fun o => hb6.cell (p := ⟨w.heap.size, o, none⟩) (by ((try simp only [World.size_alloc, World.size_setCell, World.size_drew, size_drewN]); omega))
        have hf6_0 : ∀ o, w6.frozen? ⟨w.heap.size, o, none⟩ = _ := fun o => hb6.frozen (p := ⟨w.heap.size, o, none⟩) (by ((try simp only [World.size_alloc, World.size_setCell, World.size_drew, size_drewN]); omega))
        have z6_0 : w.heap.size < w6.heap.size := (by omega)
        have hc6_1 : ∀ o, w6.cell? ⟨w.heap.size + 1, o, none⟩ = _ := fun o => hb6.cell (p := ⟨w.heap.size + 1, o, none⟩) (by ((try simp only [World.size_alloc, World.size_setCell, World.size_drew, size_drewN]); omega))
        have hf6_1 : ∀ o, w6.frozen? ⟨w.heap.size + 1, o, none⟩ = _ := fun o => hb6.frozen (p := ⟨w.heap.size + 1, o, none⟩) (by ((try simp only [World.size_alloc, World.size_setCell, World.size_drew, size_drewN]); omega))
        have z6_1 : w.heap.size + 1 < w6.heap.size := (by omega)
        have hc6_2 : ∀ o, w6.cell? ⟨w.heap.size + 1 + 1, o, none⟩ = _ := fun o => hb6.cell (p := ⟨w.heap.size + 1 + 1, o, none⟩) (by ((try simp only [World.size_alloc, World.size_setCell, World.size_drew, size_drewN]); omega))
        have hf6_2 : ∀ o, w6.frozen? ⟨w.heap.size + 1 + 1, o, none⟩ = _ := fun o => hb6.frozen (p := ⟨w.heap.size + 1 + 1, o, none⟩) (by ((try simp only [World.size_alloc, World.size_setCell, World.size_drew, size_drewN]); omega))
        have z6_2 : w.heap.size + 1 + 1 < w6.heap.size := (by omega)
        have hc6_3 : ∀ o, w6.cell? ⟨w1.heap.size, o, none⟩ = _ := fun o => hb6.cell (p := ⟨w1.heap.size, o, none⟩) (by ((try simp only [World.size_alloc, World.size_setCell, World.size_drew, size_drewN]); omega))
        have hf6_3 : ∀ o, w6.frozen? ⟨w1.heap.size, o, none⟩ = _ := fun o => hb6.frozen (p := ⟨w1.heap.size, o, none⟩) (by ((try simp only [World.size_alloc, World.size_setCell, World.size_drew, size_drewN]); omega))
        have z6_3 : w1.heap.size < w6.heap.size := (by omega)
        have hc6_4 : ∀ o, w6.cell? ⟨w2.heap.size, o, none⟩ = _ := fun o => hb6.cell (p := ⟨w2.heap.size, o, none⟩) (by ((try simp only [World.size_alloc, World.size_setCell, World.size_drew, size_drewN]); omega))
        have hf6_4 : ∀ o, w6.frozen? ⟨w2.heap.size, o, none⟩ = _ := fun o => hb6.frozen (p := ⟨w2.heap.size, o, none⟩) (by ((try simp only [World.size_alloc, World.size_setCell, World.size_drew, size_drewN]); omega))
        have z6_4 : w2.heap.size < w6.heap.size := (by omega)
        have hc6_5 : ∀ o, w6.cell? ⟨w3.heap.size, o, none⟩ = _ := fun o => hb6.cell (p := ⟨w3.heap.size, o, none⟩) (by ((try simp only [World.size_alloc, World.size_setCell, World.size_drew, size_drewN]); omega))
        have hf6_5 : ∀ o, w6.frozen? ⟨w3.heap.size, o, none⟩ = _ := fun o => hb6.frozen (p := ⟨w3.heap.size, o, none⟩) (by ((try simp only [World.size_alloc, World.size_setCell, World.size_drew, size_drewN]); omega))
        have z6_5 : w3.heap.size < w6.heap.size := (by omega)
        have hc6_6 : ∀ o, w6.cell? ⟨w4.heap.size, o, none⟩ = _ := fun o => hb6.cell (p := ⟨w4.heap.size, o, none⟩) (by ((try simp only [World.size_alloc, World.size_setCell, World.size_drew, size_drewN]); omega))
        have hf6_6 : ∀ o, w6.frozen? ⟨w4.heap.size, o, none⟩ = _ := fun o => hb6.frozen (p := ⟨w4.heap.size, o, none⟩) (by ((try simp only [World.size_alloc, World.size_setCell, World.size_drew, size_drewN]); omega))
        have z6_6 : w4.heap.size < w6.heap.size := (by omega)
        have hc6_7 : ∀ o, w6.cell? ⟨w5.heap.size, o, none⟩ = _ := fun o => hb6.cell (p := ⟨w5.heap.size, o, none⟩) (by ((try simp only [World.size_alloc, World.size_setCell, World.size_drew, size_drewN]); omega))
        have hf6_7 : ∀ o, w6.frozen? ⟨w5.heap.size, o, none⟩ = _ := fun o => hb6.frozen (p := ⟨w5.heap.size, o, none⟩) (by ((try simp only [World.size_alloc, World.size_setCell, World.size_drew, size_drewN]); omega))
        have z6_7 : w5.heap.size < w6.heap.size := (by omega)
        go_wp2_with fail
        refine (mul_c HS.out HC.out _).mono ?_
        rintro e w7 ⟨rfl, hb7⟩
        have hs7 := hb7.size
        try simp only [World.size_alloc, World.size_setCell, World.size_drew, size_drewN] at hs7
        have hc7_0 : ∀ o, w7.cell? ⟨w.heap.size, o, none⟩ = _ := fun o => hb7.cell (p := ⟨w.heap.size, o, none⟩) (by ((try simp only [World.size_alloc, World.size_setCell, World.size_drew, size_drewN]); omega))
        have hf7_0 : ∀ o, w7.frozen? ⟨w.heap.size, o, none⟩ = _ := fun o => hb7.frozen (p := ⟨w.heap.size, o, none⟩) (by ((try simp only [World.size_alloc, World.size_setCell, World.size_drew, size_drewN]); omega))
        have z7_0 : w.heap.size < w7.heap.size := (by omega)
        have hc7_1 : ∀ o, w7.cell? ⟨w.heap.size + 1, o, none⟩ = _ := fun o => hb7.cell (p := ⟨w.heap.size + 1, o, none⟩) (by ((try simp only [World.size_alloc, World.size_setCell, World.size_drew, size_drewN]); omega))
        have hf7_1 : ∀ o, w7.frozen? ⟨w.heap.size + 1, o, none⟩ = _ := fun o => hb7.frozen (p := ⟨w.heap.size + 1, o, none⟩) (by ((try simp only [World.size_alloc, World.size_setCell, World.size_drew, size_drewN]); omega))
        have z7_1 : w.heap.size + 1 < w7.heap.size := (by omega)
        have hc7_2 : ∀ o, w7.cell? ⟨w.heap.size + 1 + 1, o, none⟩ = _ := fun o => hb7.cell (p := ⟨w.heap.size + 1 + 1, o, none⟩) (by ((try simp only [World.size_alloc, World.size_setCell, World.size_drew, size_drewN]); omega))
        have hf7_2 : ∀ o, w7.frozen? ⟨w.heap.size + 1 + 1, o, none⟩ = _ := fun o => hb7.frozen (p := ⟨w.heap.size + 1 + 1, o, none⟩) (by ((try simp only [World.size_alloc, World.size_setCell, World.size_drew, size_drewN]); omega))
        have z7_2 : w.heap.size + 1 + 1 < w7.heap.size := (by omega)
        have hc7_3 : ∀ o, w7.cell? ⟨w1.heap.size, o, none⟩ = _ := fun o => hb7.cell (p := ⟨w1.heap.size, o, none⟩) (by ((try simp only [World.size_alloc, World.size_setCell, World.size_drew, size_drewN]); omega))
        have hf7_3 : ∀ o, w7.frozen? ⟨w1.heap.size, o, none⟩ = _ := fun o => hb7.frozen (p := ⟨w1.heap.size, o, none⟩) (by ((try simp only [World.size_alloc, World.size_setCell, World.size_drew, size_drewN]); omega))
        have z7_3 : w1.heap.size < w7.heap.size := (by omega)
        have hc7_4 : ∀ o, w7.cell? ⟨w2.heap.size, o, none⟩ = _ := fun o => hb7.cell (p := ⟨w2.heap.size, o, none⟩) (by ((try simp only [World.size_alloc, World.size_setCell, World.size_drew, size_drewN]); omega))
        have hf7_4 : ∀ o, w7.frozen? ⟨w2.heap.size, o, none⟩ = _ := fun o => hb7.frozen (p := ⟨w2.heap.size, o, none⟩) (by ((try simp only [World.size_alloc, World.size_setCell, World.size_drew, size_drewN]); omega))
        have z7_4 : w2.heap.size < w7.heap.size := (by omega)
        have hc7_5 : ∀ o, w7.cell? ⟨w3.heap.size, o, none⟩ = _ := fun o => hb7.cell (p := ⟨w3.heap.size, o, none⟩) (by ((try simp only [World.size_alloc, World.size_setCell, World.size_drew, size_drewN]); omega))
        have hf7_5 : ∀ o, w7.frozen? ⟨w3.heap.size, o, none⟩ = _ := fun o => hb7.frozen (p := ⟨w3.heap.size, o, none⟩) (by ((try simp only [World.size_alloc, World.size_setCell, World.size_drew, size_drewN]); omega))
        have z7_5 : w3.heap.size < w7.heap.size := (by omega)
        have hc7_6 : ∀ o, w7.cell? ⟨w4.heap.size, o, none⟩ = _ := fun o => hb7.cell (p := ⟨w4.heap.size, o, none⟩) (by ((try simp only [World.size_alloc, World.size_setCell, World.size_drew, size_drewN]); omega))
        have hf7_6 : ∀ o, w7.frozen? ⟨w4.heap.size, o, none⟩ = _ := fun o => hb7.frozen (p := ⟨w4.heap.size, o, none⟩) (by ((try simp only [World.size_alloc, World.size_setCell, World.size_drew, size_drewN]); omega))
        have z7_6 : w4.heap.size < w7.heap.size := (by omega)
        have hc7_7 : ∀ o, w7.cell? ⟨w5.heap.size, o, none⟩ = _ := fun o => hb7.cell (p := ⟨w5.heap.size, o, none⟩) (by ((try simp only [World.size_alloc, World.size_setCell, World.size_drew, size_drewN]); omega))
        have hf7_7 : ∀ o, w7.frozen? ⟨w5.heap.size, o, none⟩ = _ := fun o => hb7.frozen (p := ⟨w5.heap.size, o, none⟩) (by ((try simp only [World.size_alloc, World.size_setCell, World.size_drew, size_drewN]); omega))
        have z7_7 : w5.heap.size < w7.heap.size := (by omega)
        go_wp2_with fail
        refine (mul_c HA.out HC.out _).mono ?_
        rintro e w8 ⟨rfl, hb8⟩
        have hs8 := hb8.size
        try simp only [World.size_alloc, World.size_setCell, World.size_drew, size_drewN] at hs8
        have hc8_0 : ∀ o, w8.cell? ⟨w.heap.size, o, none⟩ = _ := fun o => hb8.cell (p := ⟨w.heap.size, o, none⟩) (by ((try simp only [World.size_alloc, World.size_setCell, World.size_drew, size_drewN]); omega))
        have hf8_0 : ∀ o, w8.frozen? ⟨w.heap.size, o, none⟩ = _ := fun o => hb8.frozen (p := ⟨w.heap.size, o, none⟩) (by ((try simp only [World.size_alloc, World.size_setCell, World.size_drew, size_drewN]); omega))
        have z8_0 : w.heap.size < w8.heap.size := (by omega)
        have hc8_1 : ∀ o, w8.cell? ⟨w.heap.size + 1, o, none⟩ = _ := fun o => hb8.cell (p := ⟨w.heap.size + 1, o, none⟩) (by ((try simp only [World.size_alloc, World.size_setCell, World.size_drew, size_drewN]); omega))
        have hf8_1 : ∀ o, w8.frozen? ⟨w.heap.size + 1, o, none⟩ = _ := fun o => hb8.frozen (p := ⟨w.heap.size + 1, o, none⟩) (by ((try simp only [World.size_alloc, World.size_setCell, World.size_drew, size_drewN]); omega))
        have z8_1 : w.heap.size + 1 < w8.heap.size := (by omega)
        have hc8_2 : ∀ o, w8.cell? ⟨w.heap.size + 1 + 1, o, none⟩ = _ := fun o => hb8.cell (p := ⟨w.heap.size + 1 + 1, o, none⟩) (by ((try simp only [World.size_alloc, World.size_setCell, World.size_drew, size_drewN]); omega))
        have hf8_2 : ∀ o, w8.frozen? ⟨w.heap.size + 1 + 1, o, none⟩ = _ := fun o => hb8.frozen (p := ⟨w.heap.size + 1 + 1, o, none⟩) (by ((try simp only [World.size_alloc, World.size_setCell, World.size_drew, size_drewN]); omega))
        have z8_2 : w.heap.size + 1 + 1 < w8.heap.size := (by omega)
        have hc8_3 : ∀ o, w8.cell? ⟨w1.heap.size, o, none⟩ = _ := fun o => hb8.cell (p := ⟨w1.heap.size, o, none⟩) (by ((try simp only [World.size_alloc, World.size_setCell, World.size_drew, size_drewN]); omega))
        have hf8_3 : ∀ o, w8.frozen? ⟨w1.heap.size, o, none⟩ = _ := fun o => hb8.frozen (p := ⟨w1.heap.size, o, none⟩) (by ((try simp only [World.size_alloc, World.size_setCell, World.size_drew, size_drewN]); omega))
        have z8_3 : w1.heap.size < w8.heap.size := (by omega)
        have hc8_4 : ∀ o, w8.cell? ⟨w2.heap.size, o, none⟩ = _ := fun o => hb8.cell (p := ⟨w2.heap.size, o, none⟩) (by ((try simp only [World.size_alloc, World.size_setCell, World.size_drew, size_drewN]); omega))
        have hf8_4 : ∀ o, w8.frozen? ⟨w2.heap.size, o, none⟩ = _ := fun o => hb8.frozen (p := ⟨w2.heap.size, o, none⟩) (by ((try simp only [World.size_alloc, World.size_setCell, World.size_drew, size_drewN]); omega))
        have z8_4 : w2.heap.size < w8.heap.size := (by omega)
        have hc8_5 : ∀ o, w8.cell? ⟨w3.heap.size, o, none⟩ = _ := fun o => hb8.cell (p := ⟨w3.heap.size, o, none⟩) (by ((try simp only [World.size_alloc, World.size_setCell, World.size_drew, size_drewN]); omega))
        have hf8_5 : ∀ o, w8.frozen? ⟨w3.heap.size, o, none⟩ = _ := fun o => hb8.frozen (p := ⟨w3.heap.size, o, none⟩) (by ((try simp only [World.size_alloc, World.size_setCell, World.size_drew, size_drewN]); omega))
        have z8_5 : w3.heap.size < w8.heap.size := (by omega)
        have hc8_6 : ∀ o, w8.cell? ⟨w4.heap.size, o, none⟩ = _ := fun o => hb8.cell (p := ⟨w4.heap.size, o, none⟩) (by ((try simp only [World.size_alloc, World.size_setCell, World.size_drew, size_drewN]); omega))
        have hf8_6 : ∀ o, w8.frozen? ⟨w4.heap.size, o, none⟩ = _ := fun o => hb8.frozen (p := ⟨w4.heap.size, o, none⟩) (by ((try simp only [World.size_alloc, World.size_setCell, World.size_drew, size_drewN]); omega))
        have z8_6 : w4.heap.size < w8.heap.size := (by omega)
        have hc8_7 : ∀ o, w8.cell? ⟨w5.heap.size, o, none⟩ = _ := fun o => hb8.cell (p := ⟨w5.heap.size, o, none⟩) (by ((try simp only [World.size_alloc, World.size_setCell, World.size_drew, size_drewN]); omega))
        have hf8_7 : ∀ o, w8.frozen? ⟨w5.heap.size, o, none⟩ = _ := fun o => hb8.frozen (p := ⟨w5.heap.size, o, none⟩) (by ((try simp only [World.size_alloc, World.size_setCell, World.size_drew, size_drewN]); omega))
        have z8_7 : w5.heap.size < w8.heap.size := (by omega)
        have hc8_8 : ∀ o, w8.cell? ⟨w7.heap.size, o, none⟩ = _ := fun o => hb8.cell (p := ⟨w7.heap.size, o, none⟩) (by ((try simp only [World.size_alloc, World.size_setCell, World.size_drew, size_drewN]); omega))
        have hf8_8 : ∀ o, w8.frozen? ⟨w7.heap.size, o, none⟩ = _ := fun o => hb8.frozen (p := ⟨w7.heap.size, o, none⟩) (by ((try simp only [World.size_alloc, World.size_setCell, World.size_drew, size_drewN]); omega))
        have z8_8 : w7.heap.size < w8.heap.size := (by omega)
        go_wp2_with fail
        refine (mul_c HB.out HC.out _).mono ?_
        rintro e w9 ⟨rfl, hb9⟩
        have hs9 := hb9.size
        try simp only [World.size_alloc, World.size_setCell, World.size_drew, size_drewN] at hs9
        have hc9_0 : ∀ o, w9.cell? ⟨w.heap.size, o, none⟩ = _ := fun o => hb9.cell (p := ⟨w.heap.size, o, none⟩) (by ((try simp only [World.size_alloc, World.size_setCell, World.size_drew, size_drewN]); omega))
        have hf9_0 : ∀ o, w9.frozen? ⟨w.heap.size, o, none⟩ = _ := fun o => hb9.frozen (p := ⟨w.heap.size, o, none⟩) (by ((try simp only [World.size_alloc, World.size_setCell, World.size_drew, size_drewN]); omega))
        have z9_0 : w.heap.size < w9.heap.size := (by omega)
        have hc9_1 : ∀ o, w9.cell? ⟨w.heap.size + 1, o, none⟩ = _ := fun o => hb9.cell (p := ⟨w.heap.size + 1, o, none⟩) (by ((try simp only [World.size_alloc, World.size_setCell, World.size_drew, size_drewN]); omega))
        have hf9_1 : ∀ o, w9.frozen? ⟨w.heap.size + 1, o, none⟩ = _ := fun o => hb9.frozen (p := ⟨w.heap.size + 1, o, none⟩) (by ((try simp only [World.size_alloc, World.size_setCell, World.size_drew, size_drewN]); omega))
        have z9_1 : w.heap.size + 1 < w9.heap.size := (by omega)
        have hc9_2 : ∀ o, w9.cell? ⟨w.heap.size + 1 + 1, o, none⟩ = _ := fun o => hb9.cell (p := ⟨w.heap.size + 1 + 1, o, none⟩) (by ((try simp only [World.size_alloc, World.size_setCell, World.size_drew, size_drewN]); omega))
        have hf9_2 : ∀ o, w9.frozen? ⟨w.heap.size + 1 + 1, o, none⟩ = _ := fun o => hb9.frozen (p := ⟨w.heap.size + 1 + 1, o, none⟩) (by ((try simp only [World.size_alloc, World.size_setCell, World.size_drew, size_drewN]); omega))
        have z9_2 : w.heap.size + 1 + 1 < w9.heap.size := (by omega)
        have hc9_3 : ∀ o, w9.cell? ⟨w1.heap.size, o, none⟩ = _ := fun o => hb9.cell (p := ⟨w1.heap.size, o, none⟩) (by ((try simp only [World.size_alloc, World.size_setCell, World.size_drew, size_drewN]); omega))
        have hf9_3 : ∀ o, w9.frozen? ⟨w1.heap.size, o, none⟩ = _ := fun o => hb9.frozen (p := ⟨w1.heap.size, o, none⟩) (by ((try simp only [World.size_alloc, World.size_setCell, World.size_drew, size_drewN]); omega))
        have z9_3 : w1.heap.size < w9.heap.size := (by omega)
        have hc9_4 : ∀ o, w9.cell? ⟨w2.heap.size, o, none⟩ = _ := fun o => hb9.cell (p := ⟨w2.heap.size, o, none⟩) (by ((try simp only [World.size_alloc, World.size_setCell, World.size_drew, size_drewN]); omega))
        have hf9_4 : ∀ o, w9.frozen? ⟨w2.heap.size, o, none⟩ = _ := fun o => hb9.frozen (p := ⟨w2.heap.size, o, none⟩) (by ((try simp only [World.size_alloc, World.size_setCell, World.size_drew, size_drewN]); omega))
        have z9_4 : w2.heap.size < w9.heap.size := (by omega)
        have hc9_5 : ∀ o, w9.cell? ⟨w3.heap.size, o, none⟩ = _ := fun o => hb9.cell (p := ⟨w3.heap.size, o, none⟩) (by ((try simp only [World.size_alloc, World.size_setCell, World.size_drew, size_drewN]); omega))
        have hf9_5 : ∀ o, w9.frozen? ⟨w3.heap.size, o, none⟩ = _ := fun o => hb9.frozen (p := ⟨w3.heap.size, o, none⟩) (by ((try simp only [World.size_alloc, World.size_setCell, World.size_drew, size_drewN]); omega))
        have z9_5 : w3.heap.size < w9.heap.size := (by omega)
        have hc9_6 : ∀ o, w9.cell? ⟨w4.heap.size, o, none⟩ = _ := fun o => hb9.cell (p := ⟨w4.heap.size, o, none⟩) (by ((try simp only [World.size_alloc, World.size_setCell, World.size_drew, size_drewN]); omega))
        have hf9_6 : ∀ o, w9.frozen? ⟨w4.heap.size, o, none⟩ = _ := fun o => hb9.frozen (p := ⟨w4.heap.size, o, none⟩) (by ((try simp only [World.size_alloc, World.size_setCell, World.size_drew, size_drewN]); omega))
        have z9_6 : w4.heap.size < w9.heap.size := (by omega)
        have hc9_7 : ∀ o, w9.cell? ⟨w5.heap.size, o, none⟩ = _ := fun o => hb9.cell (p := ⟨w5.heap.size, o, none⟩) (by ((try simp only [World.size_alloc, World.size_setCell, World.size_drew, size_drewN]); omega))
        have hf9_7 : ∀ o, w9.frozen? ⟨w5.heap.size, o, none⟩ = _ := fun o => hb9.frozen (p := ⟨w5.heap.size, o, none⟩) (by ((try simp only [World.size_alloc, World.size_setCell, World.size_drew, size_drewN]); omega))
        have z9_7 : w5.heap.size < w9.heap.size := (by omega)
        have hc9_8 : ∀ o, w9.cell? ⟨w7.heap.size, o, none⟩ = _ := fun o => hb9.cell (p := ⟨w7.heap.size, o, none⟩) (by ((try simp only [World.size_alloc, World.size_setCell, World.size_drew, size_drewN]); omega))
        have hf9_8 : ∀ o, w9.frozen? ⟨w7.heap.size, o, none⟩ = _ := fun o => hb9.frozen (p := ⟨w7.heap.size, o, none⟩) (by ((try simp only [World.size_alloc, World.size_setCell, World.size_drew, size_drewN]); omega))
        have z9_8 : w7.heap.size < w9.heap.size := (by omega)
        have hc9_9 : ∀ o, w9.cell? ⟨w8.heap.size, o, none⟩ = _ := fun o => hb9.cell (p := ⟨w8.heap.size, o, none⟩) (by ((try simp only [World.size_alloc, World.size_setCell, World.size_drew, size_drewN]); omega))
        have hf9_9 : ∀ o, w9.frozen? ⟨w8.heap.size, o, none⟩ = _ := fun o => hb9.frozen (p := ⟨w8.heap.size, o, none⟩) (by ((try simp only [World.size_alloc, World.size_setCell, World.size_drew, size_drewN]); omega))
        have z9_9 : w8.heap.size < w9.heap.size := (by omega)
        go_wp2_with fail
        refine (awake1_c _).mono ?_
        rintro e w10 ⟨rfl, hb10⟩
        have hs10 := hb10.size
        try simp only [World.size_alloc, World.size_setCell, World.size_drew, size_drewN] at hs10
        have hc10_0 : ∀ o, w10.cell? ⟨w.heap.size, o, none⟩ = _ := fun o => hb10.cell (p := ⟨w.heap.size, o, none⟩) (by ((try simp only [World.size_alloc, World.size_setCell, World.size_drew, size_drewN]); omega))
        have hf10_0 : ∀ o, w10.frozen? ⟨w.heap.size, o, none⟩ = _ := fun o => hb10.frozen (p := ⟨w.heap.size, o, none⟩) (by ((try simp only [World.size_alloc, World.size_setCell, World.size_drew, size_drewN]); omega))
        have z10_0 : w.heap.size < w10.heap.size := (by omega)
        have hc10_1 : ∀ o, w10.cell? ⟨w.heap.size + 1, o, none⟩ = _ := fun o => hb10.cell (p := ⟨w.heap.size + 1, o, none⟩) (by ((try simp only [World.size_alloc, World.size_setCell, World.size_drew, size_drewN]); omega))
        have hf10_1 : ∀ o, w10.frozen? ⟨w.heap.size + 1, o, none⟩ = _ := fun o => hb10.frozen (p := ⟨w.heap.size + 1, o, none⟩) (by ((try simp only [World.size_alloc, World.size_setCell, World.size_drew, size_drewN]); omega))
        have z10_1 : w.heap.size + 1 < w10.heap.size := (by omega)
        have hc10_2 : ∀ o, w10.cell? ⟨w.heap.size + 1 + 1, o, none⟩ = _ := fun o => hb10.cell (p := ⟨w.heap.size + 1 + 1, o, none⟩) (by ((try simp only [World.size_alloc, World.size_setCell, World.size_drew, size_drewN]); omega))
        have hf10_2 : ∀ o, w10.frozen? ⟨w.heap.size + 1 + 1, o, none⟩ = _ := fun o => hb10.frozen (p := ⟨w.heap.size + 1 + 1, o, none⟩) (by ((try simp only [World.size_alloc, World.size_setCell, World.size_drew, size_drewN]); omega))
        have z10_2 : w.heap.size + 1 + 1 < w10.heap.size := (by omega)
        have hc10_3 : ∀ o, w10.cell? ⟨w1.heap.size, o, none⟩ = _ := fun o => hb10.cell (p := ⟨w1.heap.size, o, none⟩) (by ((try simp only [World.size_alloc, World.size_setCell, World.size_drew, size_drewN]); omega))
        have hf10_3 : ∀ o, w10.frozen? ⟨w1.heap.size, o, none⟩ = _ := fun o => hb10.frozen (p := ⟨w1.heap.size, o, none⟩) (by ((try simp only [World.size_alloc, World.size_setCell, World.size_drew, size_drewN]); omega))
        have z10_3 : w1.heap.size < w10.heap.size := (by omega)
        have hc10_4 : ∀ o, w10.cell? ⟨w2.heap.size, o, none⟩ = _ := fun o => hb10.cell (p := ⟨w2.heap.size, o, none⟩) (by ((try simp only [World.size_alloc, World.size_setCell, World.size_drew, size_drewN]); omega))
        have hf10_4 : ∀ o, w10.frozen? ⟨w2.heap.size, o, none⟩ = _ := fun o => hb10.frozen (p := ⟨w2.heap.size, o, none⟩) (by ((try simp only [World.size_alloc, World.size_setCell, World.size_drew, size_drewN]); omega))
        have z10_4 : w2.heap.size < w10.heap.size := (by omega)
        have hc10_5 : ∀ o, w10.cell? ⟨w3.heap.size, o, none⟩ = _ := fun o => hb10.cell (p := ⟨w3.heap.size, o, none⟩) (by ((try simp only [World.size_alloc, World.size_setCell, World.size_drew, size_drewN]); omega))
        have hf10_5 : ∀ o, w10.frozen? ⟨w3.heap.size, o, none⟩ = _ := fun o => hb10.frozen (p := ⟨w3.heap.size, o, none⟩) (by ((try simp only [World.size_alloc, World.size_setCell, World.size_drew, size_drewN]); omega))
        have z10_5 : w3.heap.size < w10.heap.size := (by omega)
        have hc10_6 : ∀ o, w10.cell? ⟨w4.heap.size, o, none⟩ = _ := fun o => hb10.cell (p := ⟨w4.heap.size, o, none⟩) (by ((try simp only [World.size_alloc, World.size_setCell, World.size_drew, size_drewN]); omega))
        have hf10_6 : ∀ o, w10.frozen? ⟨w4.heap.size, o, none⟩ = _ := fun o => hb10.frozen (p := ⟨w4.heap.size, o, none⟩) (by ((try simp only [World.size_alloc, World.size_setCell, World.size_drew, size_drewN]); omega))
        have z10_6 : w4.heap.size < w10.heap.size := (by omega)
        have hc10_7 : ∀ o, w10.cell? ⟨w5.heap.size, o, none⟩ = _ := fun o => hb10.cell (p := ⟨w5.heap.size, o, none⟩) (by ((try simp only [World.size_alloc, World.size_setCell, World.size_drew, size_drewN]); omega))
        have hf10_7 : ∀ o, w10.frozen? ⟨w5.heap.size, o, none⟩ = _ := fun o => hb10.frozen (p := ⟨w5.heap.size, o, none⟩) (by ((try simp only [World.size_alloc, World.size_setCell, World.size_drew, size_drewN]); omega))
        have z10_7 : w5.heap.size < w10.heap.size := (by omega)
        have hc10_8 : ∀ o, w10.cell? ⟨w7.heap.size, o, none⟩ = _ := fun o => hb10.cell (p := ⟨w7.heap.size, o, none⟩) (by ((try simp only [World.size_alloc, World.size_setCell, World.size_drew, size_drewN]); omega))
        have hf10_8 : ∀ o, w10.frozen? ⟨w7.heap.size, o, none⟩ = _ := fun o => hb10.frozen (p := ⟨w7.heap.size, o, none⟩) (by ((try simp only [World.size_alloc, World.size_setCell, World.size_drew, size_drewN]); omega))
        have z10_8 : w7.heap.size < w10.heap.size := (by omega)
        have hc10_9 : ∀ o, w10.cell? ⟨w8.heap.size, o, none⟩ = _ := fun o => hb10.cell (p := ⟨w8.heap.size, o, none⟩) (by ((try simp only [World.size_alloc, World.size_setCell, World.size_drew, size_drewN]); omega))
        have hf10_9 : ∀ o, w10.frozen? ⟨w8.heap.size, o, none⟩ = _ := fun o => hb10.frozen (p := ⟨w8.heap.size, o, none⟩) (by ((try simp only [World.size_alloc, World.size_setCell, World.size_drew, size_drewN]); omega))
        have z10_9 : w8.heap.size < w10.heap.size := (by omega)
        have hc10_10 : ∀ o, w10.cell? ⟨w9.heap.size, o, none⟩ = _ := fun o => hb10.cell (p := ⟨w9.heap.size, o, none⟩) (by ((try simp only [World.size_alloc, World.size_setCell, World.size_drew, size_drewN]); omega))
        have hf10_10 : ∀ o, w10.frozen? ⟨w9.heap.size, o, none⟩ = _ := fun o => hb10.frozen (p := ⟨w9.heap.size, o, none⟩) (by ((try simp only [World.size_alloc, World.size_setCell, World.size_drew, size_drewN]); omega))
        have z10_10 : w9.heap.size < w10.heap.size := (by omega)
        go_wp2
        go_ret
        exact ⟨rfl, (by (repeat' (first | (with_reducible exact Below.refl _ _) | (with_reducible assumption) | (with_reducible refine Below.alloc ?_ ?_ _) | (with_reducible refine Below.drew ?_) | (with_reducible refine below_drewN ?_ _) | (with_reducible refine Below.setCell ?_ ?_ _) | (with_reducible refine below_step (by with_reducible assumption) ?_ ?_) | (first | (with_reducible exact Nat.le_refl _) | (with_reducible assumption) | omega | (simp only [World.size_alloc, World.size_setCell, World.size_drew, size_drewN]; omega) | (simp; omega) | (simp; done)))))⟩
    · have e1 : (addE A B == 0) = false := by rw [addE, if_neg hS]; rfl
      have s0 : addV A B = 0 := by rw [addV, if_neg hS]
      clear hM hS HS
      go_enter Try.func6, Try.ntmps6
      go_wp2_with fail
      refine (add_c HA.out HB.out _).mono ?_
      rintro e w1 ⟨rfl, hb1⟩
      have hs1 := hb1.size
      try simp only [World.size_alloc, World.size_setCell, World.size_drew, size_drewN] at hs1
      have hc1_0 : ∀ o, w1.cell? ⟨w.heap.size, o, none⟩ = _ := fun o => hb1.cell (p := ⟨w.heap.size, o, none⟩) (by ((try simp only [World.size_alloc, World.size_setCell, World.size_drew, size_drewN]); omega))
      have hf1_0 : ∀ o, w1.frozen? ⟨w.heap.size, o, none⟩ = _ := fun o => hb1.frozen (p := ⟨w.heap.size, o, none⟩) (by ((try simp only [World.size_alloc, World.size_setCell, World.size_drew, size_drewN]); omega))
      have z1_0 : w.heap.size < w1.heap.size := (by omega)
      have hc1_1 : ∀ o, w1.cell? ⟨w.heap.size + 1, o, none⟩ = _ := fun o => hb1.cell (p := ⟨w.heap.size + 1, o, none⟩) (by ((try simp only [World.size_alloc, World.size_setCell, World.size_drew, size_drewN]); omega))
      have hf1_1 : ∀ o, w1.frozen? ⟨w.heap.size + 1, o, none⟩ = _ := fun o => hb1.frozen (p := ⟨w.heap.size + 1, o, none⟩) (by ((try simp only [World.size_alloc, World.size_setCell, World.size_drew, size_drewN]); omega))
      have z1_1 : w.heap.size + 1 < w1.heap.size := (by omega)
      have hc1_2 : ∀ o, w1.cell? ⟨w.heap.size + 1 + 1, o, none⟩ = _ := fun o => hb1.cell (p := ⟨w.heap.size + 1 + 1, o, none⟩) (by ((try simp only [World.size_alloc, World.size_setCell, World.size_drew, size_drewN]); omega))
      have hf1_2 : ∀ o, w1.frozen? ⟨w.heap.size + 1 + 1, o, none⟩ = _ := fun o => hb1.frozen (p := ⟨w.heap.size + 1 + 1, o, none⟩) (by ((try simp only [World.size_alloc, World.size_setCell, World.size_drew, size_drewN]); omega))
      have z1_2 : w.heap.size + 1 + 1 < w1.heap.size := (by omega)
      go_wp2_with fail
      refine (add_c HB.out HA.out _).mono ?_
      rintro e w2 ⟨rfl, hb2⟩
      have hs2 := hb2.size
      try simp only [World.size_alloc, World.size_setCell, World.size_drew, size_drewN] at hs2
      have hc2_0 : ∀ o, w2.cell? ⟨w.heap.size, o, none⟩ = _ := fun o => hb2.cell (p := ⟨w.heap.size, o, none⟩) (by ((try simp only [World.size_alloc, World.size_setCell, World.size_drew, size_drewN]); omega))
      have hf2_0 : ∀ o, w2.frozen? ⟨w.heap.size, o, none⟩ = _ := fun o => hb2.frozen (p := ⟨w.heap.size, o, none⟩) (by ((try simp only [World.size_alloc, World.size_setCell, World.size_drew, size_drewN]); omega))
      have z2_0 : w.heap.size < w2.heap.size := (by omega)
      have hc2_1 : ∀ o, w2.cell? ⟨w.heap.size + 1, o, none⟩ = _ := fun o => hb2.cell (p := ⟨w.heap.size + 1, o, none⟩) (by ((try simp only [World.size_alloc, World.size_setCell, World.size_drew, size_drewN]); omega))
      have hf2_1 : ∀ o, w2.frozen? ⟨w.heap.size + 1, o, none⟩ = _ := fun o => hb2.frozen (p := ⟨w.heap.size + 1, o, none⟩) (by ((try simp only [World.size_alloc, World.size_setCell, World.size_drew, size_drewN]); omega))
      have z2_1 : w.heap.size + 1 < w2.heap.size := (by omega)
      have hc2_2 : ∀ o, w2.cell? ⟨w.heap.size + 1 + 1, o, none⟩ = _ := fun o => hb2.cell (p := ⟨w.heap.size + 1 + 1, o, none⟩) (by ((try simp only [World.size_alloc, World.size_setCell, World.size_drew, size_drewN]); omega))
      have hf2_2 : ∀ o, w2.frozen? ⟨w.heap.size + 1 + 1, o, none⟩ = _ := fun o => hb2.frozen (p := ⟨w.heap.size + 1 + 1, o, none⟩) (by ((try simp only [World.size_alloc, World.size_setCell, World.size_drew, size_drewN]); omega))
      have z2_2 : w.heap.size + 1 + 1 < w2.heap.size := (by omega)
      have hc2_3 : ∀ o, w2.cell? ⟨w1.heap.size, o, none⟩ = _ := fun o => hb2.cell (p := ⟨w1.heap.size, o, none⟩) (by ((try simp only [World.size_alloc, World.size_setCell, World.size_drew, size_drewN]); omega))
      have hf2_3 : ∀ o, w2.frozen? ⟨w1.heap.size, o, none⟩ = _ := fun o => hb2.frozen (p := ⟨w1.heap.size, o, none⟩) (by ((try simp only [World.size_alloc, World.size_setCell, World.size_drew, size_drewN]); omega))
      have z2_3 : w1.heap.size < w2.heap.size := (by omega)
      go_wp2_with fail
      refine (mul_c HA.out HB.out _).mono ?_
      rintro e w3 ⟨rfl, hb3⟩
      have hs3 := hb3.size
      try simp only [World.size_alloc, World.size_setCell, World.size_drew, size_drewN] at hs3
      have hc3_0 : ∀ o, w3.cell? ⟨w.heap.size, o, none⟩ = _ := fun o => hb3.cell (p := ⟨w.heap.size, o, none⟩) (by ((try simp only [World.size_alloc, World.size_setCell, World.size_drew, size_drewN]); omega))
      have hf3_0 : ∀ o, w3.frozen? ⟨w.heap.size, o, none⟩ = _ := fun o => hb3.frozen (p := ⟨w.heap.size, o, none⟩) (by ((try simp only [World.size_alloc, World.size_setCell, World.size_drew, size_drewN]); omega))
      have z3_0 : w.heap.size < w3.heap.size := (by omega)
      have hc3_1 : ∀ o, w3.cell? ⟨w.heap.size + 1, o, none⟩ = _ := fun o => hb3.cell (p := ⟨w.heap.size + 1, o, none⟩) (by ((try simp only [World.size_alloc, World.size_setCell, World.size_drew, size_drewN]); omega))
      have hf3_1 : ∀ o, w3.frozen? ⟨w.heap.size + 1, o, none⟩ = _ := fun o => hb3.frozen (p := ⟨w.heap.size + 1, o, none⟩) (by ((try simp only [World.size_alloc, World.size_setCell, World.size_drew, size_drewN]); omega))
      have z3_1 : w.heap.size + 1 < w3.heap.size := (by omega)
      have hc3_2 : ∀ o, w3.cell? ⟨w.heap.size + 1 + 1, o, none⟩ = _ := fun o => hb3.cell (p := ⟨w.heap.size + 1 + 1, o, none⟩) (by ((try simp only [World.size_alloc, World.size_setCell, World.size_drew, size_drewN]); omega))
      have hf3_2 : ∀ o, w3.frozen? ⟨w.heap.size + 1 + 1, o, none⟩ = _ := fun o => hb3.frozen (p := ⟨w.heap.size + 1 + 1, o, none⟩) (by ((try simp only [World.size_alloc, World.size_setCell, World.size_drew, size_drewN]); omega))
      have z3_2 : w.heap.size + 1 + 1 < w3.heap.size := (by omega)
      have hc3_3 : ∀ o, w3.cell? ⟨w1.heap.size, o, none⟩ = _ := fun o => hb3.cell (p := ⟨w1.heap.size, o, none⟩) (by ((try simp only [World.size_alloc, World.size_setCell, World.size_drew, size_drewN]); omega))
      have hf3_3 : ∀ o, w3.frozen? ⟨w1.heap.size, o, none⟩ = _ := fun o => hb3.frozen (p := ⟨w1.heap.size, o, none⟩) (by ((try simp only [World.size_alloc, World.size_setCell, World.size_drew, size_drewN]); omega))
      have z3_3 : w1.heap.size < w3.heap.size := (by omega)
      have hc3_4 : ∀ o, w3.cell? ⟨w2.heap.size, o, none⟩ = _ := fun o => hb3.cell (p := ⟨w2.heap.size, o, none⟩) (by ((try simp only [World.size_alloc, World.size_setCell, World.size_drew, size_drewN]); omega))
      have hf3_4 : ∀ o, w3.frozen? ⟨w2.heap.size, o, none⟩ = _ := fun o => hb3.frozen (p := ⟨w2.heap.size, o, none⟩) (by ((try simp only [World.size_alloc, World.size_setCell, World.size_drew, size_drewN]); omega))
      have z3_4 : w2.heap.size < w3.heap.size := (by omega)
      go_wp2_with fail
      refine (mul_c HB.out HA.out _).mono ?_
      rintro e w4 ⟨rfl, hb4⟩
      have hs4 := hb4.size
      try simp only [World.size_alloc, World.size_setCell, World.size_drew, size_drewN] at hs4
      have hc4_0 : ∀ o, w4.cell? ⟨w.heap.size, o, none⟩ = _ := fun o => hb4.cell (p := ⟨w.heap.size, o, none⟩) (by ((try simp only [World.size_alloc, World.size_setCell, World.size_drew, size_drewN]); omega))
      have hf4_0 : ∀ o, w4.frozen? ⟨w.heap.size, o, none⟩ = _ := fun o => hb4.frozen (p := ⟨w.heap.size, o, none⟩) (by ((try simp only [World.size_alloc, World.size_setCell, World.size_drew, size_drewN]); omega))
      have z4_0 : w.heap.size < w4.heap.size := (by omega)
      have hc4_1 : ∀ o, w4.cell? ⟨w.heap.size + 1, o, none⟩ = _ := fun o => hb4.cell (p := ⟨w.heap.size + 1, o, none⟩) (by ((try simp only [World.size_alloc, World.size_setCell, World.size_drew, size_drewN]); omega))
      have hf4_1 : ∀ o, w4.frozen? ⟨w.heap.size + 1, o, none⟩ = _ := fun o => hb4.frozen (p := ⟨w.heap.size + 1, o, none⟩) (by ((try simp only [World.size_alloc, World.size_setCell, World.size_drew, size_drewN]); omega))
      have z4_1 : w.heap.size + 1 < w4.heap.size := (by omega)
      have hc4_2 : ∀ o, w4.cell? ⟨w.heap.size + 1 + 1, o, none⟩ = _ := fun o => hb4.cell (p := ⟨w.heap.size + 1 + 1, o, none⟩) (by ((try simp only [World.size_alloc, World.size_setCell, World.size_drew, size_drewN]); omega))
      have hf4_2 : ∀ o, w4.frozen? ⟨w.heap.size + 1 + 1, o, none⟩ = _ := fun o => hb4.frozen (p := ⟨w.heap.size + 1 + 1, o, none⟩) (by ((try simp only [World.size_alloc, World.size_setCell, World.size_drew, size_drewN]); omega))
      have z4_2 : w.heap.size + 1 + 1 < w4.heap.size := (by omega)
      have hc4_3 : ∀ o, w4.cell? ⟨w1.heap.size, o, none⟩ = _ := fun o => hb4.cell (p := ⟨w1.heap.size, o, none⟩) (by ((try simp only [World.size_alloc, World.size_setCell, World.size_drew, size_drewN]); omega))
      have hf4_3 : ∀ o, w4.frozen? ⟨w1.heap.size, o, none⟩ = _ := fun o => hb4.frozen (p := ⟨w1.heap.size, o, none⟩) (by ((try simp only [World.size_alloc, World.size_setCell, World.size_drew, size_drewN]); omega))
      have z4_3 : w1.heap.size < w4.heap.size := (by omega)
      have hc4_4 : ∀ o, w4.cell? ⟨w2.heap.size, o, none⟩ = _ := fun o => hb4.cell (p := ⟨w2.heap.size, o, none⟩) (by ((try simp only [World.size_alloc, World.size_setCell, World.size_drew, size_drewN]); omega))
      have hf4_4 : ∀ o, w4.frozen? ⟨w2.heap.size, o, none⟩ = _ := fun o => hb4.frozen (p := ⟨w2.heap.size, o, none⟩) (by ((try simp only [World.size_alloc, World.size_setCell, World.size_drew, size_drewN]); omega))
      have z4_4 : w2.heap.size < w4.heap.size := (by omega)
      have hc4_5 : ∀ o, w4.cell? ⟨w3.heap.size, o, none⟩ = _ := fun o => hb4.cell (p := ⟨w3.heap.size, o, none⟩) (by ((try simp only [World.size_alloc, World.size_setCell, World.size_drew, size_drewN]); omega))
      have hf4_5 : ∀ o, w4.frozen? ⟨w3.heap.size, o, none⟩ = _ := fun o => hb4.frozen (p := ⟨w3.heap.size, o, none⟩) (by ((try simp only [World.size_alloc, World.size_setCell, World.size_drew, size_drewN]); omega))
      have z4_5 : w3.heap.size < w4.heap.size := (by omega)
      go_wp2_with fail
      refine (awake1_c _).mono ?_
      rintro e w5 ⟨rfl, hb5⟩
      have hs5 := hb5.size
      try simp only [World.size_alloc, World.size_setCell, World.size_drew, size_drewN] at hs5
      have hc5_0 : ∀ o, w5.cell? ⟨w.heap.size, o, none⟩ = _ := fun o => hb5.cell (p := ⟨w.heap.size, o, none⟩) (by ((try simp only [World.size_alloc, World.size_setCell, World.size_drew, size_drewN]); omega))
      have hf5_0 : ∀ o, w5.frozen? ⟨w.heap.size, o, none⟩ = _ := fun o => hb5.frozen (p := ⟨w.heap.size, o, none⟩) (by ((try simp only [World.size_alloc, World.size_setCell, World.size_drew, size_drewN]); omega))
      have z5_0 : w.heap.size < w5.heap.size := (by omega)
      have hc5_1 : ∀ o, w5.cell? ⟨w.heap.size + 1, o, none⟩ = _ := fun o => hb5.cell (p := ⟨w.heap.size + 1, o, none⟩) (by ((try simp only [World.size_alloc, World.size_setCell, World.size_drew, size_drewN]); omega))
      have hf5_1 : ∀ o, w5.frozen? ⟨w.heap.size + 1, o, none⟩ = _ := fun o => hb5.frozen (p := ⟨w.heap.size + 1, o, none⟩) (by ((try simp only [World.size_alloc, World.size_setCell, World.size_drew, size_drewN]); omega))
      have z5_1 : w.heap.size + 1 < w5.heap.size := (by omega)
      have hc5_2 : ∀ o, w5.cell? ⟨w.heap.size + 1 + 1, o, none⟩ = _ := fun o => hb5.cell (p := ⟨w.heap.size + 1 + 1, o, none⟩) (by ((try simp only [World.size_alloc, World.size_setCell, World.size_drew, size_drewN]); omega))
      have hf5_2 : ∀ o, w5.frozen? ⟨w.heap.size + 1 + 1, o, none⟩ = _ := fun o => hb5.frozen (p := ⟨w.heap.size + 1 + 1, o, none⟩) (by ((try simp only [World.size_alloc, World.size_setCell, World.size_drew, size_drewN]); omega))
      have z5_2 : w.heap.size + 1 + 1 < w5.heap.size := (by omega)
      have hc5_3 : ∀ o, w5.cell? ⟨w1.heap.size, o, none⟩ = _ := fun o => hb5.cell (p := ⟨w1.heap.size, o, none⟩) (by ((try simp only [World.size_alloc, World.size_setCell, World.size_drew, size_drewN]); omega))
      have hf5_3 : ∀ o, w5.frozen? ⟨w1.heap.size, o, none⟩ = _ := fun o => hb5.frozen (p := ⟨w1.heap.size, o, none⟩) (by ((try simp only [World.size_alloc, World.size_setCell, World.size_drew, size_drewN]); omega))
      have z5_3 : w1.heap.size < w5.heap.size := (by omega)
      have hc5_4 : ∀ o, w5.cell? ⟨w2.heap.size, o, none⟩ = _ := fun o => hb5.cell (p := ⟨w2.heap.size, o, none⟩) (by ((try simp only [World.size_alloc, World.size_setCell, World.size_drew, size_drewN]); omega))
      have hf5_4 : ∀ o, w5.frozen? ⟨w2.heap.size, o, none⟩ = _ := fun o => hb5.frozen (p := ⟨w2.heap.size, o, none⟩) (by ((try simp only [World.size_alloc, World.size_setCell, World.size_drew, size_drewN]); omega))
      have z5_4 : w2.heap.size < w5.heap.size := (by omega)
      have hc5_5 : ∀ o, w5.cell? ⟨w3.heap.size, o, none⟩ = _ := fun o => hb5.cell (p := ⟨w3.heap.size, o, none⟩) (by ((try simp only [World.size_alloc, World.size_setCell, World.size_drew, size_drewN]); omega))
      have hf5_5 : ∀ o, w5.frozen? ⟨w3.heap.size, o, none⟩ = _ := fun o => hb5.frozen (p := ⟨w3.heap.size, o, none⟩) (by ((try simp only [World.size_alloc, World.size_setCell, World.size_drew, size_drewN]); omega))
      have z5_5 : w3.heap.size < w5.heap.size := (by omega)
      have hc5_6 : ∀ o, w5.cell? ⟨w4.heap.size, o, none⟩ = _ := fun o => hb5.cell (p := ⟨w4.heap.size, o, none⟩) (by ((try simp only [World.size_alloc, World.size_setCell, World.size_drew, size_drewN]); omega))
      have hf5_6 : ∀ o, w5.frozen? ⟨w4.heap.size, o, none⟩ = _ := fun o => hb5.frozen (p := ⟨w4.heap.size, o, none⟩) (by ((try simp only [World.size_alloc, World.size_setCell, World.size_drew, size_drewN]); omega))
      have z5_6 : w4.heap.size < w5.heap.size := (by omega)
      go_wp2
      go_ret
      exact ⟨rfl, (by (repeat' (first | (with_reducible exact Below.refl _ _) | (with_reducible assumption) | (with_reducible refine Below.alloc ?_ ?_ _) | (with_reducible refine Below.drew ?_) | (with_reducible refine below_drewN ?_ _) | (with_reducible refine Below.setCell ?_ ?_ _) | (with_reducible refine below_step (by with_reducible assumption) ?_ ?_) | (first | (with_reducible exact Nat.le_refl _) | (with_reducible assumption) | omega | (simp only [World.size_alloc, World.size_setCell, World.size_drew, size_drewN]; omega) | (simp; omega) | (simp; done)))))⟩
end Go.Proofs.Ytphnmolndhnnpaa
