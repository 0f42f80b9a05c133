/- The statements of chapter 1 that speak of the program alone, walked. -/
import Derived.WalkKit
import Derived.KernelRfl
import Derived.RowKit3
import Derived.Deep.LoopGhost
import Derived.Deep.QuietTactic
import Derived.BigQuiet
import Derived.WideLaws
import Derived.Laws.Rows
import Derived.Below
import Derived.Deep.Draws
import Derived.Outline
import Derived.LoopN
import Derived.Handy
import Derived.Laws.Externs
import Derived.Laws.BitsAllLaws
import Derived.Laws.BitsLemmas
import Derived.Test.YtphnmolndhnnpaaU4
namespace Go.Proofs.Ytphnmolndhnnpaa
open Go.RowKit
set_option linter.unusedVariables false
set_option linter.unusedSimpArgs false
theorem isU_wf {a0 a1 a2 a3 : Int} (h0 : (Lit.int .u64 a0).wf = true) (h1 : (Lit.int .u64 a1).wf = true) (h2 : (Lit.int .u64 a2).wf = true) (h3 : (Lit.int .u64 a3).wf = true) : ∃ A, A < M256 ∧ a0 = lim A 0 ∧ a1 = lim A 1 ∧ a2 = lim A 2 ∧ a3 = lim A 3 := by
  obtain ⟨p0, q0⟩ := bounds_u64 h0
  obtain ⟨p1, q1⟩ := bounds_u64 h1
  obtain ⟨p2, q2⟩ := bounds_u64 h2
  obtain ⟨p3, q3⟩ := bounds_u64 h3
  obtain ⟨A, h⟩ := isU_ex p0 p1 p2 p3 (by omega) (by omega) (by omega) (by omega)
  exact ⟨A, h.lt, h.lims⟩
theorem addV_comm (A B : Nat) : addV B A = addV A B := by unfold addV; rw [Nat.add_comm]
theorem addE_comm (A B : Nat) : addE B A = addE A B := by unfold addE; rw [Nat.add_comm]
theorem mulV_comm (A B : Nat) : mulV B A = mulV A B := by unfold mulV; rw [Nat.mul_comm]
theorem mulE_comm (A B : Nat) : mulE B A = mulE A B := by unfold mulE; rw [Nat.mul_comm]
theorem zero_test {A : Nat} (h : A < M256) : (lim A 0 == 0 && (lim A 1 == 0 && (lim A 2 == 0 && lim A 3 == 0))) = decide (A = 0) := by
  have hu := isU_lim h
  obtain ⟨p0, p1, p2, p3, q0, q1, q2, q3, v⟩ := hu
  rw [Bool.eq_iff_iff]
  simp only [Bool.and_eq_true, beq_iff_eq, decide_eq_true_eq]
  omega
set_option maxHeartbeats 8000000 in
theorem Uint256Algebra_walk (a0 a1 a2 a3 b0 b1 b2 b3 c0 c1 c2 c3 : Int) (wa0 : (Lit.int .u64 a0).wf = true) (wa1 : (Lit.int .u64 a1).wf = true) (wa2 : (Lit.int .u64 a2).wf = true) (wa3 : (Lit.int .u64 a3).wf = true) (wb0 : (Lit.int .u64 b0).wf = true) (wb1 : (Lit.int .u64 b1).wf = true) (wb2 : (Lit.int .u64 b2).wf = true) (wb3 : (Lit.int .u64 b3).wf = true)
    (wc0 : (Lit.int .u64 c0).wf = true) (wc1 : (Lit.int .u64 c1).wf = true) (wc2 : (Lit.int .u64 c2).wf = true) (wc3 : (Lit.int .u64 c3).wf = true) (w : World) :
    Calls Try.prog 6 #[.agg #[.int .u64 a0, .int .u64 a1, .int .u64 a2, .int .u64 a3], .agg #[.int .u64 b0, .int .u64 b1, .int .u64 b2, .int .u64 b3], .agg #[.int .u64 c0, .int .u64 c1, .int .u64 c2, .int .u64 c3]] w fun e w' => e = .returned (.bool true) ∧ Below w.heap.size w w' := by
  obtain ⟨A, hA, rfl, rfl, rfl, rfl⟩ := isU_wf wa0 wa1 wa2 wa3
  obtain ⟨B, hB, rfl, rfl, rfl, rfl⟩ := isU_wf wb0 wb1 wb2 wb3
  obtain ⟨C, hC, rfl, rfl, rfl, rfl⟩ := isU_wf wc0 wc1 wc2 wc3
  clear wa0 wa1 wa2 wa3 wb0 wb1 wb2 wb3 wc0 wc1 wc2 wc3
  have r1 := addV_comm A B
  have r2 := addE_comm A B
  have r3 := mulV_comm A B
  have r4 := mulE_comm A B
  have HA := hide (isU_lim hA)
  have HB := hide (isU_lim hB)
  have HC := hide (isU_lim hC)
  have HS := hide (isU_lim (addV_lt A B))
  clear hA hB hC
  have l0 := lim_zero 0
  have l1 := lim_zero 1
  have l2 := lim_zero 2
  have l3 := lim_zero 3
  by_cases hM : A * B < M256
  · have g1 : (mulE A B == 0) = true := by rw [mulE, if_pos hM]; rfl
    by_cases hS : A + B < M256
    · have e1 : (addE A B == 0) = true := by rw [addE, if_pos hS]; rfl
      have s0 : addV A B = A + B := by rw [addV, if_pos hS]
      have s1 : subV (addV A B) B = A := by rw [s0, subV, if_neg (by omega)]; omega
      have s2 : (subE (addV A B) B != 0) = false := by rw [s0, subE, if_neg (by omega)]; rfl
      have s3 : decide (cmpV (addV A B) A < 0) = false := by rw [s0]; unfold cmpV; rw [if_neg (by omega)]; split <;> rfl
      by_cases hD : (A + B) * C < M256
      · have d1 : (mulE (addV A B) C == 0) = true := by rw [s0, mulE, if_pos hD]; rfl
        have hAC : A * C < M256 := Nat.lt_of_le_of_lt (Nat.mul_le_mul_right _ (by omega)) hD
        have hBC : B * C < M256 := Nat.lt_of_le_of_lt (Nat.mul_le_mul_right _ (by omega)) hD
        have hsum : A * C + B * C = (A + B) * C := (Nat.add_mul A B C).symm
        have d2 : (mulE A C != 0) = false := by rw [mulE, if_pos hAC]; rfl
        have d3 : (mulE B C != 0) = false := by rw [mulE, if_pos hBC]; rfl
        have d4 : (addE (mulV A C) (mulV B C) != 0) = false := by rw [mulV, mulV, if_pos hAC, if_pos hBC, addE, hsum, if_pos hD]; rfl
        have d5 : addV (mulV A C) (mulV B C) = mulV (addV A B) C := by rw [s0, mulV, mulV, mulV, if_pos hAC, if_pos hBC, if_pos hD, addV, hsum, if_pos hD]
        have HM1 := hide (isU_lim (mulV_lt A C))
        have HM2 := hide (isU_lim (mulV_lt B C))
        clear hM hS hD hAC hBC hsum s0
        go_enter Try.func6, Try.ntmps6
        go_wp2_with fail
        refine (add_c HA.out HB.out _).mono ?_
        rintro e w1 ⟨rfl, hb1⟩
        obtain ⟨hc1, hf1⟩ := bcell hb1
        have hs1 := hb1.size
        try simp only [World.size_alloc, World.size_setCell, World.size_drew, size_drewN] at hs1
        obtain ⟨z1_0, z1_1, z1_2⟩ : w.heap.size < w1.heap.size ∧ w.heap.size + 1 < w1.heap.size ∧ w.heap.size + 1 + 1 < w1.heap.size := (by (have hz_ := hb1.size; (try simp at hz_); omega))
        go_wp2_with fail
        refine (add_c HB.out HA.out _).mono ?_
        rintro e w2 ⟨rfl, hb2⟩
        obtain ⟨hc2, hf2⟩ := bcell hb2
        have hs2 := hb2.size
        try simp only [World.size_alloc, World.size_setCell, World.size_drew, size_drewN] at hs2
        obtain ⟨z2_0, z2_1, z2_2, z2_3⟩ : w.heap.size < w2.heap.size ∧ w.heap.size + 1 < w2.heap.size ∧ w.heap.size + 1 + 1 < w2.heap.size ∧ w1.heap.size < w2.heap.size := (by (have hz_ := hb2.size; (try simp at hz_); omega))
        go_wp2_with fail
        refine (mul_c HA.out HB.out _).mono ?_
        rintro e w3 ⟨rfl, hb3⟩
        obtain ⟨hc3, hf3⟩ := bcell hb3
        have hs3 := hb3.size
        try simp only [World.size_alloc, World.size_setCell, World.size_drew, size_drewN] at hs3
        obtain ⟨z3_0, z3_1, z3_2, z3_3, z3_4⟩ : w.heap.size < w3.heap.size ∧ w.heap.size + 1 < w3.heap.size ∧ w.heap.size + 1 + 1 < w3.heap.size ∧ w1.heap.size < w3.heap.size ∧ w2.heap.size < w3.heap.size := (by (have hz_ := hb3.size; (try simp at hz_); omega))
        go_wp2_with fail
        refine (mul_c HB.out HA.out _).mono ?_
        rintro e w4 ⟨rfl, hb4⟩
        obtain ⟨hc4, hf4⟩ := bcell hb4
        have hs4 := hb4.size
        try simp only [World.size_alloc, World.size_setCell, World.size_drew, size_drewN] at hs4
        obtain ⟨z4_0, z4_1, z4_2, z4_3, z4_4, z4_5⟩ : w.heap.size < w4.heap.size ∧ w.heap.size + 1 < w4.heap.size ∧ w.heap.size + 1 + 1 < w4.heap.size ∧ w1.heap.size < w4.heap.size ∧ w2.heap.size < w4.heap.size ∧ w3.heap.size < w4.heap.size := (by (have hz_ := hb4.size; (try simp at hz_); omega))
        go_wp2_with fail
        refine (sub_c HS.out HB.out _).mono ?_
        rintro e w5 ⟨rfl, hb5⟩
        obtain ⟨hc5, hf5⟩ := bcell hb5
        have hs5 := hb5.size
        try simp only [World.size_alloc, World.size_setCell, World.size_drew, size_drewN] at hs5
        obtain ⟨z5_0, z5_1, z5_2, z5_3, z5_4, z5_5, z5_6⟩ : w.heap.size < w5.heap.size ∧ w.heap.size + 1 < w5.heap.size ∧ w.heap.size + 1 + 1 < w5.heap.size ∧ w1.heap.size < w5.heap.size ∧ w2.heap.size < w5.heap.size ∧ w3.heap.size < w5.heap.size ∧ w4.heap.size < w5.heap.size := (by (have hz_ := hb5.size; (try simp at hz_); omega))
        go_wp2_with fail
        refine (cmp_c HS.out HA.out _).mono ?_
        rintro e w6 ⟨rfl, hb6⟩
        obtain ⟨hc6, hf6⟩ := bcell hb6
        have hs6 := hb6.size
        try simp only [World.size_alloc, World.size_setCell, World.size_drew, size_drewN] at hs6
        obtain ⟨z6_0, z6_1, z6_2, z6_3, z6_4, z6_5, z6_6, z6_7⟩ : w.heap.size < w6.heap.size ∧ w.heap.size + 1 < w6.heap.size ∧ w.heap.size + 1 + 1 < w6.heap.size ∧ w1.heap.size < w6.heap.size ∧ w2.heap.size < w6.heap.size ∧ w3.heap.size < w6.heap.size ∧ w4.heap.size < w6.heap.size ∧ w5.heap.size < w6.heap.size := (by (have hz_ := hb6.size; (try simp at hz_); omega))
        go_wp2_with fail
        refine (mul_c HS.out HC.out _).mono ?_
        rintro e w7 ⟨rfl, hb7⟩
        obtain ⟨hc7, hf7⟩ := bcell hb7
        have hs7 := hb7.size
        try simp only [World.size_alloc, World.size_setCell, World.size_drew, size_drewN] at hs7
        obtain ⟨z7_0, z7_1, z7_2, z7_3, z7_4, z7_5, z7_6, z7_7⟩ : w.heap.size < w7.heap.size ∧ w.heap.size + 1 < w7.heap.size ∧ w.heap.size + 1 + 1 < w7.heap.size ∧ w1.heap.size < w7.heap.size ∧ w2.heap.size < w7.heap.size ∧ w3.heap.size < w7.heap.size ∧ w4.heap.size < w7.heap.size ∧ w5.heap.size < w7.heap.size := (by (have hz_ := hb7.size; (try simp at hz_); omega))
        go_wp2_with fail
        refine (mul_c HA.out HC.out _).mono ?_
        rintro e w8 ⟨rfl, hb8⟩
        obtain ⟨hc8, hf8⟩ := bcell hb8
        have hs8 := hb8.size
        try simp only [World.size_alloc, World.size_setCell, World.size_drew, size_drewN] at hs8
        obtain ⟨z8_0, z8_1, z8_2, z8_3, z8_4, z8_5, z8_6, z8_7, z8_8⟩ : w.heap.size < w8.heap.size ∧ w.heap.size + 1 < w8.heap.size ∧ w.heap.size + 1 + 1 < w8.heap.size ∧ w1.heap.size < w8.heap.size ∧ w2.heap.size < w8.heap.size ∧ w3.heap.size < w8.heap.size ∧ w4.heap.size < w8.heap.size ∧ w5.heap.size < w8.heap.size ∧ w7.heap.size < w8.heap.size := (by (have hz_ := hb8.size; (try simp at hz_); omega))
        go_wp2_with fail
        refine (mul_c HB.out HC.out _).mono ?_
        rintro e w9 ⟨rfl, hb9⟩
        obtain ⟨hc9, hf9⟩ := bcell hb9
        have hs9 := hb9.size
        try simp only [World.size_alloc, World.size_setCell, World.size_drew, size_drewN] at hs9
        obtain ⟨z9_0, z9_1, z9_2, z9_3, z9_4, z9_5, z9_6, z9_7, z9_8, z9_9⟩ : w.heap.size < w9.heap.size ∧ w.heap.size + 1 < w9.heap.size ∧ w.heap.size + 1 + 1 < w9.heap.size ∧ w1.heap.size < w9.heap.size ∧ w2.heap.size < w9.heap.size ∧ w3.heap.size < w9.heap.size ∧ w4.heap.size < w9.heap.size ∧ w5.heap.size < w9.heap.size ∧ w7.heap.size < w9.heap.size ∧ w8.heap.size < w9.heap.size := (by (have hz_ := hb9.size; (try simp at hz_); omega))
        go_wp2_with fail
        refine (add_c HM1.out HM2.out _).mono ?_
        rintro e w10 ⟨rfl, hb10⟩
        obtain ⟨hc10, hf10⟩ := bcell hb10
        have hs10 := hb10.size
        try simp only [World.size_alloc, World.size_setCell, World.size_drew, size_drewN] at hs10
        obtain ⟨z10_0, z10_1, z10_2, z10_3, z10_4, z10_5, z10_6, z10_7, z10_8, z10_9, z10_10⟩ : w.heap.size < w10.heap.size ∧ w.heap.size + 1 < w10.heap.size ∧ w.heap.size + 1 + 1 < w10.heap.size ∧ w1.heap.size < w10.heap.size ∧ w2.heap.size < w10.heap.size ∧ w3.heap.size < w10.heap.size ∧ w4.heap.size < w10.heap.size ∧ w5.heap.size < w10.heap.size ∧ w7.heap.size < w10.heap.size ∧ w8.heap.size < w10.heap.size ∧ w9.heap.size < w10.heap.size := (by (have hz_ := hb10.size; (try simp at hz_); omega))
        go_wp2_with fail
        refine (awake1_c _).mono ?_
        rintro e w11 ⟨rfl, hb11⟩
        obtain ⟨hc11, hf11⟩ := bcell hb11
        have hs11 := hb11.size
        try simp only [World.size_alloc, World.size_setCell, World.size_drew, size_drewN] at hs11
        obtain ⟨z11_0, z11_1, z11_2, z11_3, z11_4, z11_5, z11_6, z11_7, z11_8, z11_9, z11_10, z11_11⟩ : w.heap.size < w11.heap.size ∧ w.heap.size + 1 < w11.heap.size ∧ w.heap.size + 1 + 1 < w11.heap.size ∧ w1.heap.size < w11.heap.size ∧ w2.heap.size < w11.heap.size ∧ w3.heap.size < w11.heap.size ∧ w4.heap.size < w11.heap.size ∧ w5.heap.size < w11.heap.size ∧ w7.heap.size < w11.heap.size ∧ w8.heap.size < w11.heap.size ∧ w9.heap.size < w11.heap.size ∧ w10.heap.size < w11.heap.size := (by (have hz_ := hb11.size; (try simp at hz_); omega))
        go_wp2
        go_ret
        exact ⟨rfl, (by (repeat' (first | (with_reducible exact Below.refl _ _) | (with_reducible assumption) | (with_reducible refine Below.alloc ?_ ?_ _) | (with_reducible refine Below.drew ?_) | (with_reducible refine below_drewN ?_ _) | (with_reducible refine Below.setCell ?_ ?_ _) | (with_reducible refine below_step (by with_reducible assumption) ?_ ?_) | (first | (with_reducible exact Nat.le_refl _) | (with_reducible assumption) | omega | (simp only [World.size_alloc, World.size_setCell, World.size_drew, size_drewN]; omega) | (simp; omega) | (simp; done)))))⟩
      · have d1 : (mulE (addV A B) C == 0) = false := by rw [s0, mulE, if_neg hD]; rfl
        clear hM hS hD s0
        go_enter Try.func6, Try.ntmps6
        go_wp2_with fail
        refine (add_c HA.out HB.out _).mono ?_
        rintro e w1 ⟨rfl, hb1⟩
        obtain ⟨hc1, hf1⟩ := bcell hb1
        have hs1 := hb1.size
        try simp only [World.size_alloc, World.size_setCell, World.size_drew, size_drewN] at hs1
        obtain ⟨z1_0, z1_1, z1_2⟩ : w.heap.size < w1.heap.size ∧ w.heap.size + 1 < w1.heap.size ∧ w.heap.size + 1 + 1 < w1.heap.size := (by (have hz_ := hb1.size; (try simp at hz_); omega))
        go_wp2_with fail
        refine (add_c HB.out HA.out _).mono ?_
        rintro e w2 ⟨rfl, hb2⟩
        obtain ⟨hc2, hf2⟩ := bcell hb2
        have hs2 := hb2.size
        try simp only [World.size_alloc, World.size_setCell, World.size_drew, size_drewN] at hs2
        obtain ⟨z2_0, z2_1, z2_2, z2_3⟩ : w.heap.size < w2.heap.size ∧ w.heap.size + 1 < w2.heap.size ∧ w.heap.size + 1 + 1 < w2.heap.size ∧ w1.heap.size < w2.heap.size := (by (have hz_ := hb2.size; (try simp at hz_); omega))
        go_wp2_with fail
        refine (mul_c HA.out HB.out _).mono ?_
        rintro e w3 ⟨rfl, hb3⟩
        obtain ⟨hc3, hf3⟩ := bcell hb3
        have hs3 := hb3.size
        try simp only [World.size_alloc, World.size_setCell, World.size_drew, size_drewN] at hs3
        obtain ⟨z3_0, z3_1, z3_2, z3_3, z3_4⟩ : w.heap.size < w3.heap.size ∧ w.heap.size + 1 < w3.heap.size ∧ w.heap.size + 1 + 1 < w3.heap.size ∧ w1.heap.size < w3.heap.size ∧ w2.heap.size < w3.heap.size := (by (have hz_ := hb3.size; (try simp at hz_); omega))
        go_wp2_with fail
        refine (mul_c HB.out HA.out _).mono ?_
        rintro e w4 ⟨rfl, hb4⟩
        obtain ⟨hc4, hf4⟩ := bcell hb4
        have hs4 := hb4.size
        try simp only [World.size_alloc, World.size_setCell, World.size_drew, size_drewN] at hs4
        obtain ⟨z4_0, z4_1, z4_2, z4_3, z4_4, z4_5⟩ : w.heap.size < w4.heap.size ∧ w.heap.size + 1 < w4.heap.size ∧ w.heap.size + 1 + 1 < w4.heap.size ∧ w1.heap.size < w4.heap.size ∧ w2.heap.size < w4.heap.size ∧ w3.heap.size < w4.heap.size := (by (have hz_ := hb4.size; (try simp at hz_); omega))
        go_wp2_with fail
        refine (sub_c HS.out HB.out _).mono ?_
        rintro e w5 ⟨rfl, hb5⟩
        obtain ⟨hc5, hf5⟩ := bcell hb5
        have hs5 := hb5.size
        try simp only [World.size_alloc, World.size_setCell, World.size_drew, size_drewN] at hs5
        obtain ⟨z5_0, z5_1, z5_2, z5_3, z5_4, z5_5, z5_6⟩ : w.heap.size < w5.heap.size ∧ w.heap.size + 1 < w5.heap.size ∧ w.heap.size + 1 + 1 < w5.heap.size ∧ w1.heap.size < w5.heap.size ∧ w2.heap.size < w5.heap.size ∧ w3.heap.size < w5.heap.size ∧ w4.heap.size < w5.heap.size := (by (have hz_ := hb5.size; (try simp at hz_); omega))
        go_wp2_with fail
        refine (cmp_c HS.out HA.out _).mono ?_
        rintro e w6 ⟨rfl, hb6⟩
        obtain ⟨hc6, hf6⟩ := bcell hb6
        have hs6 := hb6.size
        try simp only [World.size_alloc, World.size_setCell, World.size_drew, size_drewN] at hs6
        obtain ⟨z6_0, z6_1, z6_2, z6_3, z6_4, z6_5, z6_6, z6_7⟩ : w.heap.size < w6.heap.size ∧ w.heap.size + 1 < w6.heap.size ∧ w.heap.size + 1 + 1 < w6.heap.size ∧ w1.heap.size < w6.heap.size ∧ w2.heap.size < w6.heap.size ∧ w3.heap.size < w6.heap.size ∧ w4.heap.size < w6.heap.size ∧ w5.heap.size < w6.heap.size := (by (have hz_ := hb6.size; (try simp at hz_); omega))
        go_wp2_with fail
        refine (mul_c HS.out HC.out _).mono ?_
        rintro e w7 ⟨rfl, hb7⟩
        obtain ⟨hc7, hf7⟩ := bcell hb7
        have hs7 := hb7.size
        try simp only [World.size_alloc, World.size_setCell, World.size_drew, size_drewN] at hs7
        obtain ⟨z7_0, z7_1, z7_2, z7_3, z7_4, z7_5, z7_6, z7_7⟩ : w.heap.size < w7.heap.size ∧ w.heap.size + 1 < w7.heap.size ∧ w.heap.size + 1 + 1 < w7.heap.size ∧ w1.heap.size < w7.heap.size ∧ w2.heap.size < w7.heap.size ∧ w3.heap.size < w7.heap.size ∧ w4.heap.size < w7.heap.size ∧ w5.heap.size < w7.heap.size := (by (have hz_ := hb7.size; (try simp at hz_); omega))
        go_wp2_with fail
        refine (mul_c HA.out HC.out _).mono ?_
        rintro e w8 ⟨rfl, hb8⟩
        obtain ⟨hc8, hf8⟩ := bcell hb8
        have hs8 := hb8.size
        try simp only [World.size_alloc, World.size_setCell, World.size_drew, size_drewN] at hs8
        obtain ⟨z8_0, z8_1, z8_2, z8_3, z8_4, z8_5, z8_6, z8_7, z8_8⟩ : w.heap.size < w8.heap.size ∧ w.heap.size + 1 < w8.heap.size ∧ w.heap.size + 1 + 1 < w8.heap.size ∧ w1.heap.size < w8.heap.size ∧ w2.heap.size < w8.heap.size ∧ w3.heap.size < w8.heap.size ∧ w4.heap.size < w8.heap.size ∧ w5.heap.size < w8.heap.size ∧ w7.heap.size < w8.heap.size := (by (have hz_ := hb8.size; (try simp at hz_); omega))
        go_wp2_with fail
        refine (mul_c HB.out HC.out _).mono ?_
        rintro e w9 ⟨rfl, hb9⟩
        obtain ⟨hc9, hf9⟩ := bcell hb9
        have hs9 := hb9.size
        try simp only [World.size_alloc, World.size_setCell, World.size_drew, size_drewN] at hs9
        obtain ⟨z9_0, z9_1, z9_2, z9_3, z9_4, z9_5, z9_6, z9_7, z9_8, z9_9⟩ : w.heap.size < w9.heap.size ∧ w.heap.size + 1 < w9.heap.size ∧ w.heap.size + 1 + 1 < w9.heap.size ∧ w1.heap.size < w9.heap.size ∧ w2.heap.size < w9.heap.size ∧ w3.heap.size < w9.heap.size ∧ w4.heap.size < w9.heap.size ∧ w5.heap.size < w9.heap.size ∧ w7.heap.size < w9.heap.size ∧ w8.heap.size < w9.heap.size := (by (have hz_ := hb9.size; (try simp at hz_); omega))
        go_wp2_with fail
        refine (awake1_c _).mono ?_
        rintro e w10 ⟨rfl, hb10⟩
        obtain ⟨hc10, hf10⟩ := bcell hb10
        have hs10 := hb10.size
        try simp only [World.size_alloc, World.size_setCell, World.size_drew, size_drewN] at hs10
        obtain ⟨z10_0, z10_1, z10_2, z10_3, z10_4, z10_5, z10_6, z10_7, z10_8, z10_9, z10_10⟩ : w.heap.size < w10.heap.size ∧ w.heap.size + 1 < w10.heap.size ∧ w.heap.size + 1 + 1 < w10.heap.size ∧ w1.heap.size < w10.heap.size ∧ w2.heap.size < w10.heap.size ∧ w3.heap.size < w10.heap.size ∧ w4.heap.size < w10.heap.size ∧ w5.heap.size < w10.heap.size ∧ w7.heap.size < w10.heap.size ∧ w8.heap.size < w10.heap.size ∧ w9.heap.size < w10.heap.size := (by (have hz_ := hb10.size; (try simp at hz_); omega))
        go_wp2
        go_ret
        exact ⟨rfl, (by (repeat' (first | (with_reducible exact Below.refl _ _) | (with_reducible assumption) | (with_reducible refine Below.alloc ?_ ?_ _) | (with_reducible refine Below.drew ?_) | (with_reducible refine below_drewN ?_ _) | (with_reducible refine Below.setCell ?_ ?_ _) | (with_reducible refine below_step (by with_reducible assumption) ?_ ?_) | (first | (with_reducible exact Nat.le_refl _) | (with_reducible assumption) | omega | (simp only [World.size_alloc, World.size_setCell, World.size_drew, size_drewN]; omega) | (simp; omega) | (simp; done)))))⟩
    · have e1 : (addE A B == 0) = false := by rw [addE, if_neg hS]; rfl
      have s0 : addV A B = 0 := by rw [addV, if_neg hS]
      clear hM hS HS
      go_enter Try.func6, Try.ntmps6
      go_wp2_with fail
      refine (add_c HA.out HB.out _).mono ?_
      rintro e w1 ⟨rfl, hb1⟩
      obtain ⟨hc1, hf1⟩ := bcell hb1
      have hs1 := hb1.size
      try simp only [World.size_alloc, World.size_setCell, World.size_drew, size_drewN] at hs1
      obtain ⟨z1_0, z1_1, z1_2⟩ : w.heap.size < w1.heap.size ∧ w.heap.size + 1 < w1.heap.size ∧ w.heap.size + 1 + 1 < w1.heap.size := (by (have hz_ := hb1.size; (try simp at hz_); omega))
      go_wp2_with fail
      refine (add_c HB.out HA.out _).mono ?_
      rintro e w2 ⟨rfl, hb2⟩
      obtain ⟨hc2, hf2⟩ := bcell hb2
      have hs2 := hb2.size
      try simp only [World.size_alloc, World.size_setCell, World.size_drew, size_drewN] at hs2
      obtain ⟨z2_0, z2_1, z2_2, z2_3⟩ : w.heap.size < w2.heap.size ∧ w.heap.size + 1 < w2.heap.size ∧ w.heap.size + 1 + 1 < w2.heap.size ∧ w1.heap.size < w2.heap.size := (by (have hz_ := hb2.size; (try simp at hz_); omega))
      go_wp2_with fail
      refine (mul_c HA.out HB.out _).mono ?_
      rintro e w3 ⟨rfl, hb3⟩
      obtain ⟨hc3, hf3⟩ := bcell hb3
      have hs3 := hb3.size
      try simp only [World.size_alloc, World.size_setCell, World.size_drew, size_drewN] at hs3
      obtain ⟨z3_0, z3_1, z3_2, z3_3, z3_4⟩ : w.heap.size < w3.heap.size ∧ w.heap.size + 1 < w3.heap.size ∧ w.heap.size + 1 + 1 < w3.heap.size ∧ w1.heap.size < w3.heap.size ∧ w2.heap.size < w3.heap.size := (by (have hz_ := hb3.size; (try simp at hz_); omega))
      go_wp2_with fail
      refine (mul_c HB.out HA.out _).mono ?_
      rintro e w4 ⟨rfl, hb4⟩
      obtain ⟨hc4, hf4⟩ := bcell hb4
      have hs4 := hb4.size
      try simp only [World.size_alloc, World.size_setCell, World.size_drew, size_drewN] at hs4
      obtain ⟨z4_0, z4_1, z4_2, z4_3, z4_4, z4_5⟩ : w.heap.size < w4.heap.size ∧ w.heap.size + 1 < w4.heap.size ∧ w.heap.size + 1 + 1 < w4.heap.size ∧ w1.heap.size < w4.heap.size ∧ w2.heap.size < w4.heap.size ∧ w3.heap.size < w4.heap.size := (by (have hz_ := hb4.size; (try simp at hz_); omega))
      go_wp2_with fail
      refine (awake1_c _).mono ?_
      rintro e w5 ⟨rfl, hb5⟩
      obtain ⟨hc5, hf5⟩ := bcell hb5
      have hs5 := hb5.size
      try simp only [World.size_alloc, World.size_setCell, World.size_drew, size_drewN] at hs5
      obtain ⟨z5_0, z5_1, z5_2, z5_3, z5_4, z5_5, z5_6⟩ : w.heap.size < w5.heap.size ∧ w.heap.size + 1 < w5.heap.size ∧ w.heap.size + 1 + 1 < w5.heap.size ∧ w1.heap.size < w5.heap.size ∧ w2.heap.size < w5.heap.size ∧ w3.heap.size < w5.heap.size ∧ w4.heap.size < w5.heap.size := (by (have hz_ := hb5.size; (try simp at hz_); omega))
      go_wp2
      go_ret
      exact ⟨rfl, (by (repeat' (first | (with_reducible exact Below.refl _ _) | (with_reducible assumption) | (with_reducible refine Below.alloc ?_ ?_ _) | (with_reducible refine Below.drew ?_) | (with_reducible refine below_drewN ?_ _) | (with_reducible refine Below.setCell ?_ ?_ _) | (with_reducible refine below_step (by with_reducible assumption) ?_ ?_) | (first | (with_reducible exact Nat.le_refl _) | (with_reducible assumption) | omega | (simp only [World.size_alloc, World.size_setCell, World.size_drew, size_drewN]; omega) | (simp; omega) | (simp; done)))))⟩
  · have g1 : (mulE A B == 0) = false := by rw [mulE, if_neg hM]; rfl
    have g2 : mulV A B = 0 := by rw [mulV, if_neg hM]
    by_cases hS : A + B < M256
    · have e1 : (addE A B == 0) = true := by rw [addE, if_pos hS]; rfl
      have s0 : addV A B = A + B := by rw [addV, if_pos hS]
      have s1 : subV (addV A B) B = A := by rw [s0, subV, if_neg (by omega)]; omega
      have s2 : (subE (addV A B) B != 0) = false := by rw [s0, subE, if_neg (by omega)]; rfl
      have s3 : decide (cmpV (addV A B) A < 0) = false := by rw [s0]; unfold cmpV; rw [if_neg (by omega)]; split <;> rfl
      by_cases hD : (A + B) * C < M256
      · have d1 : (mulE (addV A B) C == 0) = true := by rw [s0, mulE, if_pos hD]; rfl
        have hAC : A * C < M256 := Nat.lt_of_le_of_lt (Nat.mul_le_mul_right _ (by omega)) hD
        have hBC : B * C < M256 := Nat.lt_of_le_of_lt (Nat.mul_le_mul_right _ (by omega)) hD
        have hsum : A * C + B * C = (A + B) * C := (Nat.add_mul A B C).symm
        have d2 : (mulE A C != 0) = false := by rw [mulE, if_pos hAC]; rfl
        have d3 : (mulE B C != 0) = false := by rw [mulE, if_pos hBC]; rfl
        have d4 : (addE (mulV A C) (mulV B C) != 0) = false := by rw [mulV, mulV, if_pos hAC, if_pos hBC, addE, hsum, if_pos hD]; rfl
        have d5 : addV (mulV A C) (mulV B C) = mulV (addV A B) C := by rw [s0, mulV, mulV, mulV, if_pos hAC, if_pos hBC, if_pos hD, addV, hsum, if_pos hD]
        have HM1 := hide (isU_lim (mulV_lt A C))
        have HM2 := hide (isU_lim (mulV_lt B C))
        clear hM hS hD hAC hBC hsum s0
        go_enter Try.func6, Try.ntmps6
        go_wp2_with fail
        refine (add_c HA.out HB.out _).mono ?_
        rintro e w1 ⟨rfl, hb1⟩
        obtain ⟨hc1, hf1⟩ := bcell hb1
        have hs1 := hb1.size
        try simp only [World.size_alloc, World.size_setCell, World.size_drew, size_drewN] at hs1
        obtain ⟨z1_0, z1_1, z1_2⟩ : w.heap.size < w1.heap.size ∧ w.heap.size + 1 < w1.heap.size ∧ w.heap.size + 1 + 1 < w1.heap.size := (by (have hz_ := hb1.size; (try simp at hz_); omega))
        go_wp2_with fail
        refine (add_c HB.out HA.out _).mono ?_
        rintro e w2 ⟨rfl, hb2⟩
        obtain ⟨hc2, hf2⟩ := bcell hb2
        have hs2 := hb2.size
        try simp only [World.size_alloc, World.size_setCell, World.size_drew, size_drewN] at hs2
        obtain ⟨z2_0, z2_1, z2_2, z2_3⟩ : w.heap.size < w2.heap.size ∧ w.heap.size + 1 < w2.heap.size ∧ w.heap.size + 1 + 1 < w2.heap.size ∧ w1.heap.size < w2.heap.size := (by (have hz_ := hb2.size; (try simp at hz_); omega))
        go_wp2_with fail
        refine (mul_c HA.out HB.out _).mono ?_
        rintro e w3 ⟨rfl, hb3⟩
        obtain ⟨hc3, hf3⟩ := bcell hb3
        have hs3 := hb3.size
        try simp only [World.size_alloc, World.size_setCell, World.size_drew, size_drewN] at hs3
        obtain ⟨z3_0, z3_1, z3_2, z3_3, z3_4⟩ : w.heap.size < w3.heap.size ∧ w.heap.size + 1 < w3.heap.size ∧ w.heap.size + 1 + 1 < w3.heap.size ∧ w1.heap.size < w3.heap.size ∧ w2.heap.size < w3.heap.size := (by (have hz_ := hb3.size; (try simp at hz_); omega))
        go_wp2_with fail
        refine (mul_c HB.out HA.out _).mono ?_
        rintro e w4 ⟨rfl, hb4⟩
        obtain ⟨hc4, hf4⟩ := bcell hb4
        have hs4 := hb4.size
        try simp only [World.size_alloc, World.size_setCell, World.size_drew, size_drewN] at hs4
        obtain ⟨z4_0, z4_1, z4_2, z4_3, z4_4, z4_5⟩ : w.heap.size < w4.heap.size ∧ w.heap.size + 1 < w4.heap.size ∧ w.heap.size + 1 + 1 < w4.heap.size ∧ w1.heap.size < w4.heap.size ∧ w2.heap.size < w4.heap.size ∧ w3.heap.size < w4.heap.size := (by (have hz_ := hb4.size; (try simp at hz_); omega))
        go_wp2_with fail
        refine (sub_c HS.out HB.out _).mono ?_
        rintro e w5 ⟨rfl, hb5⟩
        obtain ⟨hc5, hf5⟩ := bcell hb5
        have hs5 := hb5.size
        try simp only [World.size_alloc, World.size_setCell, World.size_drew, size_drewN] at hs5
        obtain ⟨z5_0, z5_1, z5_2, z5_3, z5_4, z5_5, z5_6⟩ : w.heap.size < w5.heap.size ∧ w.heap.size + 1 < w5.heap.size ∧ w.heap.size + 1 + 1 < w5.heap.size ∧ w1.heap.size < w5.heap.size ∧ w2.heap.size < w5.heap.size ∧ w3.heap.size < w5.heap.size ∧ w4.heap.size < w5.heap.size := (by (have hz_ := hb5.size; (try simp at hz_); omega))
        go_wp2_with fail
        refine (cmp_c HS.out HA.out _).mono ?_
        rintro e w6 ⟨rfl, hb6⟩
        obtain ⟨hc6, hf6⟩ := bcell hb6
        have hs6 := hb6.size
        try simp only [World.size_alloc, World.size_setCell, World.size_drew, size_drewN] at hs6
        obtain ⟨z6_0, z6_1, z6_2, z6_3, z6_4, z6_5, z6_6, z6_7⟩ : w.heap.size < w6.heap.size ∧ w.heap.size + 1 < w6.heap.size ∧ w.heap.size + 1 + 1 < w6.heap.size ∧ w1.heap.size < w6.heap.size ∧ w2.heap.size < w6.heap.size ∧ w3.heap.size < w6.heap.size ∧ w4.heap.size < w6.heap.size ∧ w5.heap.size < w6.heap.size := (by (have hz_ := hb6.size; (try simp at hz_); omega))
        go_wp2_with fail
        refine (mul_c HS.out HC.out _).mono ?_
        rintro e w7 ⟨rfl, hb7⟩
        obtain ⟨hc7, hf7⟩ := bcell hb7
        have hs7 := hb7.size
        try simp only [World.size_alloc, World.size_setCell, World.size_drew, size_drewN] at hs7
        obtain ⟨z7_0, z7_1, z7_2, z7_3, z7_4, z7_5, z7_6, z7_7⟩ : w.heap.size < w7.heap.size ∧ w.heap.size + 1 < w7.heap.size ∧ w.heap.size + 1 + 1 < w7.heap.size ∧ w1.heap.size < w7.heap.size ∧ w2.heap.size < w7.heap.size ∧ w3.heap.size < w7.heap.size ∧ w4.heap.size < w7.heap.size ∧ w5.heap.size < w7.heap.size := (by (have hz_ := hb7.size; (try simp at hz_); omega))
        go_wp2_with fail
        refine (mul_c HA.out HC.out _).mono ?_
        rintro e w8 ⟨rfl, hb8⟩
        obtain ⟨hc8, hf8⟩ := bcell hb8
        have hs8 := hb8.size
        try simp only [World.size_alloc, World.size_setCell, World.size_drew, size_drewN] at hs8
        obtain ⟨z8_0, z8_1, z8_2, z8_3, z8_4, z8_5, z8_6, z8_7, z8_8⟩ : w.heap.size < w8.heap.size ∧ w.heap.size + 1 < w8.heap.size ∧ w.heap.size + 1 + 1 < w8.heap.size ∧ w1.heap.size < w8.heap.size ∧ w2.heap.size < w8.heap.size ∧ w3.heap.size < w8.heap.size ∧ w4.heap.size < w8.heap.size ∧ w5.heap.size < w8.heap.size ∧ w7.heap.size < w8.heap.size := (by (have hz_ := hb8.size; (try simp at hz_); omega))
        go_wp2_with fail
        refine (mul_c HB.out HC.out _).mono ?_
        rintro e w9 ⟨rfl, hb9⟩
        obtain ⟨hc9, hf9⟩ := bcell hb9
        have hs9 := hb9.size
        try simp only [World.size_alloc, World.size_setCell, World.size_drew, size_drewN] at hs9
        obtain ⟨z9_0, z9_1, z9_2, z9_3, z9_4, z9_5, z9_6, z9_7, z9_8, z9_9⟩ : w.heap.size < w9.heap.size ∧ w.heap.size + 1 < w9.heap.size ∧ w.heap.size + 1 + 1 < w9.heap.size ∧ w1.heap.size < w9.heap.size ∧ w2.heap.size < w9.heap.size ∧ w3.heap.size < w9.heap.size ∧ w4.heap.size < w9.heap.size ∧ w5.heap.size < w9.heap.size ∧ w7.heap.size < w9.heap.size ∧ w8.heap.size < w9.heap.size := (by (have hz_ := hb9.size; (try simp at hz_); omega))
        go_wp2_with fail
        refine (add_c HM1.out HM2.out _).mono ?_
        rintro e w10 ⟨rfl, hb10⟩
        obtain ⟨hc10, hf10⟩ := bcell hb10
        have hs10 := hb10.size
        try simp only [World.size_alloc, World.size_setCell, World.size_drew, size_drewN] at hs10
        obtain ⟨z10_0, z10_1, z10_2, z10_3, z10_4, z10_5, z10_6, z10_7, z10_8, z10_9, z10_10⟩ : w.heap.size < w10.heap.size ∧ w.heap.size + 1 < w10.heap.size ∧ w.heap.size + 1 + 1 < w10.heap.size ∧ w1.heap.size < w10.heap.size ∧ w2.heap.size < w10.heap.size ∧ w3.heap.size < w10.heap.size ∧ w4.heap.size < w10.heap.size ∧ w5.heap.size < w10.heap.size ∧ w7.heap.size < w10.heap.size ∧ w8.heap.size < w10.heap.size ∧ w9.heap.size < w10.heap.size := (by (have hz_ := hb10.size; (try simp at hz_); omega))
        go_wp2_with fail
        refine (awake1_c _).mono ?_
        rintro e w11 ⟨rfl, hb11⟩
        obtain ⟨hc11, hf11⟩ := bcell hb11
        have hs11 := hb11.size
        try simp only [World.size_alloc, World.size_setCell, World.size_drew, size_drewN] at hs11
        obtain ⟨z11_0, z11_1, z11_2, z11_3, z11_4, z11_5, z11_6, z11_7, z11_8, z11_9, z11_10, z11_11⟩ : w.heap.size < w11.heap.size ∧ w.heap.size + 1 < w11.heap.size ∧ w.heap.size + 1 + 1 < w11.heap.size ∧ w1.heap.size < w11.heap.size ∧ w2.heap.size < w11.heap.size ∧ w3.heap.size < w11.heap.size ∧ w4.heap.size < w11.heap.size ∧ w5.heap.size < w11.heap.size ∧ w7.heap.size < w11.heap.size ∧ w8.heap.size < w11.heap.size ∧ w9.heap.size < w11.heap.size ∧ w10.heap.size < w11.heap.size := (by (have hz_ := hb11.size; (try simp at hz_); omega))
        go_wp2
        go_ret
        exact ⟨rfl, (by (repeat' (first | (with_reducible exact Below.refl _ _) | (with_reducible assumption) | (with_reducible refine Below.alloc ?_ ?_ _) | (with_reducible refine Below.drew ?_) | (with_reducible refine below_drewN ?_ _) | (with_reducible refine Below.setCell ?_ ?_ _) | (with_reducible refine below_step (by with_reducible assumption) ?_ ?_) | (first | (with_reducible exact Nat.le_refl _) | (with_reducible assumption) | omega | (simp only [World.size_alloc, World.size_setCell, World.size_drew, size_drewN]; omega) | (simp; omega) | (simp; done)))))⟩
      · have d1 : (mulE (addV A B) C == 0) = false := by rw [s0, mulE, if_neg hD]; rfl
        clear hM hS hD s0
        go_enter Try.func6, Try.ntmps6
        go_wp2_with fail
        refine (add_c HA.out HB.out _).mono ?_
        rintro e w1 ⟨rfl, hb1⟩
        obtain ⟨hc1, hf1⟩ := bcell hb1
        have hs1 := hb1.size
        try simp only [World.size_alloc, World.size_setCell, World.size_drew, size_drewN] at hs1
        obtain ⟨z1_0, z1_1, z1_2⟩ : w.heap.size < w1.heap.size ∧ w.heap.size + 1 < w1.heap.size ∧ w.heap.size + 1 + 1 < w1.heap.size := (by (have hz_ := hb1.size; (try simp at hz_); omega))
        go_wp2_with fail
        refine (add_c HB.out HA.out _).mono ?_
        rintro e w2 ⟨rfl, hb2⟩
        obtain ⟨hc2, hf2⟩ := bcell hb2
        have hs2 := hb2.size
        try simp only [World.size_alloc, World.size_setCell, World.size_drew, size_drewN] at hs2
        obtain ⟨z2_0, z2_1, z2_2, z2_3⟩ : w.heap.size < w2.heap.size ∧ w.heap.size + 1 < w2.heap.size ∧ w.heap.size + 1 + 1 < w2.heap.size ∧ w1.heap.size < w2.heap.size := (by (have hz_ := hb2.size; (try simp at hz_); omega))
        go_wp2_with fail
        refine (mul_c HA.out HB.out _).mono ?_
        rintro e w3 ⟨rfl, hb3⟩
        obtain ⟨hc3, hf3⟩ := bcell hb3
        have hs3 := hb3.size
        try simp only [World.size_alloc, World.size_setCell, World.size_drew, size_drewN] at hs3
        obtain ⟨z3_0, z3_1, z3_2, z3_3, z3_4⟩ : w.heap.size < w3.heap.size ∧ w.heap.size + 1 < w3.heap.size ∧ w.heap.size + 1 + 1 < w3.heap.size ∧ w1.heap.size < w3.heap.size ∧ w2.heap.size < w3.heap.size := (by (have hz_ := hb3.size; (try simp at hz_); omega))
        go_wp2_with fail
        refine (mul_c HB.out HA.out _).mono ?_
        rintro e w4 ⟨rfl, hb4⟩
        obtain ⟨hc4, hf4⟩ := bcell hb4
        have hs4 := hb4.size
        try simp only [World.size_alloc, World.size_setCell, World.size_drew, size_drewN] at hs4
        obtain ⟨z4_0, z4_1, z4_2, z4_3, z4_4, z4_5⟩ : w.heap.size < w4.heap.size ∧ w.heap.size + 1 < w4.heap.size ∧ w.heap.size + 1 + 1 < w4.heap.size ∧ w1.heap.size < w4.heap.size ∧ w2.heap.size < w4.heap.size ∧ w3.heap.size < w4.heap.size := (by (have hz_ := hb4.size; (try simp at hz_); omega))
        go_wp2_with fail
        refine (sub_c HS.out HB.out _).mono ?_
        rintro e w5 ⟨rfl, hb5⟩
        obtain ⟨hc5, hf5⟩ := bcell hb5
        have hs5 := hb5.size
        try simp only [World.size_alloc, World.size_setCell, World.size_drew, size_drewN] at hs5
        obtain ⟨z5_0, z5_1, z5_2, z5_3, z5_4, z5_5, z5_6⟩ : w.heap.size < w5.heap.size ∧ w.heap.size + 1 < w5.heap.size ∧ w.heap.size + 1 + 1 < w5.heap.size ∧ w1.heap.size < w5.heap.size ∧ w2.heap.size < w5.heap.size ∧ w3.heap.size < w5.heap.size ∧ w4.heap.size < w5.heap.size := (by (have hz_ := hb5.size; (try simp at hz_); omega))
        go_wp2_with fail
        refine (cmp_c HS.out HA.out _).mono ?_
        rintro e w6 ⟨rfl, hb6⟩
        obtain ⟨hc6, hf6⟩ := bcell hb6
        have hs6 := hb6.size
        try simp only [World.size_alloc, World.size_setCell, World.size_drew, size_drewN] at hs6
        obtain ⟨z6_0, z6_1, z6_2, z6_3, z6_4, z6_5, z6_6, z6_7⟩ : w.heap.size < w6.heap.size ∧ w.heap.size + 1 < w6.heap.size ∧ w.heap.size + 1 + 1 < w6.heap.size ∧ w1.heap.size < w6.heap.size ∧ w2.heap.size < w6.heap.size ∧ w3.heap.size < w6.heap.size ∧ w4.heap.size < w6.heap.size ∧ w5.heap.size < w6.heap.size := (by (have hz_ := hb6.size; (try simp at hz_); omega))
        go_wp2_with fail
        refine (mul_c HS.out HC.out _).mono ?_
        rintro e w7 ⟨rfl, hb7⟩
        obtain ⟨hc7, hf7⟩ := bcell hb7
        have hs7 := hb7.size
        try simp only [World.size_alloc, World.size_setCell, World.size_drew, size_drewN] at hs7
        obtain ⟨z7_0, z7_1, z7_2, z7_3, z7_4, z7_5, z7_6, z7_7⟩ : w.heap.size < w7.heap.size ∧ w.heap.size + 1 < w7.heap.size ∧ w.heap.size + 1 + 1 < w7.heap.size ∧ w1.heap.size < w7.heap.size ∧ w2.heap.size < w7.heap.size ∧ w3.heap.size < w7.heap.size ∧ w4.heap.size < w7.heap.size ∧ w5.heap.size < w7.heap.size := (by (have hz_ := hb7.size; (try simp at hz_); omega))
        go_wp2_with fail
        refine (mul_c HA.out HC.out _).mono ?_
        rintro e w8 ⟨rfl, hb8⟩
        obtain ⟨hc8, hf8⟩ := bcell hb8
        have hs8 := hb8.size
        try simp only [World.size_alloc, World.size_setCell, World.size_drew, size_drewN] at hs8
        obtain ⟨z8_0, z8_1, z8_2, z8_3, z8_4, z8_5, z8_6, z8_7, z8_8⟩ : w.heap.size < w8.heap.size ∧ w.heap.size + 1 < w8.heap.size ∧ w.heap.size + 1 + 1 < w8.heap.size ∧ w1.heap.size < w8.heap.size ∧ w2.heap.size < w8.heap.size ∧ w3.heap.size < w8.heap.size ∧ w4.heap.size < w8.heap.size ∧ w5.heap.size < w8.heap.size ∧ w7.heap.size < w8.heap.size := (by (have hz_ := hb8.size; (try simp at hz_); omega))
        go_wp2_with fail
        refine (mul_c HB.out HC.out _).mono ?_
        rintro e w9 ⟨rfl, hb9⟩
        obtain ⟨hc9, hf9⟩ := bcell hb9
        have hs9 := hb9.size
        try simp only [World.size_alloc, World.size_setCell, World.size_drew, size_drewN] at hs9
        obtain ⟨z9_0, z9_1, z9_2, z9_3, z9_4, z9_5, z9_6, z9_7, z9_8, z9_9⟩ : w.heap.size < w9.heap.size ∧ w.heap.size + 1 < w9.heap.size ∧ w.heap.size + 1 + 1 < w9.heap.size ∧ w1.heap.size < w9.heap.size ∧ w2.heap.size < w9.heap.size ∧ w3.heap.size < w9.heap.size ∧ w4.heap.size < w9.heap.size ∧ w5.heap.size < w9.heap.size ∧ w7.heap.size < w9.heap.size ∧ w8.heap.size < w9.heap.size := (by (have hz_ := hb9.size; (try simp at hz_); omega))
        go_wp2_with fail
        refine (awake1_c _).mono ?_
        rintro e w10 ⟨rfl, hb10⟩
        obtain ⟨hc10, hf10⟩ := bcell hb10
        have hs10 := hb10.size
        try simp only [World.size_alloc, World.size_setCell, World.size_drew, size_drewN] at hs10
        obtain ⟨z10_0, z10_1, z10_2, z10_3, z10_4, z10_5, z10_6, z10_7, z10_8, z10_9, z10_10⟩ : w.heap.size < w10.heap.size ∧ w.heap.size + 1 < w10.heap.size ∧ w.heap.size + 1 + 1 < w10.heap.size ∧ w1.heap.size < w10.heap.size ∧ w2.heap.size < w10.heap.size ∧ w3.heap.size < w10.heap.size ∧ w4.heap.size < w10.heap.size ∧ w5.heap.size < w10.heap.size ∧ w7.heap.size < w10.heap.size ∧ w8.heap.size < w10.heap.size ∧ w9.heap.size < w10.heap.size := (by (have hz_ := hb10.size; (try simp at hz_); omega))
        go_wp2
        go_ret
        exact ⟨rfl, (by (repeat' (first | (with_reducible exact Below.refl _ _) | (with_reducible assumption) | (with_reducible refine Below.alloc ?_ ?_ _) | (with_reducible refine Below.drew ?_) | (with_reducible refine below_drewN ?_ _) | (with_reducible refine Below.setCell ?_ ?_ _) | (with_reducible refine below_step (by with_reducible assumption) ?_ ?_) | (first | (with_reducible exact Nat.le_refl _) | (with_reducible assumption) | omega | (simp only [World.size_alloc, World.size_setCell, World.size_drew, size_drewN]; omega) | (simp; omega) | (simp; done)))))⟩
    · have e1 : (addE A B == 0) = false := by rw [addE, if_neg hS]; rfl
      have s0 : addV A B = 0 := by rw [addV, if_neg hS]
      clear hM hS HS
      go_enter Try.func6, Try.ntmps6
      go_wp2_with fail
      refine (add_c HA.out HB.out _).mono ?_
      rintro e w1 ⟨rfl, hb1⟩
      obtain ⟨hc1, hf1⟩ := bcell hb1
      have hs1 := hb1.size
      try simp only [World.size_alloc, World.size_setCell, World.size_drew, size_drewN] at hs1
      obtain ⟨z1_0, z1_1, z1_2⟩ : w.heap.size < w1.heap.size ∧ w.heap.size + 1 < w1.heap.size ∧ w.heap.size + 1 + 1 < w1.heap.size := (by (have hz_ := hb1.size; (try simp at hz_); omega))
      go_wp2_with fail
      refine (add_c HB.out HA.out _).mono ?_
      rintro e w2 ⟨rfl, hb2⟩
      obtain ⟨hc2, hf2⟩ := bcell hb2
      have hs2 := hb2.size
      try simp only [World.size_alloc, World.size_setCell, World.size_drew, size_drewN] at hs2
      obtain ⟨z2_0, z2_1, z2_2, z2_3⟩ : w.heap.size < w2.heap.size ∧ w.heap.size + 1 < w2.heap.size ∧ w.heap.size + 1 + 1 < w2.heap.size ∧ w1.heap.size < w2.heap.size := (by (have hz_ := hb2.size; (try simp at hz_); omega))
      go_wp2_with fail
      refine (mul_c HA.out HB.out _).mono ?_
      rintro e w3 ⟨rfl, hb3⟩
      obtain ⟨hc3, hf3⟩ := bcell hb3
      have hs3 := hb3.size
      try simp only [World.size_alloc, World.size_setCell, World.size_drew, size_drewN] at hs3
      obtain ⟨z3_0, z3_1, z3_2, z3_3, z3_4⟩ : w.heap.size < w3.heap.size ∧ w.heap.size + 1 < w3.heap.size ∧ w.heap.size + 1 + 1 < w3.heap.size ∧ w1.heap.size < w3.heap.size ∧ w2.heap.size < w3.heap.size := (by (have hz_ := hb3.size; (try simp at hz_); omega))
      go_wp2_with fail
      refine (mul_c HB.out HA.out _).mono ?_
      rintro e w4 ⟨rfl, hb4⟩
      obtain ⟨hc4, hf4⟩ := bcell hb4
      have hs4 := hb4.size
      try simp only [World.size_alloc, World.size_setCell, World.size_drew, size_drewN] at hs4
      obtain ⟨z4_0, z4_1, z4_2, z4_3, z4_4, z4_5⟩ : w.heap.size < w4.heap.size ∧ w.heap.size + 1 < w4.heap.size ∧ w.heap.size + 1 + 1 < w4.heap.size ∧ w1.heap.size < w4.heap.size ∧ w2.heap.size < w4.heap.size ∧ w3.heap.size < w4.heap.size := (by (have hz_ := hb4.size; (try simp at hz_); omega))
      go_wp2_with fail
      refine (awake1_c _).mono ?_
      rintro e w5 ⟨rfl, hb5⟩
      obtain ⟨hc5, hf5⟩ := bcell hb5
      have hs5 := hb5.size
      try simp only [World.size_alloc, World.size_setCell, World.size_drew, size_drewN] at hs5
      obtain ⟨z5_0, z5_1, z5_2, z5_3, z5_4, z5_5, z5_6⟩ : w.heap.size < w5.heap.size ∧ w.heap.size + 1 < w5.heap.size ∧ w.heap.size + 1 + 1 < w5.heap.size ∧ w1.heap.size < w5.heap.size ∧ w2.heap.size < w5.heap.size ∧ w3.heap.size < w5.heap.size ∧ w4.heap.size < w5.heap.size := (by (have hz_ := hb5.size; (try simp at hz_); omega))
      go_wp2
      go_ret
      exact ⟨rfl, (by (repeat' (first | (with_reducible exact Below.refl _ _) | (with_reducible assumption) | (with_reducible refine Below.alloc ?_ ?_ _) | (with_reducible refine Below.drew ?_) | (with_reducible refine below_drewN ?_ _) | (with_reducible refine Below.setCell ?_ ?_ _) | (with_reducible refine below_step (by with_reducible assumption) ?_ ?_) | (first | (with_reducible exact Nat.le_refl _) | (with_reducible assumption) | omega | (simp only [World.size_alloc, World.size_setCell, World.size_drew, size_drewN]; omega) | (simp; omega) | (simp; done)))))⟩
end Go.Proofs.Ytphnmolndhnnpaa
