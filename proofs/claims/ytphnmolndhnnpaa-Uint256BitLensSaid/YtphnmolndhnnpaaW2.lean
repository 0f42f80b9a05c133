/- Uint256BitLens, walked. -/
import Derived.WalkKit
import Derived.KernelRfl
import Derived.RowKit3
import Derived.Deep.LoopGhost
import Derived.Deep.QuietTactic
import Derived.BigQuiet
import Derived.WideLaws
import Derived.Laws.Rows
import Derived.Below
import Derived.Deep.Draws
import Derived.Outline
import Derived.LoopN
import Derived.Handy
import Derived.Laws.Externs
import Derived.Laws.BitsAllLaws
import Derived.Laws.BitsLemmas
import Derived.Deep.DeepCutAuto
import Derived.Deep.CutBlock
import Derived.Deep.RegionHeld3
import Derived.Deep.RegionHeld3
import Derived.Test.YtphnmolndhnnpaaW1
namespace Go.Proofs.Ytphnmolndhnnpaa
open Go.RowKit
set_option linter.unusedVariables false
set_option linter.unusedSimpArgs false
/-- Digits of a sum. -/
theorem bl_add (A B : Nat) : max (blN A) (blN B) ≤ blN (A + B) ∧ blN (A + B) ≤ max (blN A) (blN B) + 1 := by
  have h1 := @blN_lt A
  have h2 := @blN_lt B
  have hm : ∀ X Y : Nat, X ≤ Y → blN X ≤ blN Y := by
    intro X Y h
    by_cases hX : X = 0
    · subst hX; exact Nat.zero_le _
    · have a := (blN_spec hX).1
      have b := @blN_lt Y
      have : 2 ^ (blN X - 1) < 2 ^ blN Y := by omega
      have := (Nat.pow_lt_pow_iff_right (by omega)).1 this
      omega
  refine ⟨Nat.max_le.2 ⟨hm _ _ (by omega), hm _ _ (by omega)⟩, blN_le ?_⟩
  have p1 : 2 ^ blN A ≤ 2 ^ max (blN A) (blN B) := Nat.pow_le_pow_right (by omega) (by omega)
  have p2 : 2 ^ blN B ≤ 2 ^ max (blN A) (blN B) := Nat.pow_le_pow_right (by omega) (by omega)
  rw [Nat.pow_succ]
  omega
/-- Digits of a product. -/
theorem bl_mul {A B : Nat} (hA : A ≠ 0) (hB : B ≠ 0) : blN (A * B) = blN A + blN B ∨ blN (A * B) = blN A + blN B - 1 := by
  obtain ⟨a1, a2⟩ := blN_spec hA
  obtain ⟨b1, b2⟩ := blN_spec hB
  have pa := blN_pos hA
  have pb := blN_pos hB
  have hAB : A * B ≠ 0 := Nat.mul_ne_zero hA hB
  obtain ⟨c1, c2⟩ := blN_spec hAB
  have lo : 2 ^ (blN A - 1 + (blN B - 1)) ≤ A * B := by rw [Nat.pow_add]; exact Nat.mul_le_mul a1 b1
  have hi : A * B < 2 ^ (blN A + blN B) := by
    rw [Nat.pow_add]
    exact Nat.lt_of_lt_of_le (Nat.mul_lt_mul_of_lt_of_le a2 (Nat.le_of_lt b2) (by omega)) (Nat.le_refl _)
  have k1 : 2 ^ (blN (A * B) - 1) < 2 ^ (blN A + blN B) := by omega
  have k2 : 2 ^ (blN A - 1 + (blN B - 1)) < 2 ^ blN (A * B) := by omega
  have k1 := (Nat.pow_lt_pow_iff_right (by omega)).1 k1
  have k2 := (Nat.pow_lt_pow_iff_right (by omega)).1 k2
  have := blN_pos hAB
  omega
theorem m256_pow : M256 = 2 ^ 256 := by decide +kernel
theorem bl_over_add {A B : Nat} (hA : A < M256) (hB : B < M256) (h : M256 ≤ A + B) : max (blN A) (blN B) = 256 := by
  have a := blN_le (A := A) (k := 256) (by rw [← m256_pow]; exact hA)
  have b := blN_le (A := B) (k := 256) (by rw [← m256_pow]; exact hB)
  have h1 := @blN_lt A
  have h2 := @blN_lt B
  refine Nat.le_antisymm (Nat.max_le.2 ⟨a, b⟩) ?_
  rcases Nat.lt_or_ge (max (blN A) (blN B)) 256 with hm | hm
  · have p1 : 2 ^ blN A ≤ 2 ^ 255 := Nat.pow_le_pow_right (by omega) (by omega)
    have p2 : 2 ^ blN B ≤ 2 ^ 255 := Nat.pow_le_pow_right (by omega) (by omega)
    rw [m256_pow] at h
    omega
  · exact hm
theorem bl_over_mul {A B : Nat} (h : M256 ≤ A * B) : 256 < blN A + blN B := by
  have h1 := @blN_lt A
  have h2 := @blN_lt B
  rcases Nat.lt_or_ge 256 (blN A + blN B) with hm | hm
  · exact hm
  · have : A * B < 2 ^ 256 := by
      calc A * B ≤ A * 2 ^ blN B := Nat.mul_le_mul_left _ (by omega)
        _ < 2 ^ blN A * 2 ^ blN B := Nat.mul_lt_mul_of_pos_right h1 (Nat.two_pow_pos _)
        _ = 2 ^ (blN A + blN B) := (Nat.pow_add _ _ _).symm
        _ ≤ 2 ^ 256 := Nat.pow_le_pow_right (by omega) hm
    rw [m256_pow] at h
    omega
theorem blI_256 {A : Nat} (h : A < M256) : 0 ≤ blI A ∧ blI A ≤ 256 := by
  have := blN_le (A := A) (k := 256) (by rw [← m256_pow]; exact h)
  unfold blI; omega
theorem sum_tests {A B : Nat} (hA : A < M256) (hB : B < M256) : ((addE A B == 0) = true ∧ decide (blI (addV A B) < max (blI A) (blI B)) = false ∧ decide (max (blI A) (blI B) + 1 < blI (addV A B)) = false) ∨ ((addE A B == 0) = false ∧ (max (blI A) (blI B) == 256) = true) := by
  by_cases h : A + B < M256
  · left
    obtain ⟨h1, h2⟩ := bl_add A B
    rw [addE, if_pos h, addV, if_pos h]
    unfold blI
    refine ⟨rfl, decide_eq_false (by omega), decide_eq_false (by omega)⟩
  · right
    have := bl_over_add hA hB (by omega)
    rw [addE, if_neg h]
    unfold blI
    refine ⟨rfl, beq_iff_eq.2 (by omega)⟩
theorem mul_tests (A B : Nat) : ((mulE A B == 0) = true ∧ decide (0 < blI A) = false) ∨ ((mulE A B == 0) = true ∧ decide (0 < blI A) = true ∧ decide (0 < blI B) = false) ∨ ((mulE A B == 0) = true ∧ decide (0 < blI A) = true ∧ decide (0 < blI B) = true ∧ (blI (mulV A B) != blI A + blI B) = false) ∨
    ((mulE A B == 0) = true ∧ decide (0 < blI A) = true ∧ decide (0 < blI B) = true ∧ (blI (mulV A B) != blI A + blI B) = true ∧ (blI (mulV A B) != blI A + blI B - 1) = false) ∨ ((mulE A B == 0) = false ∧ decide (256 < blI A + blI B) = true) := by
  by_cases h : A * B < M256
  · rw [mulE, if_pos h, mulV, if_pos h]
    by_cases hA : A = 0
    · exact .inl ⟨rfl, decide_eq_false (by subst hA; decide)⟩
    · by_cases hB : B = 0
      · exact .inr (.inl ⟨rfl, decide_eq_true (by have := blN_pos hA; unfold blI; omega), decide_eq_false (by subst hB; decide)⟩)
      · have p := blN_pos hA
        have q := blN_pos hB
        have a : decide (0 < blI A) = true := decide_eq_true (by unfold blI; omega)
        have b : decide (0 < blI B) = true := decide_eq_true (by unfold blI; omega)
        by_cases e : blN (A * B) = blN A + blN B
        · exact .inr (.inr (.inl ⟨rfl, a, b, by rw [bne_eq_false_iff_eq]; unfold blI; omega⟩))
        · have := bl_mul hA hB
          exact .inr (.inr (.inr (.inl ⟨rfl, a, b, by rw [bne_iff_ne]; unfold blI; omega, by rw [bne_eq_false_iff_eq]; unfold blI; omega⟩)))
  · have := bl_over_mul (A := A) (B := B) (by omega)
    rw [mulE, if_neg h]
    exact .inr (.inr (.inr (.inr ⟨rfl, decide_eq_true (by unfold blI; omega)⟩)))
set_option maxHeartbeats 16000000 in
theorem Uint256BitLens_walk (a0 a1 a2 a3 b0 b1 b2 b3 : Int) (wa0 : (Lit.int .u64 a0).wf = true) (wa1 : (Lit.int .u64 a1).wf = true) (wa2 : (Lit.int .u64 a2).wf = true) (wa3 : (Lit.int .u64 a3).wf = true) (wb0 : (Lit.int .u64 b0).wf = true) (wb1 : (Lit.int .u64 b1).wf = true) (wb2 : (Lit.int .u64 b2).wf = true) (wb3 : (Lit.int .u64 b3).wf = true) (w : World) :
    Calls Try.prog 7 #[.agg #[.int .u64 a0, .int .u64 a1, .int .u64 a2, .int .u64 a3], .agg #[.int .u64 b0, .int .u64 b1, .int .u64 b2, .int .u64 b3]] w fun e w' => e = .returned (.bool true) ∧ Below w.heap.size w w' := by
  obtain ⟨A, hA, rfl, rfl, rfl, rfl⟩ := isU_wf wa0 wa1 wa2 wa3
  obtain ⟨B, hB, rfl, rfl, rfl, rfl⟩ := isU_wf wb0 wb1 wb2 wb3
  clear wa0 wa1 wa2 wa3 wb0 wb1 wb2 wb3
  have HA := hide (isU_lim hA)
  have HB := hide (isU_lim hB)
  have CA := hide (bitlen_c HA.out)
  have CB := hide (bitlen_c HB.out)
  have CS := hide (bitlen_c (isU_lim (addV_lt A B)))
  have CM := hide (bitlen_c (isU_lim (mulV_lt A B)))
  obtain ⟨n1, n2⟩ := blI_256 hA
  obtain ⟨n3, n4⟩ := blI_256 hB
  have TS := sum_tests hA hB
  have TM := mul_tests A B
  clear hA hB
  rcases TS with ⟨t1, t2, t3⟩ | ⟨t1, t2⟩ <;> rcases TM with ⟨t4, t5⟩ | ⟨t4, t5, t6⟩ | ⟨t4, t5, t6, t7⟩ | ⟨t4, t5, t6, t7, t8⟩ | ⟨t4, t5⟩
  all_goals
    go_enter Try.func7, Try.ntmps7
    go_wp2_with fail
    have q1 : w.heap.size < w.heap.size + 1 + 1 := by omega
    go_region_held3 (fun w' => w'.cell? ⟨w.heap.size, 0, none⟩ = some (.int .u64 (lim A 0)) ∧ w'.cell? ⟨w.heap.size, 1, none⟩ = some (.int .u64 (lim A 1)) ∧ w'.cell? ⟨w.heap.size, 2, none⟩ = some (.int .u64 (lim A 2)) ∧ w'.cell? ⟨w.heap.size, 3, none⟩ = some (.int .u64 (lim A 3)) ∧
      w'.cell? ⟨w.heap.size + 1, 0, none⟩ = some (.int .u64 (lim B 0)) ∧ w'.cell? ⟨w.heap.size + 1, 1, none⟩ = some (.int .u64 (lim B 1)) ∧ w'.cell? ⟨w.heap.size + 1, 2, none⟩ = some (.int .u64 (lim B 2)) ∧ w'.cell? ⟨w.heap.size + 1, 3, none⟩ = some (.int .u64 (lim B 3))) (go_keep)
      (first | (go_at_call 18; (with_reducible refine (CA.out _).mono ?_); rintro e w1 ⟨rfl, hb1⟩; (have hs1 := hb1.size); (try simp only [World.size_alloc, World.size_setCell, World.size_drew, size_drewN] at hs1); (have hc1_0 : ∀ o, w1.cell? ⟨w.heap.size, o, none⟩ = _ := fun o => hb1.cell (p := ⟨w.heap.size, o, none⟩) (by ((try simp only [World.size_alloc, World.size_setCell, World.size_drew, size_drewN]); omega))); (have hf1_0 : ∀ o, w1.frozen? ⟨w.heap.size, o, none⟩ = _ := fun o => hb1.frozen (p := ⟨w.heap.size, o, none⟩) (by ((try simp only [World.size_alloc, World.size_setCell, World.size_drew, size_drewN]); omega))); (have z1_0 : w.heap.size < w1.heap.size := (by omega)); (have hc1_1 : ∀ o, w1.cell? ⟨w.heap.size + 1, o, none⟩ = _ := fun o => hb1.cell (p := ⟨w.heap.size + 1, o, none⟩) (by ((try simp only [World.size_alloc, World.size_setCell, World.size_drew, size_drewN]); omega))); (have hf1_1 : ∀ o, w1.frozen? ⟨w.heap.size + 1, o, none⟩ = _ := fun o => hb1.frozen (p := ⟨w.heap.size + 1, o, none⟩) (by ((try simp only [World.size_alloc, World.size_setCell, World.size_drew, size_drewN]); omega))); (have z1_1 : w.heap.size + 1 < w1.heap.size := (by omega))) | (go_at_call 18; (with_reducible refine (CB.out _).mono ?_); rintro e w2 ⟨rfl, hb2⟩; (have hs2 := hb2.size); (try simp only [World.size_alloc, World.size_setCell, World.size_drew, size_drewN] at hs2); (have hc2_0 : ∀ o, w2.cell? ⟨w.heap.size, o, none⟩ = _ := fun o => hb2.cell (p := ⟨w.heap.size, o, none⟩) (by ((try simp only [World.size_alloc, World.size_setCell, World.size_drew, size_drewN]); omega))); (have hf2_0 : ∀ o, w2.frozen? ⟨w.heap.size, o, none⟩ = _ := fun o => hb2.frozen (p := ⟨w.heap.size, o, none⟩) (by ((try simp only [World.size_alloc, World.size_setCell, World.size_drew, size_drewN]); omega))); (have z2_0 : w.heap.size < w2.heap.size := (by omega)); (have hc2_1 : ∀ o, w2.cell? ⟨w.heap.size + 1, o, none⟩ = _ := fun o => hb2.cell (p := ⟨w.heap.size + 1, o, none⟩) (by ((try simp only [World.size_alloc, World.size_setCell, World.size_drew, size_drewN]); omega))); (have hf2_1 : ∀ o, w2.frozen? ⟨w.heap.size + 1, o, none⟩ = _ := fun o => hb2.frozen (p := ⟨w.heap.size + 1, o, none⟩) (by ((try simp only [World.size_alloc, World.size_setCell, World.size_drew, size_drewN]); omega))); (have z2_1 : w.heap.size + 1 < w2.heap.size := (by omega))))
    go_wp2_with fail
    refine (add_c HA.out HB.out _).mono ?_
    rintro e w3 ⟨rfl, hb3⟩
    have hs3 := hb3.size
    try simp only [World.size_alloc, World.size_setCell, World.size_drew, size_drewN] at hs3
    have hc3_0 : ∀ o, w3.cell? ⟨w.heap.size, o, none⟩ = _ := fun o => hb3.cell (p := ⟨w.heap.size, o, none⟩) (by ((try simp only [World.size_alloc, World.size_setCell, World.size_drew, size_drewN]); omega))
    have hf3_0 : ∀ o, w3.frozen? ⟨w.heap.size, o, none⟩ = _ := fun o => hb3.frozen (p := ⟨w.heap.size, o, none⟩) (by ((try simp only [World.size_alloc, World.size_setCell, World.size_drew, size_drewN]); omega))
    have z3_0 : w.heap.size < w3.heap.size := (by omega)
    have hc3_1 : ∀ o, w3.cell? ⟨w.heap.size + 1, o, none⟩ = _ := fun o => hb3.cell (p := ⟨w.heap.size + 1, o, none⟩) (by ((try simp only [World.size_alloc, World.size_setCell, World.size_drew, size_drewN]); omega))
    have hf3_1 : ∀ o, w3.frozen? ⟨w.heap.size + 1, o, none⟩ = _ := fun o => hb3.frozen (p := ⟨w.heap.size + 1, o, none⟩) (by ((try simp only [World.size_alloc, World.size_setCell, World.size_drew, size_drewN]); omega))
    have z3_1 : w.heap.size + 1 < w3.heap.size := (by omega)
    go_wp2_with fail
    refine (mul_c HA.out HB.out _).mono ?_
    rintro e w4 ⟨rfl, hb4⟩
    have hs4 := hb4.size
    try simp only [World.size_alloc, World.size_setCell, World.size_drew, size_drewN] at hs4
    have hc4_0 : ∀ o, w4.cell? ⟨w.heap.size, o, none⟩ = _ := fun o => hb4.cell (p := ⟨w.heap.size, o, none⟩) (by ((try simp only [World.size_alloc, World.size_setCell, World.size_drew, size_drewN]); omega))
    have hf4_0 : ∀ o, w4.frozen? ⟨w.heap.size, o, none⟩ = _ := fun o => hb4.frozen (p := ⟨w.heap.size, o, none⟩) (by ((try simp only [World.size_alloc, World.size_setCell, World.size_drew, size_drewN]); omega))
    have z4_0 : w.heap.size < w4.heap.size := (by omega)
    have hc4_1 : ∀ o, w4.cell? ⟨w.heap.size + 1, o, none⟩ = _ := fun o => hb4.cell (p := ⟨w.heap.size + 1, o, none⟩) (by ((try simp only [World.size_alloc, World.size_setCell, World.size_drew, size_drewN]); omega))
    have hf4_1 : ∀ o, w4.frozen? ⟨w.heap.size + 1, o, none⟩ = _ := fun o => hb4.frozen (p := ⟨w.heap.size + 1, o, none⟩) (by ((try simp only [World.size_alloc, World.size_setCell, World.size_drew, size_drewN]); omega))
    have z4_1 : w.heap.size + 1 < w4.heap.size := (by omega)
    have hc4_2 : ∀ o, w4.cell? ⟨w3.heap.size, o, none⟩ = _ := fun o => hb4.cell (p := ⟨w3.heap.size, o, none⟩) (by ((try simp only [World.size_alloc, World.size_setCell, World.size_drew, size_drewN]); omega))
    have hf4_2 : ∀ o, w4.frozen? ⟨w3.heap.size, o, none⟩ = _ := fun o => hb4.frozen (p := ⟨w3.heap.size, o, none⟩) (by ((try simp only [World.size_alloc, World.size_setCell, World.size_drew, size_drewN]); omega))
    have z4_2 : w3.heap.size < w4.heap.size := (by omega)
    go_wp2_with fail
    go_region_held3 (fun w' => w'.cell? ⟨w3.heap.size, 0, none⟩ = some (.int .u64 (lim (addV A B) 0)) ∧ w'.cell? ⟨w3.heap.size, 1, none⟩ = some (.int .u64 (lim (addV A B) 1)) ∧ w'.cell? ⟨w3.heap.size, 2, none⟩ = some (.int .u64 (lim (addV A B) 2)) ∧ w'.cell? ⟨w3.heap.size, 3, none⟩ = some (.int .u64 (lim (addV A B) 3)) ∧
      w'.cell? ⟨w4.heap.size, 0, none⟩ = some (.int .u64 (lim (mulV A B) 0)) ∧ w'.cell? ⟨w4.heap.size, 1, none⟩ = some (.int .u64 (lim (mulV A B) 1)) ∧ w'.cell? ⟨w4.heap.size, 2, none⟩ = some (.int .u64 (lim (mulV A B) 2)) ∧ w'.cell? ⟨w4.heap.size, 3, none⟩ = some (.int .u64 (lim (mulV A B) 3))) (go_keep)
      (first | (go_at_call 18; (with_reducible refine (CS.out _).mono ?_); rintro e w5 ⟨rfl, hb5⟩; (have hs5 := hb5.size); (try simp only [World.size_alloc, World.size_setCell, World.size_drew, size_drewN] at hs5); (have hc5_0 : ∀ o, w5.cell? ⟨w.heap.size, o, none⟩ = _ := fun o => hb5.cell (p := ⟨w.heap.size, o, none⟩) (by ((try simp only [World.size_alloc, World.size_setCell, World.size_drew, size_drewN]); omega))); (have hf5_0 : ∀ o, w5.frozen? ⟨w.heap.size, o, none⟩ = _ := fun o => hb5.frozen (p := ⟨w.heap.size, o, none⟩) (by ((try simp only [World.size_alloc, World.size_setCell, World.size_drew, size_drewN]); omega))); (have z5_0 : w.heap.size < w5.heap.size := (by omega)); (have hc5_1 : ∀ o, w5.cell? ⟨w.heap.size + 1, o, none⟩ = _ := fun o => hb5.cell (p := ⟨w.heap.size + 1, o, none⟩) (by ((try simp only [World.size_alloc, World.size_setCell, World.size_drew, size_drewN]); omega))); (have hf5_1 : ∀ o, w5.frozen? ⟨w.heap.size + 1, o, none⟩ = _ := fun o => hb5.frozen (p := ⟨w.heap.size + 1, o, none⟩) (by ((try simp only [World.size_alloc, World.size_setCell, World.size_drew, size_drewN]); omega))); (have z5_1 : w.heap.size + 1 < w5.heap.size := (by omega)); (have hc5_2 : ∀ o, w5.cell? ⟨w3.heap.size, o, none⟩ = _ := fun o => hb5.cell (p := ⟨w3.heap.size, o, none⟩) (by ((try simp only [World.size_alloc, World.size_setCell, World.size_drew, size_drewN]); omega))); (have hf5_2 : ∀ o, w5.frozen? ⟨w3.heap.size, o, none⟩ = _ := fun o => hb5.frozen (p := ⟨w3.heap.size, o, none⟩) (by ((try simp only [World.size_alloc, World.size_setCell, World.size_drew, size_drewN]); omega))); (have z5_2 : w3.heap.size < w5.heap.size := (by omega)); (have hc5_3 : ∀ o, w5.cell? ⟨w4.heap.size, o, none⟩ = _ := fun o => hb5.cell (p := ⟨w4.heap.size, o, none⟩) (by ((try simp only [World.size_alloc, World.size_setCell, World.size_drew, size_drewN]); omega))); (have hf5_3 : ∀ o, w5.frozen? ⟨w4.heap.size, o, none⟩ = _ := fun o => hb5.frozen (p := ⟨w4.heap.size, o, none⟩) (by ((try simp only [World.size_alloc, World.size_setCell, World.size_drew, size_drewN]); omega))); (have z5_3 : w4.heap.size < w5.heap.size := (by omega))) | (go_at_call 18; (with_reducible refine (CM.out _).mono ?_); rintro e w6 ⟨rfl, hb6⟩; (have hs6 := hb6.size); (try simp only [World.size_alloc, World.size_setCell, World.size_drew, size_drewN] at hs6); (have hc6_0 : ∀ o, w6.cell? ⟨w.heap.size, o, none⟩ = _ := fun o => hb6.cell (p := ⟨w.heap.size, o, none⟩) (by ((try simp only [World.size_alloc, World.size_setCell, World.size_drew, size_drewN]); omega))); (have hf6_0 : ∀ o, w6.frozen? ⟨w.heap.size, o, none⟩ = _ := fun o => hb6.frozen (p := ⟨w.heap.size, o, none⟩) (by ((try simp only [World.size_alloc, World.size_setCell, World.size_drew, size_drewN]); omega))); (have z6_0 : w.heap.size < w6.heap.size := (by omega)); (have hc6_1 : ∀ o, w6.cell? ⟨w.heap.size + 1, o, none⟩ = _ := fun o => hb6.cell (p := ⟨w.heap.size + 1, o, none⟩) (by ((try simp only [World.size_alloc, World.size_setCell, World.size_drew, size_drewN]); omega))); (have hf6_1 : ∀ o, w6.frozen? ⟨w.heap.size + 1, o, none⟩ = _ := fun o => hb6.frozen (p := ⟨w.heap.size + 1, o, none⟩) (by ((try simp only [World.size_alloc, World.size_setCell, World.size_drew, size_drewN]); omega))); (have z6_1 : w.heap.size + 1 < w6.heap.size := (by omega)); (have hc6_2 : ∀ o, w6.cell? ⟨w3.heap.size, o, none⟩ = _ := fun o => hb6.cell (p := ⟨w3.heap.size, o, none⟩) (by ((try simp only [World.size_alloc, World.size_setCell, World.size_drew, size_drewN]); omega))); (have hf6_2 : ∀ o, w6.frozen? ⟨w3.heap.size, o, none⟩ = _ := fun o => hb6.frozen (p := ⟨w3.heap.size, o, none⟩) (by ((try simp only [World.size_alloc, World.size_setCell, World.size_drew, size_drewN]); omega))); (have z6_2 : w3.heap.size < w6.heap.size := (by omega)); (have hc6_3 : ∀ o, w6.cell? ⟨w4.heap.size, o, none⟩ = _ := fun o => hb6.cell (p := ⟨w4.heap.size, o, none⟩) (by ((try simp only [World.size_alloc, World.size_setCell, World.size_drew, size_drewN]); omega))); (have hf6_3 : ∀ o, w6.frozen? ⟨w4.heap.size, o, none⟩ = _ := fun o => hb6.frozen (p := ⟨w4.heap.size, o, none⟩) (by ((try simp only [World.size_alloc, World.size_setCell, World.size_drew, size_drewN]); omega))); (have z6_3 : w4.heap.size < w6.heap.size := (by omega))))
    go_wp2_with fail
    refine (awake1_c _).mono ?_
    rintro e w7 ⟨rfl, hb7⟩
    have hs7 := hb7.size
    try simp only [World.size_alloc, World.size_setCell, World.size_drew, size_drewN] at hs7
    have hc7_0 : ∀ o, w7.cell? ⟨w.heap.size, o, none⟩ = _ := fun o => hb7.cell (p := ⟨w.heap.size, o, none⟩) (by ((try simp only [World.size_alloc, World.size_setCell, World.size_drew, size_drewN]); omega))
    have hf7_0 : ∀ o, w7.frozen? ⟨w.heap.size, o, none⟩ = _ := fun o => hb7.frozen (p := ⟨w.heap.size, o, none⟩) (by ((try simp only [World.size_alloc, World.size_setCell, World.size_drew, size_drewN]); omega))
    have z7_0 : w.heap.size < w7.heap.size := (by omega)
    have hc7_1 : ∀ o, w7.cell? ⟨w.heap.size + 1, o, none⟩ = _ := fun o => hb7.cell (p := ⟨w.heap.size + 1, o, none⟩) (by ((try simp only [World.size_alloc, World.size_setCell, World.size_drew, size_drewN]); omega))
    have hf7_1 : ∀ o, w7.frozen? ⟨w.heap.size + 1, o, none⟩ = _ := fun o => hb7.frozen (p := ⟨w.heap.size + 1, o, none⟩) (by ((try simp only [World.size_alloc, World.size_setCell, World.size_drew, size_drewN]); omega))
    have z7_1 : w.heap.size + 1 < w7.heap.size := (by omega)
    go_wp2
    go_ret
    exact ⟨rfl, (by (repeat' (first | (with_reducible exact Below.refl _ _) | (with_reducible assumption) | (with_reducible refine Below.alloc ?_ ?_ _) | (with_reducible refine Below.drew ?_) | (with_reducible refine below_drewN ?_ _) | (with_reducible refine Below.setCell ?_ ?_ _) | (with_reducible refine below_step (by with_reducible assumption) ?_ ?_) | (first | (with_reducible exact Nat.le_refl _) | (with_reducible assumption) | omega | (simp only [World.size_alloc, World.size_setCell, World.size_drew, size_drewN]; omega) | (simp; omega) | (simp; done)))))⟩
end Go.Proofs.Ytphnmolndhnnpaa
