/- Chapter 2: quotient times divisor plus remainder, walked. -/
import Derived.WalkKit
import Derived.KernelRfl
import Derived.RowKit3
import Derived.Deep.LoopGhost
import Derived.Deep.QuietTactic
import Derived.BigQuiet
import Derived.WideLaws
import Derived.Laws.Rows
import Derived.Below
import Derived.Deep.Draws
import Derived.Outline
import Derived.LoopN
import Derived.Handy
import Derived.Laws.Externs
import Derived.Laws.BitsAllLaws
import Derived.Laws.BitsLemmas
import Derived.Deep.DeepCutAuto
import Derived.Deep.CutBlock
import Derived.Deep.RegionHeld3
import Derived.Test.YtjgodkpeapeflaaD5
namespace Go.Proofs.Ytjgodkpeapeflaa
open Go.RowKit
set_option linter.unusedVariables false
set_option linter.unusedSimpArgs false
theorem max_of : isU (M256 - 1) 18446744073709551615 18446744073709551615 18446744073709551615 18446744073709551615 := by unfold M256; constructor <;> omega
set_option maxHeartbeats 8000000 in
theorem MulDivInverse_walk (a0 a1 a2 a3 b0 b1 b2 b3 c0 c1 c2 c3 : Int) (wa0 : (Lit.int .u64 a0).wf = true) (wa1 : (Lit.int .u64 a1).wf = true) (wa2 : (Lit.int .u64 a2).wf = true) (wa3 : (Lit.int .u64 a3).wf = true) (wb0 : (Lit.int .u64 b0).wf = true) (wb1 : (Lit.int .u64 b1).wf = true) (wb2 : (Lit.int .u64 b2).wf = true) (wb3 : (Lit.int .u64 b3).wf = true) (wc0 : (Lit.int .u64 c0).wf = true) (wc1 : (Lit.int .u64 c1).wf = true) (wc2 : (Lit.int .u64 c2).wf = true) (wc3 : (Lit.int .u64 c3).wf = true) (w : World) :
    Calls Try.prog 7 #[.agg #[.int .u64 a0, .int .u64 a1, .int .u64 a2, .int .u64 a3], .agg #[.int .u64 b0, .int .u64 b1, .int .u64 b2, .int .u64 b3], .agg #[.int .u64 c0, .int .u64 c1, .int .u64 c2, .int .u64 c3]] w fun e w' => e = .returned (.bool true) ∧ Below w.heap.size w w' := by
  obtain ⟨A, hA, rfl, rfl, rfl, rfl⟩ := isU_wf wa0 wa1 wa2 wa3
  obtain ⟨B, hB, rfl, rfl, rfl, rfl⟩ := isU_wf wb0 wb1 wb2 wb3
  obtain ⟨C, hC, rfl, rfl, rfl, rfl⟩ := isU_wf wc0 wc1 wc2 wc3
  clear wa0 wa1 wa2 wa3 wb0 wb1 wb2 wb3 wc0 wc1 wc2 wc3
  have l0 := lim_zero 0
  have l1 := lim_zero 1
  have l2 := lim_zero 2
  have l3 := lim_zero 3
  have HA := hide (isU_lim hA)
  have HB := hide (isU_lim hB)
  have HC := hide (isU_lim hC)
  have H1 := hide (one_of (n := 1) (by omega))
  have HLo := hide (isU_lim (loV_lt A B))
  have HHi := hide (isU_lim (hiV_lt hA hB))
  have hzt := zero_test hC
  have HM := hide max_of
  by_cases hlt : hiV A B < C
  · have hz : C ≠ 0 := by omega
    have e0 : divE (hiV A B) C = 0 := by rw [divE, if_neg hz, if_pos hlt]
    have hzt' := zt_f hC hz
    obtain ⟨Q, hQ⟩ : ∃ Q, divQ (loV A B) (hiV A B) C = Q := ⟨_, rfl⟩
    obtain ⟨R, hR⟩ : ∃ R, divR (loV A B) (hiV A B) C = R := ⟨_, rfl⟩
    have hP := hi_lt.mp hlt
    have hQ' : Q = A * B / C := by rw [← hQ, ← mdV_eq hP, mdV]
    have hR' : R = A * B % C := by rw [← hR, ← mdR_eq hP, mdR]
    have hQl : Q < M256 := by rw [← hQ]; exact divQ_lt (loV_lt A B)
    obtain ⟨i1, i2, i3⟩ := inv_law hC hP hQ' hR'
    have hRl : R < M256 := by omega
    have hc : cmpV R C = -1 := by rw [cmpV, if_pos i1]
    have HQ := hide (isU_lim hQl)
    have HR := hide (isU_lim hRl)
    have HX := hide (isU_lim (loV_lt Q C))
    have HY := hide (isU_lim (hiV_lt hQl hC))
    by_cases hs : loV Q C + R < M256
    · obtain ⟨j1, j2⟩ := i2 hs
      have k1 : addV (loV Q C) R = loV A B := by rw [addV, if_pos hs, j1]
      have k2 : addE (loV Q C) R = 0 := by rw [addE, if_pos hs]
      clear i1 i2 i3 hs j1 hQl hRl hQ' hR' hP hlt hz hzt hA hB hC
      go_enter Try.func7, Try.ntmps7
      go_wp2_with fail
      refine (mdmul_c HA.out HB.out _).mono ?_
      rintro e w1 ⟨rfl, hb1⟩
      have hs1 := hb1.size
      try simp only [World.size_alloc, World.size_setCell, World.size_drew, size_drewN] at hs1
      have hc1_0 : ∀ o, w1.cell? ⟨w.heap.size, o, none⟩ = _ := fun o => hb1.cell (p := ⟨w.heap.size, o, none⟩) (by ((try simp only [World.size_alloc, World.size_setCell, World.size_drew, size_drewN]); omega))
      have hf1_0 : ∀ o, w1.frozen? ⟨w.heap.size, o, none⟩ = _ := fun o => hb1.frozen (p := ⟨w.heap.size, o, none⟩) (by ((try simp only [World.size_alloc, World.size_setCell, World.size_drew, size_drewN]); omega))
      have z1_0 : w.heap.size < w1.heap.size := (by omega)
      have hc1_1 : ∀ o, w1.cell? ⟨w.heap.size + 1, o, none⟩ = _ := fun o => hb1.cell (p := ⟨w.heap.size + 1, o, none⟩) (by ((try simp only [World.size_alloc, World.size_setCell, World.size_drew, size_drewN]); omega))
      have hf1_1 : ∀ o, w1.frozen? ⟨w.heap.size + 1, o, none⟩ = _ := fun o => hb1.frozen (p := ⟨w.heap.size + 1, o, none⟩) (by ((try simp only [World.size_alloc, World.size_setCell, World.size_drew, size_drewN]); omega))
      have z1_1 : w.heap.size + 1 < w1.heap.size := (by omega)
      have hc1_2 : ∀ o, w1.cell? ⟨w.heap.size + 1 + 1, o, none⟩ = _ := fun o => hb1.cell (p := ⟨w.heap.size + 1 + 1, o, none⟩) (by ((try simp only [World.size_alloc, World.size_setCell, World.size_drew, size_drewN]); omega))
      have hf1_2 : ∀ o, w1.frozen? ⟨w.heap.size + 1 + 1, o, none⟩ = _ := fun o => hb1.frozen (p := ⟨w.heap.size + 1 + 1, o, none⟩) (by ((try simp only [World.size_alloc, World.size_setCell, World.size_drew, size_drewN]); omega))
      have z1_2 : w.heap.size + 1 + 1 < w1.heap.size := (by omega)
      go_wp2_with fail
      refine (div512_c HLo.out HHi.out HC.out _).mono ?_
      rintro e w2 ⟨rfl, hb2⟩
      have hs2 := hb2.size
      try simp only [World.size_alloc, World.size_setCell, World.size_drew, size_drewN] at hs2
      have hc2_0 : ∀ o, w2.cell? ⟨w.heap.size, o, none⟩ = _ := fun o => hb2.cell (p := ⟨w.heap.size, o, none⟩) (by ((try simp only [World.size_alloc, World.size_setCell, World.size_drew, size_drewN]); omega))
      have hf2_0 : ∀ o, w2.frozen? ⟨w.heap.size, o, none⟩ = _ := fun o => hb2.frozen (p := ⟨w.heap.size, o, none⟩) (by ((try simp only [World.size_alloc, World.size_setCell, World.size_drew, size_drewN]); omega))
      have z2_0 : w.heap.size < w2.heap.size := (by omega)
      have hc2_1 : ∀ o, w2.cell? ⟨w.heap.size + 1, o, none⟩ = _ := fun o => hb2.cell (p := ⟨w.heap.size + 1, o, none⟩) (by ((try simp only [World.size_alloc, World.size_setCell, World.size_drew, size_drewN]); omega))
      have hf2_1 : ∀ o, w2.frozen? ⟨w.heap.size + 1, o, none⟩ = _ := fun o => hb2.frozen (p := ⟨w.heap.size + 1, o, none⟩) (by ((try simp only [World.size_alloc, World.size_setCell, World.size_drew, size_drewN]); omega))
      have z2_1 : w.heap.size + 1 < w2.heap.size := (by omega)
      have hc2_2 : ∀ o, w2.cell? ⟨w.heap.size + 1 + 1, o, none⟩ = _ := fun o => hb2.cell (p := ⟨w.heap.size + 1 + 1, o, none⟩) (by ((try simp only [World.size_alloc, World.size_setCell, World.size_drew, size_drewN]); omega))
      have hf2_2 : ∀ o, w2.frozen? ⟨w.heap.size + 1 + 1, o, none⟩ = _ := fun o => hb2.frozen (p := ⟨w.heap.size + 1 + 1, o, none⟩) (by ((try simp only [World.size_alloc, World.size_setCell, World.size_drew, size_drewN]); omega))
      have z2_2 : w.heap.size + 1 + 1 < w2.heap.size := (by omega)
      have hc2_3 : ∀ o, w2.cell? ⟨w1.heap.size, o, none⟩ = _ := fun o => hb2.cell (p := ⟨w1.heap.size, o, none⟩) (by ((try simp only [World.size_alloc, World.size_setCell, World.size_drew, size_drewN]); omega))
      have hf2_3 : ∀ o, w2.frozen? ⟨w1.heap.size, o, none⟩ = _ := fun o => hb2.frozen (p := ⟨w1.heap.size, o, none⟩) (by ((try simp only [World.size_alloc, World.size_setCell, World.size_drew, size_drewN]); omega))
      have z2_3 : w1.heap.size < w2.heap.size := (by omega)
      have hc2_4 : ∀ o, w2.cell? ⟨w1.heap.size + 1, o, none⟩ = _ := fun o => hb2.cell (p := ⟨w1.heap.size + 1, o, none⟩) (by ((try simp only [World.size_alloc, World.size_setCell, World.size_drew, size_drewN]); omega))
      have hf2_4 : ∀ o, w2.frozen? ⟨w1.heap.size + 1, o, none⟩ = _ := fun o => hb2.frozen (p := ⟨w1.heap.size + 1, o, none⟩) (by ((try simp only [World.size_alloc, World.size_setCell, World.size_drew, size_drewN]); omega))
      have z2_4 : w1.heap.size + 1 < w2.heap.size := (by omega)
      go_wp2_with fail
      refine (mdmul_c HQ.out HC.out _).mono ?_
      rintro e w3 ⟨rfl, hb3⟩
      have hs3 := hb3.size
      try simp only [World.size_alloc, World.size_setCell, World.size_drew, size_drewN] at hs3
      have hc3_0 : ∀ o, w3.cell? ⟨w.heap.size, o, none⟩ = _ := fun o => hb3.cell (p := ⟨w.heap.size, o, none⟩) (by ((try simp only [World.size_alloc, World.size_setCell, World.size_drew, size_drewN]); omega))
      have hf3_0 : ∀ o, w3.frozen? ⟨w.heap.size, o, none⟩ = _ := fun o => hb3.frozen (p := ⟨w.heap.size, o, none⟩) (by ((try simp only [World.size_alloc, World.size_setCell, World.size_drew, size_drewN]); omega))
      have z3_0 : w.heap.size < w3.heap.size := (by omega)
      have hc3_1 : ∀ o, w3.cell? ⟨w.heap.size + 1, o, none⟩ = _ := fun o => hb3.cell (p := ⟨w.heap.size + 1, o, none⟩) (by ((try simp only [World.size_alloc, World.size_setCell, World.size_drew, size_drewN]); omega))
      have hf3_1 : ∀ o, w3.frozen? ⟨w.heap.size + 1, o, none⟩ = _ := fun o => hb3.frozen (p := ⟨w.heap.size + 1, o, none⟩) (by ((try simp only [World.size_alloc, World.size_setCell, World.size_drew, size_drewN]); omega))
      have z3_1 : w.heap.size + 1 < w3.heap.size := (by omega)
      have hc3_2 : ∀ o, w3.cell? ⟨w.heap.size + 1 + 1, o, none⟩ = _ := fun o => hb3.cell (p := ⟨w.heap.size + 1 + 1, o, none⟩) (by ((try simp only [World.size_alloc, World.size_setCell, World.size_drew, size_drewN]); omega))
      have hf3_2 : ∀ o, w3.frozen? ⟨w.heap.size + 1 + 1, o, none⟩ = _ := fun o => hb3.frozen (p := ⟨w.heap.size + 1 + 1, o, none⟩) (by ((try simp only [World.size_alloc, World.size_setCell, World.size_drew, size_drewN]); omega))
      have z3_2 : w.heap.size + 1 + 1 < w3.heap.size := (by omega)
      have hc3_3 : ∀ o, w3.cell? ⟨w1.heap.size, o, none⟩ = _ := fun o => hb3.cell (p := ⟨w1.heap.size, o, none⟩) (by ((try simp only [World.size_alloc, World.size_setCell, World.size_drew, size_drewN]); omega))
      have hf3_3 : ∀ o, w3.frozen? ⟨w1.heap.size, o, none⟩ = _ := fun o => hb3.frozen (p := ⟨w1.heap.size, o, none⟩) (by ((try simp only [World.size_alloc, World.size_setCell, World.size_drew, size_drewN]); omega))
      have z3_3 : w1.heap.size < w3.heap.size := (by omega)
      have hc3_4 : ∀ o, w3.cell? ⟨w1.heap.size + 1, o, none⟩ = _ := fun o => hb3.cell (p := ⟨w1.heap.size + 1, o, none⟩) (by ((try simp only [World.size_alloc, World.size_setCell, World.size_drew, size_drewN]); omega))
      have hf3_4 : ∀ o, w3.frozen? ⟨w1.heap.size + 1, o, none⟩ = _ := fun o => hb3.frozen (p := ⟨w1.heap.size + 1, o, none⟩) (by ((try simp only [World.size_alloc, World.size_setCell, World.size_drew, size_drewN]); omega))
      have z3_4 : w1.heap.size + 1 < w3.heap.size := (by omega)
      have hc3_5 : ∀ o, w3.cell? ⟨w2.heap.size, o, none⟩ = _ := fun o => hb3.cell (p := ⟨w2.heap.size, o, none⟩) (by ((try simp only [World.size_alloc, World.size_setCell, World.size_drew, size_drewN]); omega))
      have hf3_5 : ∀ o, w3.frozen? ⟨w2.heap.size, o, none⟩ = _ := fun o => hb3.frozen (p := ⟨w2.heap.size, o, none⟩) (by ((try simp only [World.size_alloc, World.size_setCell, World.size_drew, size_drewN]); omega))
      have z3_5 : w2.heap.size < w3.heap.size := (by omega)
      have hc3_6 : ∀ o, w3.cell? ⟨w2.heap.size + 1, o, none⟩ = _ := fun o => hb3.cell (p := ⟨w2.heap.size + 1, o, none⟩) (by ((try simp only [World.size_alloc, World.size_setCell, World.size_drew, size_drewN]); omega))
      have hf3_6 : ∀ o, w3.frozen? ⟨w2.heap.size + 1, o, none⟩ = _ := fun o => hb3.frozen (p := ⟨w2.heap.size + 1, o, none⟩) (by ((try simp only [World.size_alloc, World.size_setCell, World.size_drew, size_drewN]); omega))
      have z3_6 : w2.heap.size + 1 < w3.heap.size := (by omega)
      go_wp2_with fail
      refine (add_c HX.out HR.out _).mono ?_
      rintro e w4 ⟨rfl, hb4⟩
      have hs4 := hb4.size
      try simp only [World.size_alloc, World.size_setCell, World.size_drew, size_drewN] at hs4
      have hc4_0 : ∀ o, w4.cell? ⟨w.heap.size, o, none⟩ = _ := fun o => hb4.cell (p := ⟨w.heap.size, o, none⟩) (by ((try simp only [World.size_alloc, World.size_setCell, World.size_drew, size_drewN]); omega))
      have hf4_0 : ∀ o, w4.frozen? ⟨w.heap.size, o, none⟩ = _ := fun o => hb4.frozen (p := ⟨w.heap.size, o, none⟩) (by ((try simp only [World.size_alloc, World.size_setCell, World.size_drew, size_drewN]); omega))
      have z4_0 : w.heap.size < w4.heap.size := (by omega)
      have hc4_1 : ∀ o, w4.cell? ⟨w.heap.size + 1, o, none⟩ = _ := fun o => hb4.cell (p := ⟨w.heap.size + 1, o, none⟩) (by ((try simp only [World.size_alloc, World.size_setCell, World.size_drew, size_drewN]); omega))
      have hf4_1 : ∀ o, w4.frozen? ⟨w.heap.size + 1, o, none⟩ = _ := fun o => hb4.frozen (p := ⟨w.heap.size + 1, o, none⟩) (by ((try simp only [World.size_alloc, World.size_setCell, World.size_drew, size_drewN]); omega))
      have z4_1 : w.heap.size + 1 < w4.heap.size := (by omega)
      have hc4_2 : ∀ o, w4.cell? ⟨w.heap.size + 1 + 1, o, none⟩ = _ := fun o => hb4.cell (p := ⟨w.heap.size + 1 + 1, o, none⟩) (by ((try simp only [World.size_alloc, World.size_setCell, World.size_drew, size_drewN]); omega))
      have hf4_2 : ∀ o, w4.frozen? ⟨w.heap.size + 1 + 1, o, none⟩ = _ := fun o => hb4.frozen (p := ⟨w.heap.size + 1 + 1, o, none⟩) (by ((try simp only [World.size_alloc, World.size_setCell, World.size_drew, size_drewN]); omega))
      have z4_2 : w.heap.size + 1 + 1 < w4.heap.size := (by omega)
      have hc4_3 : ∀ o, w4.cell? ⟨w1.heap.size, o, none⟩ = _ := fun o => hb4.cell (p := ⟨w1.heap.size, o, none⟩) (by ((try simp only [World.size_alloc, World.size_setCell, World.size_drew, size_drewN]); omega))
      have hf4_3 : ∀ o, w4.frozen? ⟨w1.heap.size, o, none⟩ = _ := fun o => hb4.frozen (p := ⟨w1.heap.size, o, none⟩) (by ((try simp only [World.size_alloc, World.size_setCell, World.size_drew, size_drewN]); omega))
      have z4_3 : w1.heap.size < w4.heap.size := (by omega)
      have hc4_4 : ∀ o, w4.cell? ⟨w1.heap.size + 1, o, none⟩ = _ := fun o => hb4.cell (p := ⟨w1.heap.size + 1, o, none⟩) (by ((try simp only [World.size_alloc, World.size_setCell, World.size_drew, size_drewN]); omega))
      have hf4_4 : ∀ o, w4.frozen? ⟨w1.heap.size + 1, o, none⟩ = _ := fun o => hb4.frozen (p := ⟨w1.heap.size + 1, o, none⟩) (by ((try simp only [World.size_alloc, World.size_setCell, World.size_drew, size_drewN]); omega))
      have z4_4 : w1.heap.size + 1 < w4.heap.size := (by omega)
      have hc4_5 : ∀ o, w4.cell? ⟨w2.heap.size, o, none⟩ = _ := fun o => hb4.cell (p := ⟨w2.heap.size, o, none⟩) (by ((try simp only [World.size_alloc, World.size_setCell, World.size_drew, size_drewN]); omega))
      have hf4_5 : ∀ o, w4.frozen? ⟨w2.heap.size, o, none⟩ = _ := fun o => hb4.frozen (p := ⟨w2.heap.size, o, none⟩) (by ((try simp only [World.size_alloc, World.size_setCell, World.size_drew, size_drewN]); omega))
      have z4_5 : w2.heap.size < w4.heap.size := (by omega)
      have hc4_6 : ∀ o, w4.cell? ⟨w2.heap.size + 1, o, none⟩ = _ := fun o => hb4.cell (p := ⟨w2.heap.size + 1, o, none⟩) (by ((try simp only [World.size_alloc, World.size_setCell, World.size_drew, size_drewN]); omega))
      have hf4_6 : ∀ o, w4.frozen? ⟨w2.heap.size + 1, o, none⟩ = _ := fun o => hb4.frozen (p := ⟨w2.heap.size + 1, o, none⟩) (by ((try simp only [World.size_alloc, World.size_setCell, World.size_drew, size_drewN]); omega))
      have z4_6 : w2.heap.size + 1 < w4.heap.size := (by omega)
      have hc4_7 : ∀ o, w4.cell? ⟨w3.heap.size, o, none⟩ = _ := fun o => hb4.cell (p := ⟨w3.heap.size, o, none⟩) (by ((try simp only [World.size_alloc, World.size_setCell, World.size_drew, size_drewN]); omega))
      have hf4_7 : ∀ o, w4.frozen? ⟨w3.heap.size, o, none⟩ = _ := fun o => hb4.frozen (p := ⟨w3.heap.size, o, none⟩) (by ((try simp only [World.size_alloc, World.size_setCell, World.size_drew, size_drewN]); omega))
      have z4_7 : w3.heap.size < w4.heap.size := (by omega)
      have hc4_8 : ∀ o, w4.cell? ⟨w3.heap.size + 1, o, none⟩ = _ := fun o => hb4.cell (p := ⟨w3.heap.size + 1, o, none⟩) (by ((try simp only [World.size_alloc, World.size_setCell, World.size_drew, size_drewN]); omega))
      have hf4_8 : ∀ o, w4.frozen? ⟨w3.heap.size + 1, o, none⟩ = _ := fun o => hb4.frozen (p := ⟨w3.heap.size + 1, o, none⟩) (by ((try simp only [World.size_alloc, World.size_setCell, World.size_drew, size_drewN]); omega))
      have z4_8 : w3.heap.size + 1 < w4.heap.size := (by omega)
      go_wp2_with fail
      refine (cmp_c HR.out HC.out _).mono ?_
      rintro e w5 ⟨rfl, hb5⟩
      have hs5 := hb5.size
      try simp only [World.size_alloc, World.size_setCell, World.size_drew, size_drewN] at hs5
      have hc5_0 : ∀ o, w5.cell? ⟨w.heap.size, o, none⟩ = _ := fun o => hb5.cell (p := ⟨w.heap.size, o, none⟩) (by ((try simp only [World.size_alloc, World.size_setCell, World.size_drew, size_drewN]); omega))
      have hf5_0 : ∀ o, w5.frozen? ⟨w.heap.size, o, none⟩ = _ := fun o => hb5.frozen (p := ⟨w.heap.size, o, none⟩) (by ((try simp only [World.size_alloc, World.size_setCell, World.size_drew, size_drewN]); omega))
      have z5_0 : w.heap.size < w5.heap.size := (by omega)
      have hc5_1 : ∀ o, w5.cell? ⟨w.heap.size + 1, o, none⟩ = _ := fun o => hb5.cell (p := ⟨w.heap.size + 1, o, none⟩) (by ((try simp only [World.size_alloc, World.size_setCell, World.size_drew, size_drewN]); omega))
      have hf5_1 : ∀ o, w5.frozen? ⟨w.heap.size + 1, o, none⟩ = _ := fun o => hb5.frozen (p := ⟨w.heap.size + 1, o, none⟩) (by ((try simp only [World.size_alloc, World.size_setCell, World.size_drew, size_drewN]); omega))
      have z5_1 : w.heap.size + 1 < w5.heap.size := (by omega)
      have hc5_2 : ∀ o, w5.cell? ⟨w.heap.size + 1 + 1, o, none⟩ = _ := fun o => hb5.cell (p := ⟨w.heap.size + 1 + 1, o, none⟩) (by ((try simp only [World.size_alloc, World.size_setCell, World.size_drew, size_drewN]); omega))
      have hf5_2 : ∀ o, w5.frozen? ⟨w.heap.size + 1 + 1, o, none⟩ = _ := fun o => hb5.frozen (p := ⟨w.heap.size + 1 + 1, o, none⟩) (by ((try simp only [World.size_alloc, World.size_setCell, World.size_drew, size_drewN]); omega))
      have z5_2 : w.heap.size + 1 + 1 < w5.heap.size := (by omega)
      have hc5_3 : ∀ o, w5.cell? ⟨w1.heap.size, o, none⟩ = _ := fun o => hb5.cell (p := ⟨w1.heap.size, o, none⟩) (by ((try simp only [World.size_alloc, World.size_setCell, World.size_drew, size_drewN]); omega))
      have hf5_3 : ∀ o, w5.frozen? ⟨w1.heap.size, o, none⟩ = _ := fun o => hb5.frozen (p := ⟨w1.heap.size, o, none⟩) (by ((try simp only [World.size_alloc, World.size_setCell, World.size_drew, size_drewN]); omega))
      have z5_3 : w1.heap.size < w5.heap.size := (by omega)
      have hc5_4 : ∀ o, w5.cell? ⟨w1.heap.size + 1, o, none⟩ = _ := fun o => hb5.cell (p := ⟨w1.heap.size + 1, o, none⟩) (by ((try simp only [World.size_alloc, World.size_setCell, World.size_drew, size_drewN]); omega))
      have hf5_4 : ∀ o, w5.frozen? ⟨w1.heap.size + 1, o, none⟩ = _ := fun o => hb5.frozen (p := ⟨w1.heap.size + 1, o, none⟩) (by ((try simp only [World.size_alloc, World.size_setCell, World.size_drew, size_drewN]); omega))
      have z5_4 : w1.heap.size + 1 < w5.heap.size := (by omega)
      have hc5_5 : ∀ o, w5.cell? ⟨w2.heap.size, o, none⟩ = _ := fun o => hb5.cell (p := ⟨w2.heap.size, o, none⟩) (by ((try simp only [World.size_alloc, World.size_setCell, World.size_drew, size_drewN]); omega))
      have hf5_5 : ∀ o, w5.frozen? ⟨w2.heap.size, o, none⟩ = _ := fun o => hb5.frozen (p := ⟨w2.heap.size, o, none⟩) (by ((try simp only [World.size_alloc, World.size_setCell, World.size_drew, size_drewN]); omega))
      have z5_5 : w2.heap.size < w5.heap.size := (by omega)
      have hc5_6 : ∀ o, w5.cell? ⟨w2.heap.size + 1, o, none⟩ = _ := fun o => hb5.cell (p := ⟨w2.heap.size + 1, o, none⟩) (by ((try simp only [World.size_alloc, World.size_setCell, World.size_drew, size_drewN]); omega))
      have hf5_6 : ∀ o, w5.frozen? ⟨w2.heap.size + 1, o, none⟩ = _ := fun o => hb5.frozen (p := ⟨w2.heap.size + 1, o, none⟩) (by ((try simp only [World.size_alloc, World.size_setCell, World.size_drew, size_drewN]); omega))
      have z5_6 : w2.heap.size + 1 < w5.heap.size := (by omega)
      have hc5_7 : ∀ o, w5.cell? ⟨w3.heap.size, o, none⟩ = _ := fun o => hb5.cell (p := ⟨w3.heap.size, o, none⟩) (by ((try simp only [World.size_alloc, World.size_setCell, World.size_drew, size_drewN]); omega))
      have hf5_7 : ∀ o, w5.frozen? ⟨w3.heap.size, o, none⟩ = _ := fun o => hb5.frozen (p := ⟨w3.heap.size, o, none⟩) (by ((try simp only [World.size_alloc, World.size_setCell, World.size_drew, size_drewN]); omega))
      have z5_7 : w3.heap.size < w5.heap.size := (by omega)
      have hc5_8 : ∀ o, w5.cell? ⟨w3.heap.size + 1, o, none⟩ = _ := fun o => hb5.cell (p := ⟨w3.heap.size + 1, o, none⟩) (by ((try simp only [World.size_alloc, World.size_setCell, World.size_drew, size_drewN]); omega))
      have hf5_8 : ∀ o, w5.frozen? ⟨w3.heap.size + 1, o, none⟩ = _ := fun o => hb5.frozen (p := ⟨w3.heap.size + 1, o, none⟩) (by ((try simp only [World.size_alloc, World.size_setCell, World.size_drew, size_drewN]); omega))
      have z5_8 : w3.heap.size + 1 < w5.heap.size := (by omega)
      have hc5_9 : ∀ o, w5.cell? ⟨w4.heap.size, o, none⟩ = _ := fun o => hb5.cell (p := ⟨w4.heap.size, o, none⟩) (by ((try simp only [World.size_alloc, World.size_setCell, World.size_drew, size_drewN]); omega))
      have hf5_9 : ∀ o, w5.frozen? ⟨w4.heap.size, o, none⟩ = _ := fun o => hb5.frozen (p := ⟨w4.heap.size, o, none⟩) (by ((try simp only [World.size_alloc, World.size_setCell, World.size_drew, size_drewN]); omega))
      have z5_9 : w4.heap.size < w5.heap.size := (by omega)
      go_wp2_with fail
      refine (awake2_c _).mono ?_
      rintro e w6 ⟨rfl, hb6⟩
      have hs6 := hb6.size
      try simp only [World.size_alloc, World.size_setCell, World.size_drew, size_drewN] at hs6
      have hc6_0 : ∀ o, w6.cell? ⟨w.heap.size, o, none⟩ = _ := fun o => hb6.cell (p := ⟨w.heap.size, o, none⟩) (by ((try simp only [World.size_alloc, World.size_setCell, World.size_drew, size_drewN]); omega))
      have hf6_0 : ∀ o, w6.frozen? ⟨w.heap.size, o, none⟩ = _ := fun o => hb6.frozen (p := ⟨w.heap.size, o, none⟩) (by ((try simp only [World.size_alloc, World.size_setCell, World.size_drew, size_drewN]); omega))
      have z6_0 : w.heap.size < w6.heap.size := (by omega)
      have hc6_1 : ∀ o, w6.cell? ⟨w.heap.size + 1, o, none⟩ = _ := fun o => hb6.cell (p := ⟨w.heap.size + 1, o, none⟩) (by ((try simp only [World.size_alloc, World.size_setCell, World.size_drew, size_drewN]); omega))
      have hf6_1 : ∀ o, w6.frozen? ⟨w.heap.size + 1, o, none⟩ = _ := fun o => hb6.frozen (p := ⟨w.heap.size + 1, o, none⟩) (by ((try simp only [World.size_alloc, World.size_setCell, World.size_drew, size_drewN]); omega))
      have z6_1 : w.heap.size + 1 < w6.heap.size := (by omega)
      have hc6_2 : ∀ o, w6.cell? ⟨w.heap.size + 1 + 1, o, none⟩ = _ := fun o => hb6.cell (p := ⟨w.heap.size + 1 + 1, o, none⟩) (by ((try simp only [World.size_alloc, World.size_setCell, World.size_drew, size_drewN]); omega))
      have hf6_2 : ∀ o, w6.frozen? ⟨w.heap.size + 1 + 1, o, none⟩ = _ := fun o => hb6.frozen (p := ⟨w.heap.size + 1 + 1, o, none⟩) (by ((try simp only [World.size_alloc, World.size_setCell, World.size_drew, size_drewN]); omega))
      have z6_2 : w.heap.size + 1 + 1 < w6.heap.size := (by omega)
      have hc6_3 : ∀ o, w6.cell? ⟨w1.heap.size, o, none⟩ = _ := fun o => hb6.cell (p := ⟨w1.heap.size, o, none⟩) (by ((try simp only [World.size_alloc, World.size_setCell, World.size_drew, size_drewN]); omega))
      have hf6_3 : ∀ o, w6.frozen? ⟨w1.heap.size, o, none⟩ = _ := fun o => hb6.frozen (p := ⟨w1.heap.size, o, none⟩) (by ((try simp only [World.size_alloc, World.size_setCell, World.size_drew, size_drewN]); omega))
      have z6_3 : w1.heap.size < w6.heap.size := (by omega)
      have hc6_4 : ∀ o, w6.cell? ⟨w1.heap.size + 1, o, none⟩ = _ := fun o => hb6.cell (p := ⟨w1.heap.size + 1, o, none⟩) (by ((try simp only [World.size_alloc, World.size_setCell, World.size_drew, size_drewN]); omega))
      have hf6_4 : ∀ o, w6.frozen? ⟨w1.heap.size + 1, o, none⟩ = _ := fun o => hb6.frozen (p := ⟨w1.heap.size + 1, o, none⟩) (by ((try simp only [World.size_alloc, World.size_setCell, World.size_drew, size_drewN]); omega))
      have z6_4 : w1.heap.size + 1 < w6.heap.size := (by omega)
      have hc6_5 : ∀ o, w6.cell? ⟨w2.heap.size, o, none⟩ = _ := fun o => hb6.cell (p := ⟨w2.heap.size, o, none⟩) (by ((try simp only [World.size_alloc, World.size_setCell, World.size_drew, size_drewN]); omega))
      have hf6_5 : ∀ o, w6.frozen? ⟨w2.heap.size, o, none⟩ = _ := fun o => hb6.frozen (p := ⟨w2.heap.size, o, none⟩) (by ((try simp only [World.size_alloc, World.size_setCell, World.size_drew, size_drewN]); omega))
      have z6_5 : w2.heap.size < w6.heap.size := (by omega)
      have hc6_6 : ∀ o, w6.cell? ⟨w2.heap.size + 1, o, none⟩ = _ := fun o => hb6.cell (p := ⟨w2.heap.size + 1, o, none⟩) (by ((try simp only [World.size_alloc, World.size_setCell, World.size_drew, size_drewN]); omega))
      have hf6_6 : ∀ o, w6.frozen? ⟨w2.heap.size + 1, o, none⟩ = _ := fun o => hb6.frozen (p := ⟨w2.heap.size + 1, o, none⟩) (by ((try simp only [World.size_alloc, World.size_setCell, World.size_drew, size_drewN]); omega))
      have z6_6 : w2.heap.size + 1 < w6.heap.size := (by omega)
      have hc6_7 : ∀ o, w6.cell? ⟨w3.heap.size, o, none⟩ = _ := fun o => hb6.cell (p := ⟨w3.heap.size, o, none⟩) (by ((try simp only [World.size_alloc, World.size_setCell, World.size_drew, size_drewN]); omega))
      have hf6_7 : ∀ o, w6.frozen? ⟨w3.heap.size, o, none⟩ = _ := fun o => hb6.frozen (p := ⟨w3.heap.size, o, none⟩) (by ((try simp only [World.size_alloc, World.size_setCell, World.size_drew, size_drewN]); omega))
      have z6_7 : w3.heap.size < w6.heap.size := (by omega)
      have hc6_8 : ∀ o, w6.cell? ⟨w3.heap.size + 1, o, none⟩ = _ := fun o => hb6.cell (p := ⟨w3.heap.size + 1, o, none⟩) (by ((try simp only [World.size_alloc, World.size_setCell, World.size_drew, size_drewN]); omega))
      have hf6_8 : ∀ o, w6.frozen? ⟨w3.heap.size + 1, o, none⟩ = _ := fun o => hb6.frozen (p := ⟨w3.heap.size + 1, o, none⟩) (by ((try simp only [World.size_alloc, World.size_setCell, World.size_drew, size_drewN]); omega))
      have z6_8 : w3.heap.size + 1 < w6.heap.size := (by omega)
      have hc6_9 : ∀ o, w6.cell? ⟨w4.heap.size, o, none⟩ = _ := fun o => hb6.cell (p := ⟨w4.heap.size, o, none⟩) (by ((try simp only [World.size_alloc, World.size_setCell, World.size_drew, size_drewN]); omega))
      have hf6_9 : ∀ o, w6.frozen? ⟨w4.heap.size, o, none⟩ = _ := fun o => hb6.frozen (p := ⟨w4.heap.size, o, none⟩) (by ((try simp only [World.size_alloc, World.size_setCell, World.size_drew, size_drewN]); omega))
      have z6_9 : w4.heap.size < w6.heap.size := (by omega)
      go_wp2
      go_ret
      exact ⟨rfl, (by (repeat' (first | (with_reducible exact Below.refl _ _) | (with_reducible assumption) | (with_reducible refine Below.alloc ?_ ?_ _) | (with_reducible refine Below.drew ?_) | (with_reducible refine below_drewN ?_ _) | (with_reducible refine Below.setCell ?_ ?_ _) | (with_reducible refine below_step (by with_reducible assumption) ?_ ?_) | (first | (with_reducible exact Nat.le_refl _) | (with_reducible assumption) | omega | (simp only [World.size_alloc, World.size_setCell, World.size_drew, size_drewN]; omega) | (simp; omega) | (simp; done)))))⟩
    · obtain ⟨j1, j2, j3, j4⟩ := i3 hs
      have k2 : addE (loV Q C) R = 4 := by rw [addE, if_neg hs]
      have k3 : addV (hiV Q C) 1 = hiV A B := by rw [addV, if_pos j2, j1]
      have k4 : addE (hiV Q C) 1 = 0 := by rw [addE, if_pos j2]
      have hx := loV_lt Q C
      have k5 : subV (M256 - 1) (loV Q C) = M256 - 1 - loV Q C := by rw [subV, if_neg (by omega)]
      have k6 : subV R (M256 - 1 - loV Q C) = R - (M256 - 1 - loV Q C) := by rw [subV, if_neg (by omega)]
      have k7 : subV (R - (M256 - 1 - loV Q C)) 1 = loV A B := by rw [subV, if_neg (by omega), j4]
      obtain ⟨u, hu⟩ : ∃ u, M256 - 1 - loV Q C = u := ⟨_, rfl⟩
      have hul : u < M256 := by omega
      rw [hu] at k5 k6 k7
      obtain ⟨v, hv⟩ : ∃ v, R - u = v := ⟨_, rfl⟩
      have hvl : v < M256 := by omega
      rw [hv] at k6 k7
      have HU := hide (isU_lim hul)
      have HV := hide (isU_lim hvl)
      have HU1 := hide (isU_lim (show subV (M256 - 1) (loV Q C) < M256 by rw [k5]; exact hul))
      clear i1 i2 i3 hs j1 j2 j3 j4 hQl hRl hQ' hR' hP hlt hz hzt hA hB hC hx hu hv hul hvl
      go_enter Try.func7, Try.ntmps7
      go_wp2_with fail
      refine (mdmul_c HA.out HB.out _).mono ?_
      rintro e w1 ⟨rfl, hb1⟩
      have hs1 := hb1.size
      try simp only [World.size_alloc, World.size_setCell, World.size_drew, size_drewN] at hs1
      have hc1_0 : ∀ o, w1.cell? ⟨w.heap.size, o, none⟩ = _ := fun o => hb1.cell (p := ⟨w.heap.size, o, none⟩) (by ((try simp only [World.size_alloc, World.size_setCell, World.size_drew, size_drewN]); omega))
      have hf1_0 : ∀ o, w1.frozen? ⟨w.heap.size, o, none⟩ = _ := fun o => hb1.frozen (p := ⟨w.heap.size, o, none⟩) (by ((try simp only [World.size_alloc, World.size_setCell, World.size_drew, size_drewN]); omega))
      have z1_0 : w.heap.size < w1.heap.size := (by omega)
      have hc1_1 : ∀ o, w1.cell? ⟨w.heap.size + 1, o, none⟩ = _ := fun o => hb1.cell (p := ⟨w.heap.size + 1, o, none⟩) (by ((try simp only [World.size_alloc, World.size_setCell, World.size_drew, size_drewN]); omega))
      have hf1_1 : ∀ o, w1.frozen? ⟨w.heap.size + 1, o, none⟩ = _ := fun o => hb1.frozen (p := ⟨w.heap.size + 1, o, none⟩) (by ((try simp only [World.size_alloc, World.size_setCell, World.size_drew, size_drewN]); omega))
      have z1_1 : w.heap.size + 1 < w1.heap.size := (by omega)
      have hc1_2 : ∀ o, w1.cell? ⟨w.heap.size + 1 + 1, o, none⟩ = _ := fun o => hb1.cell (p := ⟨w.heap.size + 1 + 1, o, none⟩) (by ((try simp only [World.size_alloc, World.size_setCell, World.size_drew, size_drewN]); omega))
      have hf1_2 : ∀ o, w1.frozen? ⟨w.heap.size + 1 + 1, o, none⟩ = _ := fun o => hb1.frozen (p := ⟨w.heap.size + 1 + 1, o, none⟩) (by ((try simp only [World.size_alloc, World.size_setCell, World.size_drew, size_drewN]); omega))
      have z1_2 : w.heap.size + 1 + 1 < w1.heap.size := (by omega)
      go_wp2_with fail
      refine (div512_c HLo.out HHi.out HC.out _).mono ?_
      rintro e w2 ⟨rfl, hb2⟩
      have hs2 := hb2.size
      try simp only [World.size_alloc, World.size_setCell, World.size_drew, size_drewN] at hs2
      have hc2_0 : ∀ o, w2.cell? ⟨w.heap.size, o, none⟩ = _ := fun o => hb2.cell (p := ⟨w.heap.size, o, none⟩) (by ((try simp only [World.size_alloc, World.size_setCell, World.size_drew, size_drewN]); omega))
      have hf2_0 : ∀ o, w2.frozen? ⟨w.heap.size, o, none⟩ = _ := fun o => hb2.frozen (p := ⟨w.heap.size, o, none⟩) (by ((try simp only [World.size_alloc, World.size_setCell, World.size_drew, size_drewN]); omega))
      have z2_0 : w.heap.size < w2.heap.size := (by omega)
      have hc2_1 : ∀ o, w2.cell? ⟨w.heap.size + 1, o, none⟩ = _ := fun o => hb2.cell (p := ⟨w.heap.size + 1, o, none⟩) (by ((try simp only [World.size_alloc, World.size_setCell, World.size_drew, size_drewN]); omega))
      have hf2_1 : ∀ o, w2.frozen? ⟨w.heap.size + 1, o, none⟩ = _ := fun o => hb2.frozen (p := ⟨w.heap.size + 1, o, none⟩) (by ((try simp only [World.size_alloc, World.size_setCell, World.size_drew, size_drewN]); omega))
      have z2_1 : w.heap.size + 1 < w2.heap.size := (by omega)
      have hc2_2 : ∀ o, w2.cell? ⟨w.heap.size + 1 + 1, o, none⟩ = _ := fun o => hb2.cell (p := ⟨w.heap.size + 1 + 1, o, none⟩) (by ((try simp only [World.size_alloc, World.size_setCell, World.size_drew, size_drewN]); omega))
      have hf2_2 : ∀ o, w2.frozen? ⟨w.heap.size + 1 + 1, o, none⟩ = _ := fun o => hb2.frozen (p := ⟨w.heap.size + 1 + 1, o, none⟩) (by ((try simp only [World.size_alloc, World.size_setCell, World.size_drew, size_drewN]); omega))
      have z2_2 : w.heap.size + 1 + 1 < w2.heap.size := (by omega)
      have hc2_3 : ∀ o, w2.cell? ⟨w1.heap.size, o, none⟩ = _ := fun o => hb2.cell (p := ⟨w1.heap.size, o, none⟩) (by ((try simp only [World.size_alloc, World.size_setCell, World.size_drew, size_drewN]); omega))
      have hf2_3 : ∀ o, w2.frozen? ⟨w1.heap.size, o, none⟩ = _ := fun o => hb2.frozen (p := ⟨w1.heap.size, o, none⟩) (by ((try simp only [World.size_alloc, World.size_setCell, World.size_drew, size_drewN]); omega))
      have z2_3 : w1.heap.size < w2.heap.size := (by omega)
      have hc2_4 : ∀ o, w2.cell? ⟨w1.heap.size + 1, o, none⟩ = _ := fun o => hb2.cell (p := ⟨w1.heap.size + 1, o, none⟩) (by ((try simp only [World.size_alloc, World.size_setCell, World.size_drew, size_drewN]); omega))
      have hf2_4 : ∀ o, w2.frozen? ⟨w1.heap.size + 1, o, none⟩ = _ := fun o => hb2.frozen (p := ⟨w1.heap.size + 1, o, none⟩) (by ((try simp only [World.size_alloc, World.size_setCell, World.size_drew, size_drewN]); omega))
      have z2_4 : w1.heap.size + 1 < w2.heap.size := (by omega)
      go_wp2_with fail
      refine (mdmul_c HQ.out HC.out _).mono ?_
      rintro e w3 ⟨rfl, hb3⟩
      have hs3 := hb3.size
      try simp only [World.size_alloc, World.size_setCell, World.size_drew, size_drewN] at hs3
      have hc3_0 : ∀ o, w3.cell? ⟨w.heap.size, o, none⟩ = _ := fun o => hb3.cell (p := ⟨w.heap.size, o, none⟩) (by ((try simp only [World.size_alloc, World.size_setCell, World.size_drew, size_drewN]); omega))
      have hf3_0 : ∀ o, w3.frozen? ⟨w.heap.size, o, none⟩ = _ := fun o => hb3.frozen (p := ⟨w.heap.size, o, none⟩) (by ((try simp only [World.size_alloc, World.size_setCell, World.size_drew, size_drewN]); omega))
      have z3_0 : w.heap.size < w3.heap.size := (by omega)
      have hc3_1 : ∀ o, w3.cell? ⟨w.heap.size + 1, o, none⟩ = _ := fun o => hb3.cell (p := ⟨w.heap.size + 1, o, none⟩) (by ((try simp only [World.size_alloc, World.size_setCell, World.size_drew, size_drewN]); omega))
      have hf3_1 : ∀ o, w3.frozen? ⟨w.heap.size + 1, o, none⟩ = _ := fun o => hb3.frozen (p := ⟨w.heap.size + 1, o, none⟩) (by ((try simp only [World.size_alloc, World.size_setCell, World.size_drew, size_drewN]); omega))
      have z3_1 : w.heap.size + 1 < w3.heap.size := (by omega)
      have hc3_2 : ∀ o, w3.cell? ⟨w.heap.size + 1 + 1, o, none⟩ = _ := fun o => hb3.cell (p := ⟨w.heap.size + 1 + 1, o, none⟩) (by ((try simp only [World.size_alloc, World.size_setCell, World.size_drew, size_drewN]); omega))
      have hf3_2 : ∀ o, w3.frozen? ⟨w.heap.size + 1 + 1, o, none⟩ = _ := fun o => hb3.frozen (p := ⟨w.heap.size + 1 + 1, o, none⟩) (by ((try simp only [World.size_alloc, World.size_setCell, World.size_drew, size_drewN]); omega))
      have z3_2 : w.heap.size + 1 + 1 < w3.heap.size := (by omega)
      have hc3_3 : ∀ o, w3.cell? ⟨w1.heap.size, o, none⟩ = _ := fun o => hb3.cell (p := ⟨w1.heap.size, o, none⟩) (by ((try simp only [World.size_alloc, World.size_setCell, World.size_drew, size_drewN]); omega))
      have hf3_3 : ∀ o, w3.frozen? ⟨w1.heap.size, o, none⟩ = _ := fun o => hb3.frozen (p := ⟨w1.heap.size, o, none⟩) (by ((try simp only [World.size_alloc, World.size_setCell, World.size_drew, size_drewN]); omega))
      have z3_3 : w1.heap.size < w3.heap.size := (by omega)
      have hc3_4 : ∀ o, w3.cell? ⟨w1.heap.size + 1, o, none⟩ = _ := fun o => hb3.cell (p := ⟨w1.heap.size + 1, o, none⟩) (by ((try simp only [World.size_alloc, World.size_setCell, World.size_drew, size_drewN]); omega))
      have hf3_4 : ∀ o, w3.frozen? ⟨w1.heap.size + 1, o, none⟩ = _ := fun o => hb3.frozen (p := ⟨w1.heap.size + 1, o, none⟩) (by ((try simp only [World.size_alloc, World.size_setCell, World.size_drew, size_drewN]); omega))
      have z3_4 : w1.heap.size + 1 < w3.heap.size := (by omega)
      have hc3_5 : ∀ o, w3.cell? ⟨w2.heap.size, o, none⟩ = _ := fun o => hb3.cell (p := ⟨w2.heap.size, o, none⟩) (by ((try simp only [World.size_alloc, World.size_setCell, World.size_drew, size_drewN]); omega))
      have hf3_5 : ∀ o, w3.frozen? ⟨w2.heap.size, o, none⟩ = _ := fun o => hb3.frozen (p := ⟨w2.heap.size, o, none⟩) (by ((try simp only [World.size_alloc, World.size_setCell, World.size_drew, size_drewN]); omega))
      have z3_5 : w2.heap.size < w3.heap.size := (by omega)
      have hc3_6 : ∀ o, w3.cell? ⟨w2.heap.size + 1, o, none⟩ = _ := fun o => hb3.cell (p := ⟨w2.heap.size + 1, o, none⟩) (by ((try simp only [World.size_alloc, World.size_setCell, World.size_drew, size_drewN]); omega))
      have hf3_6 : ∀ o, w3.frozen? ⟨w2.heap.size + 1, o, none⟩ = _ := fun o => hb3.frozen (p := ⟨w2.heap.size + 1, o, none⟩) (by ((try simp only [World.size_alloc, World.size_setCell, World.size_drew, size_drewN]); omega))
      have z3_6 : w2.heap.size + 1 < w3.heap.size := (by omega)
      go_wp2_with fail
      refine (add_c HX.out HR.out _).mono ?_
      rintro e w4 ⟨rfl, hb4⟩
      have hs4 := hb4.size
      try simp only [World.size_alloc, World.size_setCell, World.size_drew, size_drewN] at hs4
      have hc4_0 : ∀ o, w4.cell? ⟨w.heap.size, o, none⟩ = _ := fun o => hb4.cell (p := ⟨w.heap.size, o, none⟩) (by ((try simp only [World.size_alloc, World.size_setCell, World.size_drew, size_drewN]); omega))
      have hf4_0 : ∀ o, w4.frozen? ⟨w.heap.size, o, none⟩ = _ := fun o => hb4.frozen (p := ⟨w.heap.size, o, none⟩) (by ((try simp only [World.size_alloc, World.size_setCell, World.size_drew, size_drewN]); omega))
      have z4_0 : w.heap.size < w4.heap.size := (by omega)
      have hc4_1 : ∀ o, w4.cell? ⟨w.heap.size + 1, o, none⟩ = _ := fun o => hb4.cell (p := ⟨w.heap.size + 1, o, none⟩) (by ((try simp only [World.size_alloc, World.size_setCell, World.size_drew, size_drewN]); omega))
      have hf4_1 : ∀ o, w4.frozen? ⟨w.heap.size + 1, o, none⟩ = _ := fun o => hb4.frozen (p := ⟨w.heap.size + 1, o, none⟩) (by ((try simp only [World.size_alloc, World.size_setCell, World.size_drew, size_drewN]); omega))
      have z4_1 : w.heap.size + 1 < w4.heap.size := (by omega)
      have hc4_2 : ∀ o, w4.cell? ⟨w.heap.size + 1 + 1, o, none⟩ = _ := fun o => hb4.cell (p := ⟨w.heap.size + 1 + 1, o, none⟩) (by ((try simp only [World.size_alloc, World.size_setCell, World.size_drew, size_drewN]); omega))
      have hf4_2 : ∀ o, w4.frozen? ⟨w.heap.size + 1 + 1, o, none⟩ = _ := fun o => hb4.frozen (p := ⟨w.heap.size + 1 + 1, o, none⟩) (by ((try simp only [World.size_alloc, World.size_setCell, World.size_drew, size_drewN]); omega))
      have z4_2 : w.heap.size + 1 + 1 < w4.heap.size := (by omega)
      have hc4_3 : ∀ o, w4.cell? ⟨w1.heap.size, o, none⟩ = _ := fun o => hb4.cell (p := ⟨w1.heap.size, o, none⟩) (by ((try simp only [World.size_alloc, World.size_setCell, World.size_drew, size_drewN]); omega))
      have hf4_3 : ∀ o, w4.frozen? ⟨w1.heap.size, o, none⟩ = _ := fun o => hb4.frozen (p := ⟨w1.heap.size, o, none⟩) (by ((try simp only [World.size_alloc, World.size_setCell, World.size_drew, size_drewN]); omega))
      have z4_3 : w1.heap.size < w4.heap.size := (by omega)
      have hc4_4 : ∀ o, w4.cell? ⟨w1.heap.size + 1, o, none⟩ = _ := fun o => hb4.cell (p := ⟨w1.heap.size + 1, o, none⟩) (by ((try simp only [World.size_alloc, World.size_setCell, World.size_drew, size_drewN]); omega))
      have hf4_4 : ∀ o, w4.frozen? ⟨w1.heap.size + 1, o, none⟩ = _ := fun o => hb4.frozen (p := ⟨w1.heap.size + 1, o, none⟩) (by ((try simp only [World.size_alloc, World.size_setCell, World.size_drew, size_drewN]); omega))
      have z4_4 : w1.heap.size + 1 < w4.heap.size := (by omega)
      have hc4_5 : ∀ o, w4.cell? ⟨w2.heap.size, o, none⟩ = _ := fun o => hb4.cell (p := ⟨w2.heap.size, o, none⟩) (by ((try simp only [World.size_alloc, World.size_setCell, World.size_drew, size_drewN]); omega))
      have hf4_5 : ∀ o, w4.frozen? ⟨w2.heap.size, o, none⟩ = _ := fun o => hb4.frozen (p := ⟨w2.heap.size, o, none⟩) (by ((try simp only [World.size_alloc, World.size_setCell, World.size_drew, size_drewN]); omega))
      have z4_5 : w2.heap.size < w4.heap.size := (by omega)
      have hc4_6 : ∀ o, w4.cell? ⟨w2.heap.size + 1, o, none⟩ = _ := fun o => hb4.cell (p := ⟨w2.heap.size + 1, o, none⟩) (by ((try simp only [World.size_alloc, World.size_setCell, World.size_drew, size_drewN]); omega))
      have hf4_6 : ∀ o, w4.frozen? ⟨w2.heap.size + 1, o, none⟩ = _ := fun o => hb4.frozen (p := ⟨w2.heap.size + 1, o, none⟩) (by ((try simp only [World.size_alloc, World.size_setCell, World.size_drew, size_drewN]); omega))
      have z4_6 : w2.heap.size + 1 < w4.heap.size := (by omega)
      have hc4_7 : ∀ o, w4.cell? ⟨w3.heap.size, o, none⟩ = _ := fun o => hb4.cell (p := ⟨w3.heap.size, o, none⟩) (by ((try simp only [World.size_alloc, World.size_setCell, World.size_drew, size_drewN]); omega))
      have hf4_7 : ∀ o, w4.frozen? ⟨w3.heap.size, o, none⟩ = _ := fun o => hb4.frozen (p := ⟨w3.heap.size, o, none⟩) (by ((try simp only [World.size_alloc, World.size_setCell, World.size_drew, size_drewN]); omega))
      have z4_7 : w3.heap.size < w4.heap.size := (by omega)
      have hc4_8 : ∀ o, w4.cell? ⟨w3.heap.size + 1, o, none⟩ = _ := fun o => hb4.cell (p := ⟨w3.heap.size + 1, o, none⟩) (by ((try simp only [World.size_alloc, World.size_setCell, World.size_drew, size_drewN]); omega))
      have hf4_8 : ∀ o, w4.frozen? ⟨w3.heap.size + 1, o, none⟩ = _ := fun o => hb4.frozen (p := ⟨w3.heap.size + 1, o, none⟩) (by ((try simp only [World.size_alloc, World.size_setCell, World.size_drew, size_drewN]); omega))
      have z4_8 : w3.heap.size + 1 < w4.heap.size := (by omega)
      go_wp2_with fail
      refine (add_c HY.out H1.out _).mono ?_
      rintro e w5 ⟨rfl, hb5⟩
      have hs5 := hb5.size
      try simp only [World.size_alloc, World.size_setCell, World.size_drew, size_drewN] at hs5
      have hc5_0 : ∀ o, w5.cell? ⟨w.heap.size, o, none⟩ = _ := fun o => hb5.cell (p := ⟨w.heap.size, o, none⟩) (by ((try simp only [World.size_alloc, World.size_setCell, World.size_drew, size_drewN]); omega))
      have hf5_0 : ∀ o, w5.frozen? ⟨w.heap.size, o, none⟩ = _ := fun o => hb5.frozen (p := ⟨w.heap.size, o, none⟩) (by ((try simp only [World.size_alloc, World.size_setCell, World.size_drew, size_drewN]); omega))
      have z5_0 : w.heap.size < w5.heap.size := (by omega)
      have hc5_1 : ∀ o, w5.cell? ⟨w.heap.size + 1, o, none⟩ = _ := fun o => hb5.cell (p := ⟨w.heap.size + 1, o, none⟩) (by ((try simp only [World.size_alloc, World.size_setCell, World.size_drew, size_drewN]); omega))
      have hf5_1 : ∀ o, w5.frozen? ⟨w.heap.size + 1, o, none⟩ = _ := fun o => hb5.frozen (p := ⟨w.heap.size + 1, o, none⟩) (by ((try simp only [World.size_alloc, World.size_setCell, World.size_drew, size_drewN]); omega))
      have z5_1 : w.heap.size + 1 < w5.heap.size := (by omega)
      have hc5_2 : ∀ o, w5.cell? ⟨w.heap.size + 1 + 1, o, none⟩ = _ := fun o => hb5.cell (p := ⟨w.heap.size + 1 + 1, o, none⟩) (by ((try simp only [World.size_alloc, World.size_setCell, World.size_drew, size_drewN]); omega))
      have hf5_2 : ∀ o, w5.frozen? ⟨w.heap.size + 1 + 1, o, none⟩ = _ := fun o => hb5.frozen (p := ⟨w.heap.size + 1 + 1, o, none⟩) (by ((try simp only [World.size_alloc, World.size_setCell, World.size_drew, size_drewN]); omega))
      have z5_2 : w.heap.size + 1 + 1 < w5.heap.size := (by omega)
      have hc5_3 : ∀ o, w5.cell? ⟨w1.heap.size, o, none⟩ = _ := fun o => hb5.cell (p := ⟨w1.heap.size, o, none⟩) (by ((try simp only [World.size_alloc, World.size_setCell, World.size_drew, size_drewN]); omega))
      have hf5_3 : ∀ o, w5.frozen? ⟨w1.heap.size, o, none⟩ = _ := fun o => hb5.frozen (p := ⟨w1.heap.size, o, none⟩) (by ((try simp only [World.size_alloc, World.size_setCell, World.size_drew, size_drewN]); omega))
      have z5_3 : w1.heap.size < w5.heap.size := (by omega)
      have hc5_4 : ∀ o, w5.cell? ⟨w1.heap.size + 1, o, none⟩ = _ := fun o => hb5.cell (p := ⟨w1.heap.size + 1, o, none⟩) (by ((try simp only [World.size_alloc, World.size_setCell, World.size_drew, size_drewN]); omega))
      have hf5_4 : ∀ o, w5.frozen? ⟨w1.heap.size + 1, o, none⟩ = _ := fun o => hb5.frozen (p := ⟨w1.heap.size + 1, o, none⟩) (by ((try simp only [World.size_alloc, World.size_setCell, World.size_drew, size_drewN]); omega))
      have z5_4 : w1.heap.size + 1 < w5.heap.size := (by omega)
      have hc5_5 : ∀ o, w5.cell? ⟨w2.heap.size, o, none⟩ = _ := fun o => hb5.cell (p := ⟨w2.heap.size, o, none⟩) (by ((try simp only [World.size_alloc, World.size_setCell, World.size_drew, size_drewN]); omega))
      have hf5_5 : ∀ o, w5.frozen? ⟨w2.heap.size, o, none⟩ = _ := fun o => hb5.frozen (p := ⟨w2.heap.size, o, none⟩) (by ((try simp only [World.size_alloc, World.size_setCell, World.size_drew, size_drewN]); omega))
      have z5_5 : w2.heap.size < w5.heap.size := (by omega)
      have hc5_6 : ∀ o, w5.cell? ⟨w2.heap.size + 1, o, none⟩ = _ := fun o => hb5.cell (p := ⟨w2.heap.size + 1, o, none⟩) (by ((try simp only [World.size_alloc, World.size_setCell, World.size_drew, size_drewN]); omega))
      have hf5_6 : ∀ o, w5.frozen? ⟨w2.heap.size + 1, o, none⟩ = _ := fun o => hb5.frozen (p := ⟨w2.heap.size + 1, o, none⟩) (by ((try simp only [World.size_alloc, World.size_setCell, World.size_drew, size_drewN]); omega))
      have z5_6 : w2.heap.size + 1 < w5.heap.size := (by omega)
      have hc5_7 : ∀ o, w5.cell? ⟨w3.heap.size, o, none⟩ = _ := fun o => hb5.cell (p := ⟨w3.heap.size, o, none⟩) (by ((try simp only [World.size_alloc, World.size_setCell, World.size_drew, size_drewN]); omega))
      have hf5_7 : ∀ o, w5.frozen? ⟨w3.heap.size, o, none⟩ = _ := fun o => hb5.frozen (p := ⟨w3.heap.size, o, none⟩) (by ((try simp only [World.size_alloc, World.size_setCell, World.size_drew, size_drewN]); omega))
      have z5_7 : w3.heap.size < w5.heap.size := (by omega)
      have hc5_8 : ∀ o, w5.cell? ⟨w3.heap.size + 1, o, none⟩ = _ := fun o => hb5.cell (p := ⟨w3.heap.size + 1, o, none⟩) (by ((try simp only [World.size_alloc, World.size_setCell, World.size_drew, size_drewN]); omega))
      have hf5_8 : ∀ o, w5.frozen? ⟨w3.heap.size + 1, o, none⟩ = _ := fun o => hb5.frozen (p := ⟨w3.heap.size + 1, o, none⟩) (by ((try simp only [World.size_alloc, World.size_setCell, World.size_drew, size_drewN]); omega))
      have z5_8 : w3.heap.size + 1 < w5.heap.size := (by omega)
      have hc5_9 : ∀ o, w5.cell? ⟨w4.heap.size, o, none⟩ = _ := fun o => hb5.cell (p := ⟨w4.heap.size, o, none⟩) (by ((try simp only [World.size_alloc, World.size_setCell, World.size_drew, size_drewN]); omega))
      have hf5_9 : ∀ o, w5.frozen? ⟨w4.heap.size, o, none⟩ = _ := fun o => hb5.frozen (p := ⟨w4.heap.size, o, none⟩) (by ((try simp only [World.size_alloc, World.size_setCell, World.size_drew, size_drewN]); omega))
      have z5_9 : w4.heap.size < w5.heap.size := (by omega)
      go_wp2_with fail
      go_region_held3 (fun w' => w'.cell? ⟨w2.heap.size + 1, 0, none⟩ = some (.int .u64 (lim R 0)) ∧ w'.cell? ⟨w2.heap.size + 1, 1, none⟩ = some (.int .u64 (lim R 1)) ∧ w'.cell? ⟨w2.heap.size + 1, 2, none⟩ = some (.int .u64 (lim R 2)) ∧ w'.cell? ⟨w2.heap.size + 1, 3, none⟩ = some (.int .u64 (lim R 3)) ∧ w'.cell? ⟨w3.heap.size, 0, none⟩ = some (.int .u64 (lim (loV Q C) 0)) ∧ w'.cell? ⟨w3.heap.size, 1, none⟩ = some (.int .u64 (lim (loV Q C) 1)) ∧ w'.cell? ⟨w3.heap.size, 2, none⟩ = some (.int .u64 (lim (loV Q C) 2)) ∧ w'.cell? ⟨w3.heap.size, 3, none⟩ = some (.int .u64 (lim (loV Q C) 3))) (simp (maxDischargeDepth := 16) [go_sem, *, World.cell?_alloc_some, World.cell?_setCell_far]) (first | (go_at_call 22; (with_reducible refine (satsub_c HM.out HX.out _).mono ?_); rintro e w6 ⟨rfl, hb6⟩; (have hs6 := hb6.size); (try simp only [World.size_alloc, World.size_setCell, World.size_drew, size_drewN] at hs6); (have hc6_0 : ∀ o, w6.cell? ⟨w.heap.size, o, none⟩ = _ := fun o => hb6.cell (p := ⟨w.heap.size, o, none⟩) (by ((try simp only [World.size_alloc, World.size_setCell, World.size_drew, size_drewN]); omega))); (have hf6_0 : ∀ o, w6.frozen? ⟨w.heap.size, o, none⟩ = _ := fun o => hb6.frozen (p := ⟨w.heap.size, o, none⟩) (by ((try simp only [World.size_alloc, World.size_setCell, World.size_drew, size_drewN]); omega))); (have z6_0 : w.heap.size < w6.heap.size := (by omega)); (have hc6_1 : ∀ o, w6.cell? ⟨w.heap.size + 1, o, none⟩ = _ := fun o => hb6.cell (p := ⟨w.heap.size + 1, o, none⟩) (by ((try simp only [World.size_alloc, World.size_setCell, World.size_drew, size_drewN]); omega))); (have hf6_1 : ∀ o, w6.frozen? ⟨w.heap.size + 1, o, none⟩ = _ := fun o => hb6.frozen (p := ⟨w.heap.size + 1, o, none⟩) (by ((try simp only [World.size_alloc, World.size_setCell, World.size_drew, size_drewN]); omega))); (have z6_1 : w.heap.size + 1 < w6.heap.size := (by omega)); (have hc6_2 : ∀ o, w6.cell? ⟨w.heap.size + 1 + 1, o, none⟩ = _ := fun o => hb6.cell (p := ⟨w.heap.size + 1 + 1, o, none⟩) (by ((try simp only [World.size_alloc, World.size_setCell, World.size_drew, size_drewN]); omega))); (have hf6_2 : ∀ o, w6.frozen? ⟨w.heap.size + 1 + 1, o, none⟩ = _ := fun o => hb6.frozen (p := ⟨w.heap.size + 1 + 1, o, none⟩) (by ((try simp only [World.size_alloc, World.size_setCell, World.size_drew, size_drewN]); omega))); (have z6_2 : w.heap.size + 1 + 1 < w6.heap.size := (by omega)); (have hc6_3 : ∀ o, w6.cell? ⟨w1.heap.size, o, none⟩ = _ := fun o => hb6.cell (p := ⟨w1.heap.size, o, none⟩) (by ((try simp only [World.size_alloc, World.size_setCell, World.size_drew, size_drewN]); omega))); (have hf6_3 : ∀ o, w6.frozen? ⟨w1.heap.size, o, none⟩ = _ := fun o => hb6.frozen (p := ⟨w1.heap.size, o, none⟩) (by ((try simp only [World.size_alloc, World.size_setCell, World.size_drew, size_drewN]); omega))); (have z6_3 : w1.heap.size < w6.heap.size := (by omega)); (have hc6_4 : ∀ o, w6.cell? ⟨w1.heap.size + 1, o, none⟩ = _ := fun o => hb6.cell (p := ⟨w1.heap.size + 1, o, none⟩) (by ((try simp only [World.size_alloc, World.size_setCell, World.size_drew, size_drewN]); omega))); (have hf6_4 : ∀ o, w6.frozen? ⟨w1.heap.size + 1, o, none⟩ = _ := fun o => hb6.frozen (p := ⟨w1.heap.size + 1, o, none⟩) (by ((try simp only [World.size_alloc, World.size_setCell, World.size_drew, size_drewN]); omega))); (have z6_4 : w1.heap.size + 1 < w6.heap.size := (by omega)); (have hc6_5 : ∀ o, w6.cell? ⟨w2.heap.size, o, none⟩ = _ := fun o => hb6.cell (p := ⟨w2.heap.size, o, none⟩) (by ((try simp only [World.size_alloc, World.size_setCell, World.size_drew, size_drewN]); omega))); (have hf6_5 : ∀ o, w6.frozen? ⟨w2.heap.size, o, none⟩ = _ := fun o => hb6.frozen (p := ⟨w2.heap.size, o, none⟩) (by ((try simp only [World.size_alloc, World.size_setCell, World.size_drew, size_drewN]); omega))); (have z6_5 : w2.heap.size < w6.heap.size := (by omega)); (have hc6_6 : ∀ o, w6.cell? ⟨w2.heap.size + 1, o, none⟩ = _ := fun o => hb6.cell (p := ⟨w2.heap.size + 1, o, none⟩) (by ((try simp only [World.size_alloc, World.size_setCell, World.size_drew, size_drewN]); omega))); (have hf6_6 : ∀ o, w6.frozen? ⟨w2.heap.size + 1, o, none⟩ = _ := fun o => hb6.frozen (p := ⟨w2.heap.size + 1, o, none⟩) (by ((try simp only [World.size_alloc, World.size_setCell, World.size_drew, size_drewN]); omega))); (have z6_6 : w2.heap.size + 1 < w6.heap.size := (by omega)); (have hc6_7 : ∀ o, w6.cell? ⟨w3.heap.size, o, none⟩ = _ := fun o => hb6.cell (p := ⟨w3.heap.size, o, none⟩) (by ((try simp only [World.size_alloc, World.size_setCell, World.size_drew, size_drewN]); omega))); (have hf6_7 : ∀ o, w6.frozen? ⟨w3.heap.size, o, none⟩ = _ := fun o => hb6.frozen (p := ⟨w3.heap.size, o, none⟩) (by ((try simp only [World.size_alloc, World.size_setCell, World.size_drew, size_drewN]); omega))); (have z6_7 : w3.heap.size < w6.heap.size := (by omega)); (have hc6_8 : ∀ o, w6.cell? ⟨w3.heap.size + 1, o, none⟩ = _ := fun o => hb6.cell (p := ⟨w3.heap.size + 1, o, none⟩) (by ((try simp only [World.size_alloc, World.size_setCell, World.size_drew, size_drewN]); omega))); (have hf6_8 : ∀ o, w6.frozen? ⟨w3.heap.size + 1, o, none⟩ = _ := fun o => hb6.frozen (p := ⟨w3.heap.size + 1, o, none⟩) (by ((try simp only [World.size_alloc, World.size_setCell, World.size_drew, size_drewN]); omega))); (have z6_8 : w3.heap.size + 1 < w6.heap.size := (by omega)); (have hc6_9 : ∀ o, w6.cell? ⟨w4.heap.size, o, none⟩ = _ := fun o => hb6.cell (p := ⟨w4.heap.size, o, none⟩) (by ((try simp only [World.size_alloc, World.size_setCell, World.size_drew, size_drewN]); omega))); (have hf6_9 : ∀ o, w6.frozen? ⟨w4.heap.size, o, none⟩ = _ := fun o => hb6.frozen (p := ⟨w4.heap.size, o, none⟩) (by ((try simp only [World.size_alloc, World.size_setCell, World.size_drew, size_drewN]); omega))); (have z6_9 : w4.heap.size < w6.heap.size := (by omega))) | (go_at_call 22; (with_reducible refine (satsub_c HR.out HU.out _).mono ?_); rintro e w7 ⟨rfl, hb7⟩; (have hs7 := hb7.size); (try simp only [World.size_alloc, World.size_setCell, World.size_drew, size_drewN] at hs7); (have hc7_0 : ∀ o, w7.cell? ⟨w.heap.size, o, none⟩ = _ := fun o => hb7.cell (p := ⟨w.heap.size, o, none⟩) (by ((try simp only [World.size_alloc, World.size_setCell, World.size_drew, size_drewN]); omega))); (have hf7_0 : ∀ o, w7.frozen? ⟨w.heap.size, o, none⟩ = _ := fun o => hb7.frozen (p := ⟨w.heap.size, o, none⟩) (by ((try simp only [World.size_alloc, World.size_setCell, World.size_drew, size_drewN]); omega))); (have z7_0 : w.heap.size < w7.heap.size := (by omega)); (have hc7_1 : ∀ o, w7.cell? ⟨w.heap.size + 1, o, none⟩ = _ := fun o => hb7.cell (p := ⟨w.heap.size + 1, o, none⟩) (by ((try simp only [World.size_alloc, World.size_setCell, World.size_drew, size_drewN]); omega))); (have hf7_1 : ∀ o, w7.frozen? ⟨w.heap.size + 1, o, none⟩ = _ := fun o => hb7.frozen (p := ⟨w.heap.size + 1, o, none⟩) (by ((try simp only [World.size_alloc, World.size_setCell, World.size_drew, size_drewN]); omega))); (have z7_1 : w.heap.size + 1 < w7.heap.size := (by omega)); (have hc7_2 : ∀ o, w7.cell? ⟨w.heap.size + 1 + 1, o, none⟩ = _ := fun o => hb7.cell (p := ⟨w.heap.size + 1 + 1, o, none⟩) (by ((try simp only [World.size_alloc, World.size_setCell, World.size_drew, size_drewN]); omega))); (have hf7_2 : ∀ o, w7.frozen? ⟨w.heap.size + 1 + 1, o, none⟩ = _ := fun o => hb7.frozen (p := ⟨w.heap.size + 1 + 1, o, none⟩) (by ((try simp only [World.size_alloc, World.size_setCell, World.size_drew, size_drewN]); omega))); (have z7_2 : w.heap.size + 1 + 1 < w7.heap.size := (by omega)); (have hc7_3 : ∀ o, w7.cell? ⟨w1.heap.size, o, none⟩ = _ := fun o => hb7.cell (p := ⟨w1.heap.size, o, none⟩) (by ((try simp only [World.size_alloc, World.size_setCell, World.size_drew, size_drewN]); omega))); (have hf7_3 : ∀ o, w7.frozen? ⟨w1.heap.size, o, none⟩ = _ := fun o => hb7.frozen (p := ⟨w1.heap.size, o, none⟩) (by ((try simp only [World.size_alloc, World.size_setCell, World.size_drew, size_drewN]); omega))); (have z7_3 : w1.heap.size < w7.heap.size := (by omega)); (have hc7_4 : ∀ o, w7.cell? ⟨w1.heap.size + 1, o, none⟩ = _ := fun o => hb7.cell (p := ⟨w1.heap.size + 1, o, none⟩) (by ((try simp only [World.size_alloc, World.size_setCell, World.size_drew, size_drewN]); omega))); (have hf7_4 : ∀ o, w7.frozen? ⟨w1.heap.size + 1, o, none⟩ = _ := fun o => hb7.frozen (p := ⟨w1.heap.size + 1, o, none⟩) (by ((try simp only [World.size_alloc, World.size_setCell, World.size_drew, size_drewN]); omega))); (have z7_4 : w1.heap.size + 1 < w7.heap.size := (by omega)); (have hc7_5 : ∀ o, w7.cell? ⟨w2.heap.size, o, none⟩ = _ := fun o => hb7.cell (p := ⟨w2.heap.size, o, none⟩) (by ((try simp only [World.size_alloc, World.size_setCell, World.size_drew, size_drewN]); omega))); (have hf7_5 : ∀ o, w7.frozen? ⟨w2.heap.size, o, none⟩ = _ := fun o => hb7.frozen (p := ⟨w2.heap.size, o, none⟩) (by ((try simp only [World.size_alloc, World.size_setCell, World.size_drew, size_drewN]); omega))); (have z7_5 : w2.heap.size < w7.heap.size := (by omega)); (have hc7_6 : ∀ o, w7.cell? ⟨w2.heap.size + 1, o, none⟩ = _ := fun o => hb7.cell (p := ⟨w2.heap.size + 1, o, none⟩) (by ((try simp only [World.size_alloc, World.size_setCell, World.size_drew, size_drewN]); omega))); (have hf7_6 : ∀ o, w7.frozen? ⟨w2.heap.size + 1, o, none⟩ = _ := fun o => hb7.frozen (p := ⟨w2.heap.size + 1, o, none⟩) (by ((try simp only [World.size_alloc, World.size_setCell, World.size_drew, size_drewN]); omega))); (have z7_6 : w2.heap.size + 1 < w7.heap.size := (by omega)); (have hc7_7 : ∀ o, w7.cell? ⟨w3.heap.size, o, none⟩ = _ := fun o => hb7.cell (p := ⟨w3.heap.size, o, none⟩) (by ((try simp only [World.size_alloc, World.size_setCell, World.size_drew, size_drewN]); omega))); (have hf7_7 : ∀ o, w7.frozen? ⟨w3.heap.size, o, none⟩ = _ := fun o => hb7.frozen (p := ⟨w3.heap.size, o, none⟩) (by ((try simp only [World.size_alloc, World.size_setCell, World.size_drew, size_drewN]); omega))); (have z7_7 : w3.heap.size < w7.heap.size := (by omega)); (have hc7_8 : ∀ o, w7.cell? ⟨w3.heap.size + 1, o, none⟩ = _ := fun o => hb7.cell (p := ⟨w3.heap.size + 1, o, none⟩) (by ((try simp only [World.size_alloc, World.size_setCell, World.size_drew, size_drewN]); omega))); (have hf7_8 : ∀ o, w7.frozen? ⟨w3.heap.size + 1, o, none⟩ = _ := fun o => hb7.frozen (p := ⟨w3.heap.size + 1, o, none⟩) (by ((try simp only [World.size_alloc, World.size_setCell, World.size_drew, size_drewN]); omega))); (have z7_8 : w3.heap.size + 1 < w7.heap.size := (by omega)); (have hc7_9 : ∀ o, w7.cell? ⟨w4.heap.size, o, none⟩ = _ := fun o => hb7.cell (p := ⟨w4.heap.size, o, none⟩) (by ((try simp only [World.size_alloc, World.size_setCell, World.size_drew, size_drewN]); omega))); (have hf7_9 : ∀ o, w7.frozen? ⟨w4.heap.size, o, none⟩ = _ := fun o => hb7.frozen (p := ⟨w4.heap.size, o, none⟩) (by ((try simp only [World.size_alloc, World.size_setCell, World.size_drew, size_drewN]); omega))); (have z7_9 : w4.heap.size < w7.heap.size := (by omega))) | (go_at_call 22; (with_reducible refine (satsub_c HR.out HU1.out _).mono ?_); rintro e w7 ⟨rfl, hb7⟩; (have hs7 := hb7.size); (try simp only [World.size_alloc, World.size_setCell, World.size_drew, size_drewN] at hs7); (have hc7_0 : ∀ o, w7.cell? ⟨w.heap.size, o, none⟩ = _ := fun o => hb7.cell (p := ⟨w.heap.size, o, none⟩) (by ((try simp only [World.size_alloc, World.size_setCell, World.size_drew, size_drewN]); omega))); (have hf7_0 : ∀ o, w7.frozen? ⟨w.heap.size, o, none⟩ = _ := fun o => hb7.frozen (p := ⟨w.heap.size, o, none⟩) (by ((try simp only [World.size_alloc, World.size_setCell, World.size_drew, size_drewN]); omega))); (have z7_0 : w.heap.size < w7.heap.size := (by omega)); (have hc7_1 : ∀ o, w7.cell? ⟨w.heap.size + 1, o, none⟩ = _ := fun o => hb7.cell (p := ⟨w.heap.size + 1, o, none⟩) (by ((try simp only [World.size_alloc, World.size_setCell, World.size_drew, size_drewN]); omega))); (have hf7_1 : ∀ o, w7.frozen? ⟨w.heap.size + 1, o, none⟩ = _ := fun o => hb7.frozen (p := ⟨w.heap.size + 1, o, none⟩) (by ((try simp only [World.size_alloc, World.size_setCell, World.size_drew, size_drewN]); omega))); (have z7_1 : w.heap.size + 1 < w7.heap.size := (by omega)); (have hc7_2 : ∀ o, w7.cell? ⟨w.heap.size + 1 + 1, o, none⟩ = _ := fun o => hb7.cell (p := ⟨w.heap.size + 1 + 1, o, none⟩) (by ((try simp only [World.size_alloc, World.size_setCell, World.size_drew, size_drewN]); omega))); (have hf7_2 : ∀ o, w7.frozen? ⟨w.heap.size + 1 + 1, o, none⟩ = _ := fun o => hb7.frozen (p := ⟨w.heap.size + 1 + 1, o, none⟩) (by ((try simp only [World.size_alloc, World.size_setCell, World.size_drew, size_drewN]); omega))); (have z7_2 : w.heap.size + 1 + 1 < w7.heap.size := (by omega)); (have hc7_3 : ∀ o, w7.cell? ⟨w1.heap.size, o, none⟩ = _ := fun o => hb7.cell (p := ⟨w1.heap.size, o, none⟩) (by ((try simp only [World.size_alloc, World.size_setCell, World.size_drew, size_drewN]); omega))); (have hf7_3 : ∀ o, w7.frozen? ⟨w1.heap.size, o, none⟩ = _ := fun o => hb7.frozen (p := ⟨w1.heap.size, o, none⟩) (by ((try simp only [World.size_alloc, World.size_setCell, World.size_drew, size_drewN]); omega))); (have z7_3 : w1.heap.size < w7.heap.size := (by omega)); (have hc7_4 : ∀ o, w7.cell? ⟨w1.heap.size + 1, o, none⟩ = _ := fun o => hb7.cell (p := ⟨w1.heap.size + 1, o, none⟩) (by ((try simp only [World.size_alloc, World.size_setCell, World.size_drew, size_drewN]); omega))); (have hf7_4 : ∀ o, w7.frozen? ⟨w1.heap.size + 1, o, none⟩ = _ := fun o => hb7.frozen (p := ⟨w1.heap.size + 1, o, none⟩) (by ((try simp only [World.size_alloc, World.size_setCell, World.size_drew, size_drewN]); omega))); (have z7_4 : w1.heap.size + 1 < w7.heap.size := (by omega)); (have hc7_5 : ∀ o, w7.cell? ⟨w2.heap.size, o, none⟩ = _ := fun o => hb7.cell (p := ⟨w2.heap.size, o, none⟩) (by ((try simp only [World.size_alloc, World.size_setCell, World.size_drew, size_drewN]); omega))); (have hf7_5 : ∀ o, w7.frozen? ⟨w2.heap.size, o, none⟩ = _ := fun o => hb7.frozen (p := ⟨w2.heap.size, o, none⟩) (by ((try simp only [World.size_alloc, World.size_setCell, World.size_drew, size_drewN]); omega))); (have z7_5 : w2.heap.size < w7.heap.size := (by omega)); (have hc7_6 : ∀ o, w7.cell? ⟨w2.heap.size + 1, o, none⟩ = _ := fun o => hb7.cell (p := ⟨w2.heap.size + 1, o, none⟩) (by ((try simp only [World.size_alloc, World.size_setCell, World.size_drew, size_drewN]); omega))); (have hf7_6 : ∀ o, w7.frozen? ⟨w2.heap.size + 1, o, none⟩ = _ := fun o => hb7.frozen (p := ⟨w2.heap.size + 1, o, none⟩) (by ((try simp only [World.size_alloc, World.size_setCell, World.size_drew, size_drewN]); omega))); (have z7_6 : w2.heap.size + 1 < w7.heap.size := (by omega)); (have hc7_7 : ∀ o, w7.cell? ⟨w3.heap.size, o, none⟩ = _ := fun o => hb7.cell (p := ⟨w3.heap.size, o, none⟩) (by ((try simp only [World.size_alloc, World.size_setCell, World.size_drew, size_drewN]); omega))); (have hf7_7 : ∀ o, w7.frozen? ⟨w3.heap.size, o, none⟩ = _ := fun o => hb7.frozen (p := ⟨w3.heap.size, o, none⟩) (by ((try simp only [World.size_alloc, World.size_setCell, World.size_drew, size_drewN]); omega))); (have z7_7 : w3.heap.size < w7.heap.size := (by omega)); (have hc7_8 : ∀ o, w7.cell? ⟨w3.heap.size + 1, o, none⟩ = _ := fun o => hb7.cell (p := ⟨w3.heap.size + 1, o, none⟩) (by ((try simp only [World.size_alloc, World.size_setCell, World.size_drew, size_drewN]); omega))); (have hf7_8 : ∀ o, w7.frozen? ⟨w3.heap.size + 1, o, none⟩ = _ := fun o => hb7.frozen (p := ⟨w3.heap.size + 1, o, none⟩) (by ((try simp only [World.size_alloc, World.size_setCell, World.size_drew, size_drewN]); omega))); (have z7_8 : w3.heap.size + 1 < w7.heap.size := (by omega)); (have hc7_9 : ∀ o, w7.cell? ⟨w4.heap.size, o, none⟩ = _ := fun o => hb7.cell (p := ⟨w4.heap.size, o, none⟩) (by ((try simp only [World.size_alloc, World.size_setCell, World.size_drew, size_drewN]); omega))); (have hf7_9 : ∀ o, w7.frozen? ⟨w4.heap.size, o, none⟩ = _ := fun o => hb7.frozen (p := ⟨w4.heap.size, o, none⟩) (by ((try simp only [World.size_alloc, World.size_setCell, World.size_drew, size_drewN]); omega))); (have z7_9 : w4.heap.size < w7.heap.size := (by omega))))
      go_wp2_with fail
      refine (satsub_c HV.out H1.out _).mono ?_
      rintro e w8 ⟨rfl, hb8⟩
      have hs8 := hb8.size
      try simp only [World.size_alloc, World.size_setCell, World.size_drew, size_drewN] at hs8
      have hc8_0 : ∀ o, w8.cell? ⟨w.heap.size, o, none⟩ = _ := fun o => hb8.cell (p := ⟨w.heap.size, o, none⟩) (by ((try simp only [World.size_alloc, World.size_setCell, World.size_drew, size_drewN]); omega))
      have hf8_0 : ∀ o, w8.frozen? ⟨w.heap.size, o, none⟩ = _ := fun o => hb8.frozen (p := ⟨w.heap.size, o, none⟩) (by ((try simp only [World.size_alloc, World.size_setCell, World.size_drew, size_drewN]); omega))
      have z8_0 : w.heap.size < w8.heap.size := (by omega)
      have hc8_1 : ∀ o, w8.cell? ⟨w.heap.size + 1, o, none⟩ = _ := fun o => hb8.cell (p := ⟨w.heap.size + 1, o, none⟩) (by ((try simp only [World.size_alloc, World.size_setCell, World.size_drew, size_drewN]); omega))
      have hf8_1 : ∀ o, w8.frozen? ⟨w.heap.size + 1, o, none⟩ = _ := fun o => hb8.frozen (p := ⟨w.heap.size + 1, o, none⟩) (by ((try simp only [World.size_alloc, World.size_setCell, World.size_drew, size_drewN]); omega))
      have z8_1 : w.heap.size + 1 < w8.heap.size := (by omega)
      have hc8_2 : ∀ o, w8.cell? ⟨w.heap.size + 1 + 1, o, none⟩ = _ := fun o => hb8.cell (p := ⟨w.heap.size + 1 + 1, o, none⟩) (by ((try simp only [World.size_alloc, World.size_setCell, World.size_drew, size_drewN]); omega))
      have hf8_2 : ∀ o, w8.frozen? ⟨w.heap.size + 1 + 1, o, none⟩ = _ := fun o => hb8.frozen (p := ⟨w.heap.size + 1 + 1, o, none⟩) (by ((try simp only [World.size_alloc, World.size_setCell, World.size_drew, size_drewN]); omega))
      have z8_2 : w.heap.size + 1 + 1 < w8.heap.size := (by omega)
      have hc8_3 : ∀ o, w8.cell? ⟨w1.heap.size, o, none⟩ = _ := fun o => hb8.cell (p := ⟨w1.heap.size, o, none⟩) (by ((try simp only [World.size_alloc, World.size_setCell, World.size_drew, size_drewN]); omega))
      have hf8_3 : ∀ o, w8.frozen? ⟨w1.heap.size, o, none⟩ = _ := fun o => hb8.frozen (p := ⟨w1.heap.size, o, none⟩) (by ((try simp only [World.size_alloc, World.size_setCell, World.size_drew, size_drewN]); omega))
      have z8_3 : w1.heap.size < w8.heap.size := (by omega)
      have hc8_4 : ∀ o, w8.cell? ⟨w1.heap.size + 1, o, none⟩ = _ := fun o => hb8.cell (p := ⟨w1.heap.size + 1, o, none⟩) (by ((try simp only [World.size_alloc, World.size_setCell, World.size_drew, size_drewN]); omega))
      have hf8_4 : ∀ o, w8.frozen? ⟨w1.heap.size + 1, o, none⟩ = _ := fun o => hb8.frozen (p := ⟨w1.heap.size + 1, o, none⟩) (by ((try simp only [World.size_alloc, World.size_setCell, World.size_drew, size_drewN]); omega))
      have z8_4 : w1.heap.size + 1 < w8.heap.size := (by omega)
      have hc8_5 : ∀ o, w8.cell? ⟨w2.heap.size, o, none⟩ = _ := fun o => hb8.cell (p := ⟨w2.heap.size, o, none⟩) (by ((try simp only [World.size_alloc, World.size_setCell, World.size_drew, size_drewN]); omega))
      have hf8_5 : ∀ o, w8.frozen? ⟨w2.heap.size, o, none⟩ = _ := fun o => hb8.frozen (p := ⟨w2.heap.size, o, none⟩) (by ((try simp only [World.size_alloc, World.size_setCell, World.size_drew, size_drewN]); omega))
      have z8_5 : w2.heap.size < w8.heap.size := (by omega)
      have hc8_6 : ∀ o, w8.cell? ⟨w2.heap.size + 1, o, none⟩ = _ := fun o => hb8.cell (p := ⟨w2.heap.size + 1, o, none⟩) (by ((try simp only [World.size_alloc, World.size_setCell, World.size_drew, size_drewN]); omega))
      have hf8_6 : ∀ o, w8.frozen? ⟨w2.heap.size + 1, o, none⟩ = _ := fun o => hb8.frozen (p := ⟨w2.heap.size + 1, o, none⟩) (by ((try simp only [World.size_alloc, World.size_setCell, World.size_drew, size_drewN]); omega))
      have z8_6 : w2.heap.size + 1 < w8.heap.size := (by omega)
      have hc8_7 : ∀ o, w8.cell? ⟨w3.heap.size, o, none⟩ = _ := fun o => hb8.cell (p := ⟨w3.heap.size, o, none⟩) (by ((try simp only [World.size_alloc, World.size_setCell, World.size_drew, size_drewN]); omega))
      have hf8_7 : ∀ o, w8.frozen? ⟨w3.heap.size, o, none⟩ = _ := fun o => hb8.frozen (p := ⟨w3.heap.size, o, none⟩) (by ((try simp only [World.size_alloc, World.size_setCell, World.size_drew, size_drewN]); omega))
      have z8_7 : w3.heap.size < w8.heap.size := (by omega)
      have hc8_8 : ∀ o, w8.cell? ⟨w3.heap.size + 1, o, none⟩ = _ := fun o => hb8.cell (p := ⟨w3.heap.size + 1, o, none⟩) (by ((try simp only [World.size_alloc, World.size_setCell, World.size_drew, size_drewN]); omega))
      have hf8_8 : ∀ o, w8.frozen? ⟨w3.heap.size + 1, o, none⟩ = _ := fun o => hb8.frozen (p := ⟨w3.heap.size + 1, o, none⟩) (by ((try simp only [World.size_alloc, World.size_setCell, World.size_drew, size_drewN]); omega))
      have z8_8 : w3.heap.size + 1 < w8.heap.size := (by omega)
      have hc8_9 : ∀ o, w8.cell? ⟨w4.heap.size, o, none⟩ = _ := fun o => hb8.cell (p := ⟨w4.heap.size, o, none⟩) (by ((try simp only [World.size_alloc, World.size_setCell, World.size_drew, size_drewN]); omega))
      have hf8_9 : ∀ o, w8.frozen? ⟨w4.heap.size, o, none⟩ = _ := fun o => hb8.frozen (p := ⟨w4.heap.size, o, none⟩) (by ((try simp only [World.size_alloc, World.size_setCell, World.size_drew, size_drewN]); omega))
      have z8_9 : w4.heap.size < w8.heap.size := (by omega)
      have BZ : Box w8 w4.heap.size (lim v 0) (lim v 1) (lim v 2) (lim v 3) := by constructor <;> (first | (simp only [World.size_alloc, World.size_setCell, World.size_drew, size_drewN]; omega) | (simp (maxDischargeDepth := 16) [go_sem, *, World.cell?_alloc_some, World.cell?_setCell_far]; done))
      obtain ⟨zc0, zc1, zc2, zc3, zf0, zf1, zf2, zf3, zlt⟩ := BZ
      have BY : Box w8 (w3.heap.size + 1) (lim (hiV A B) 0) (lim (hiV A B) 1) (lim (hiV A B) 2) (lim (hiV A B) 3) := by constructor <;> (first | (simp only [World.size_alloc, World.size_setCell, World.size_drew, size_drewN]; omega) | (simp (maxDischargeDepth := 16) [go_sem, *, World.cell?_alloc_some, World.cell?_setCell_far]; done))
      obtain ⟨yc0, yc1, yc2, yc3, yf0, yf1, yf2, yf3, ylt⟩ := BY
      clear hc8_8 hc8_9 hf8_8 hf8_9
      go_wp2_with fail
      refine (cmp_c HR.out HC.out _).mono ?_
      rintro e w9 ⟨rfl, hb9⟩
      have hs9 := hb9.size
      try simp only [World.size_alloc, World.size_setCell, World.size_drew, size_drewN] at hs9
      have hc9_0 : ∀ o, w9.cell? ⟨w.heap.size, o, none⟩ = _ := fun o => hb9.cell (p := ⟨w.heap.size, o, none⟩) (by ((try simp only [World.size_alloc, World.size_setCell, World.size_drew, size_drewN]); omega))
      have hf9_0 : ∀ o, w9.frozen? ⟨w.heap.size, o, none⟩ = _ := fun o => hb9.frozen (p := ⟨w.heap.size, o, none⟩) (by ((try simp only [World.size_alloc, World.size_setCell, World.size_drew, size_drewN]); omega))
      have z9_0 : w.heap.size < w9.heap.size := (by omega)
      have hc9_1 : ∀ o, w9.cell? ⟨w.heap.size + 1, o, none⟩ = _ := fun o => hb9.cell (p := ⟨w.heap.size + 1, o, none⟩) (by ((try simp only [World.size_alloc, World.size_setCell, World.size_drew, size_drewN]); omega))
      have hf9_1 : ∀ o, w9.frozen? ⟨w.heap.size + 1, o, none⟩ = _ := fun o => hb9.frozen (p := ⟨w.heap.size + 1, o, none⟩) (by ((try simp only [World.size_alloc, World.size_setCell, World.size_drew, size_drewN]); omega))
      have z9_1 : w.heap.size + 1 < w9.heap.size := (by omega)
      have hc9_2 : ∀ o, w9.cell? ⟨w.heap.size + 1 + 1, o, none⟩ = _ := fun o => hb9.cell (p := ⟨w.heap.size + 1 + 1, o, none⟩) (by ((try simp only [World.size_alloc, World.size_setCell, World.size_drew, size_drewN]); omega))
      have hf9_2 : ∀ o, w9.frozen? ⟨w.heap.size + 1 + 1, o, none⟩ = _ := fun o => hb9.frozen (p := ⟨w.heap.size + 1 + 1, o, none⟩) (by ((try simp only [World.size_alloc, World.size_setCell, World.size_drew, size_drewN]); omega))
      have z9_2 : w.heap.size + 1 + 1 < w9.heap.size := (by omega)
      have hc9_3 : ∀ o, w9.cell? ⟨w1.heap.size, o, none⟩ = _ := fun o => hb9.cell (p := ⟨w1.heap.size, o, none⟩) (by ((try simp only [World.size_alloc, World.size_setCell, World.size_drew, size_drewN]); omega))
      have hf9_3 : ∀ o, w9.frozen? ⟨w1.heap.size, o, none⟩ = _ := fun o => hb9.frozen (p := ⟨w1.heap.size, o, none⟩) (by ((try simp only [World.size_alloc, World.size_setCell, World.size_drew, size_drewN]); omega))
      have z9_3 : w1.heap.size < w9.heap.size := (by omega)
      have hc9_4 : ∀ o, w9.cell? ⟨w1.heap.size + 1, o, none⟩ = _ := fun o => hb9.cell (p := ⟨w1.heap.size + 1, o, none⟩) (by ((try simp only [World.size_alloc, World.size_setCell, World.size_drew, size_drewN]); omega))
      have hf9_4 : ∀ o, w9.frozen? ⟨w1.heap.size + 1, o, none⟩ = _ := fun o => hb9.frozen (p := ⟨w1.heap.size + 1, o, none⟩) (by ((try simp only [World.size_alloc, World.size_setCell, World.size_drew, size_drewN]); omega))
      have z9_4 : w1.heap.size + 1 < w9.heap.size := (by omega)
      have hc9_5 : ∀ o, w9.cell? ⟨w2.heap.size, o, none⟩ = _ := fun o => hb9.cell (p := ⟨w2.heap.size, o, none⟩) (by ((try simp only [World.size_alloc, World.size_setCell, World.size_drew, size_drewN]); omega))
      have hf9_5 : ∀ o, w9.frozen? ⟨w2.heap.size, o, none⟩ = _ := fun o => hb9.frozen (p := ⟨w2.heap.size, o, none⟩) (by ((try simp only [World.size_alloc, World.size_setCell, World.size_drew, size_drewN]); omega))
      have z9_5 : w2.heap.size < w9.heap.size := (by omega)
      have hc9_6 : ∀ o, w9.cell? ⟨w2.heap.size + 1, o, none⟩ = _ := fun o => hb9.cell (p := ⟨w2.heap.size + 1, o, none⟩) (by ((try simp only [World.size_alloc, World.size_setCell, World.size_drew, size_drewN]); omega))
      have hf9_6 : ∀ o, w9.frozen? ⟨w2.heap.size + 1, o, none⟩ = _ := fun o => hb9.frozen (p := ⟨w2.heap.size + 1, o, none⟩) (by ((try simp only [World.size_alloc, World.size_setCell, World.size_drew, size_drewN]); omega))
      have z9_6 : w2.heap.size + 1 < w9.heap.size := (by omega)
      have hc9_7 : ∀ o, w9.cell? ⟨w3.heap.size, o, none⟩ = _ := fun o => hb9.cell (p := ⟨w3.heap.size, o, none⟩) (by ((try simp only [World.size_alloc, World.size_setCell, World.size_drew, size_drewN]); omega))
      have hf9_7 : ∀ o, w9.frozen? ⟨w3.heap.size, o, none⟩ = _ := fun o => hb9.frozen (p := ⟨w3.heap.size, o, none⟩) (by ((try simp only [World.size_alloc, World.size_setCell, World.size_drew, size_drewN]); omega))
      have z9_7 : w3.heap.size < w9.heap.size := (by omega)
      have hc9_8 : ∀ o, w9.cell? ⟨w3.heap.size + 1, o, none⟩ = _ := fun o => hb9.cell (p := ⟨w3.heap.size + 1, o, none⟩) (by ((try simp only [World.size_alloc, World.size_setCell, World.size_drew, size_drewN]); omega))
      have hf9_8 : ∀ o, w9.frozen? ⟨w3.heap.size + 1, o, none⟩ = _ := fun o => hb9.frozen (p := ⟨w3.heap.size + 1, o, none⟩) (by ((try simp only [World.size_alloc, World.size_setCell, World.size_drew, size_drewN]); omega))
      have z9_8 : w3.heap.size + 1 < w9.heap.size := (by omega)
      have hc9_9 : ∀ o, w9.cell? ⟨w4.heap.size, o, none⟩ = _ := fun o => hb9.cell (p := ⟨w4.heap.size, o, none⟩) (by ((try simp only [World.size_alloc, World.size_setCell, World.size_drew, size_drewN]); omega))
      have hf9_9 : ∀ o, w9.frozen? ⟨w4.heap.size, o, none⟩ = _ := fun o => hb9.frozen (p := ⟨w4.heap.size, o, none⟩) (by ((try simp only [World.size_alloc, World.size_setCell, World.size_drew, size_drewN]); omega))
      have z9_9 : w4.heap.size < w9.heap.size := (by omega)
      go_wp2_with fail
      refine (awake2_c _).mono ?_
      rintro e w10 ⟨rfl, hb10⟩
      have hs10 := hb10.size
      try simp only [World.size_alloc, World.size_setCell, World.size_drew, size_drewN] at hs10
      have hc10_0 : ∀ o, w10.cell? ⟨w.heap.size, o, none⟩ = _ := fun o => hb10.cell (p := ⟨w.heap.size, o, none⟩) (by ((try simp only [World.size_alloc, World.size_setCell, World.size_drew, size_drewN]); omega))
      have hf10_0 : ∀ o, w10.frozen? ⟨w.heap.size, o, none⟩ = _ := fun o => hb10.frozen (p := ⟨w.heap.size, o, none⟩) (by ((try simp only [World.size_alloc, World.size_setCell, World.size_drew, size_drewN]); omega))
      have z10_0 : w.heap.size < w10.heap.size := (by omega)
      have hc10_1 : ∀ o, w10.cell? ⟨w.heap.size + 1, o, none⟩ = _ := fun o => hb10.cell (p := ⟨w.heap.size + 1, o, none⟩) (by ((try simp only [World.size_alloc, World.size_setCell, World.size_drew, size_drewN]); omega))
      have hf10_1 : ∀ o, w10.frozen? ⟨w.heap.size + 1, o, none⟩ = _ := fun o => hb10.frozen (p := ⟨w.heap.size + 1, o, none⟩) (by ((try simp only [World.size_alloc, World.size_setCell, World.size_drew, size_drewN]); omega))
      have z10_1 : w.heap.size + 1 < w10.heap.size := (by omega)
      have hc10_2 : ∀ o, w10.cell? ⟨w.heap.size + 1 + 1, o, none⟩ = _ := fun o => hb10.cell (p := ⟨w.heap.size + 1 + 1, o, none⟩) (by ((try simp only [World.size_alloc, World.size_setCell, World.size_drew, size_drewN]); omega))
      have hf10_2 : ∀ o, w10.frozen? ⟨w.heap.size + 1 + 1, o, none⟩ = _ := fun o => hb10.frozen (p := ⟨w.heap.size + 1 + 1, o, none⟩) (by ((try simp only [World.size_alloc, World.size_setCell, World.size_drew, size_drewN]); omega))
      have z10_2 : w.heap.size + 1 + 1 < w10.heap.size := (by omega)
      have hc10_3 : ∀ o, w10.cell? ⟨w1.heap.size, o, none⟩ = _ := fun o => hb10.cell (p := ⟨w1.heap.size, o, none⟩) (by ((try simp only [World.size_alloc, World.size_setCell, World.size_drew, size_drewN]); omega))
      have hf10_3 : ∀ o, w10.frozen? ⟨w1.heap.size, o, none⟩ = _ := fun o => hb10.frozen (p := ⟨w1.heap.size, o, none⟩) (by ((try simp only [World.size_alloc, World.size_setCell, World.size_drew, size_drewN]); omega))
      have z10_3 : w1.heap.size < w10.heap.size := (by omega)
      have hc10_4 : ∀ o, w10.cell? ⟨w1.heap.size + 1, o, none⟩ = _ := fun o => hb10.cell (p := ⟨w1.heap.size + 1, o, none⟩) (by ((try simp only [World.size_alloc, World.size_setCell, World.size_drew, size_drewN]); omega))
      have hf10_4 : ∀ o, w10.frozen? ⟨w1.heap.size + 1, o, none⟩ = _ := fun o => hb10.frozen (p := ⟨w1.heap.size + 1, o, none⟩) (by ((try simp only [World.size_alloc, World.size_setCell, World.size_drew, size_drewN]); omega))
      have z10_4 : w1.heap.size + 1 < w10.heap.size := (by omega)
      have hc10_5 : ∀ o, w10.cell? ⟨w2.heap.size, o, none⟩ = _ := fun o => hb10.cell (p := ⟨w2.heap.size, o, none⟩) (by ((try simp only [World.size_alloc, World.size_setCell, World.size_drew, size_drewN]); omega))
      have hf10_5 : ∀ o, w10.frozen? ⟨w2.heap.size, o, none⟩ = _ := fun o => hb10.frozen (p := ⟨w2.heap.size, o, none⟩) (by ((try simp only [World.size_alloc, World.size_setCell, World.size_drew, size_drewN]); omega))
      have z10_5 : w2.heap.size < w10.heap.size := (by omega)
      have hc10_6 : ∀ o, w10.cell? ⟨w2.heap.size + 1, o, none⟩ = _ := fun o => hb10.cell (p := ⟨w2.heap.size + 1, o, none⟩) (by ((try simp only [World.size_alloc, World.size_setCell, World.size_drew, size_drewN]); omega))
      have hf10_6 : ∀ o, w10.frozen? ⟨w2.heap.size + 1, o, none⟩ = _ := fun o => hb10.frozen (p := ⟨w2.heap.size + 1, o, none⟩) (by ((try simp only [World.size_alloc, World.size_setCell, World.size_drew, size_drewN]); omega))
      have z10_6 : w2.heap.size + 1 < w10.heap.size := (by omega)
      have hc10_7 : ∀ o, w10.cell? ⟨w3.heap.size, o, none⟩ = _ := fun o => hb10.cell (p := ⟨w3.heap.size, o, none⟩) (by ((try simp only [World.size_alloc, World.size_setCell, World.size_drew, size_drewN]); omega))
      have hf10_7 : ∀ o, w10.frozen? ⟨w3.heap.size, o, none⟩ = _ := fun o => hb10.frozen (p := ⟨w3.heap.size, o, none⟩) (by ((try simp only [World.size_alloc, World.size_setCell, World.size_drew, size_drewN]); omega))
      have z10_7 : w3.heap.size < w10.heap.size := (by omega)
      have hc10_8 : ∀ o, w10.cell? ⟨w3.heap.size + 1, o, none⟩ = _ := fun o => hb10.cell (p := ⟨w3.heap.size + 1, o, none⟩) (by ((try simp only [World.size_alloc, World.size_setCell, World.size_drew, size_drewN]); omega))
      have hf10_8 : ∀ o, w10.frozen? ⟨w3.heap.size + 1, o, none⟩ = _ := fun o => hb10.frozen (p := ⟨w3.heap.size + 1, o, none⟩) (by ((try simp only [World.size_alloc, World.size_setCell, World.size_drew, size_drewN]); omega))
      have z10_8 : w3.heap.size + 1 < w10.heap.size := (by omega)
      have hc10_9 : ∀ o, w10.cell? ⟨w4.heap.size, o, none⟩ = _ := fun o => hb10.cell (p := ⟨w4.heap.size, o, none⟩) (by ((try simp only [World.size_alloc, World.size_setCell, World.size_drew, size_drewN]); omega))
      have hf10_9 : ∀ o, w10.frozen? ⟨w4.heap.size, o, none⟩ = _ := fun o => hb10.frozen (p := ⟨w4.heap.size, o, none⟩) (by ((try simp only [World.size_alloc, World.size_setCell, World.size_drew, size_drewN]); omega))
      have z10_9 : w4.heap.size < w10.heap.size := (by omega)
      go_wp2
      go_ret
      exact ⟨rfl, (by (repeat' (first | (with_reducible exact Below.refl _ _) | (with_reducible assumption) | (with_reducible refine Below.alloc ?_ ?_ _) | (with_reducible refine Below.drew ?_) | (with_reducible refine below_drewN ?_ _) | (with_reducible refine Below.setCell ?_ ?_ _) | (with_reducible refine below_step (by with_reducible assumption) ?_ ?_) | (first | (with_reducible exact Nat.le_refl _) | (with_reducible assumption) | omega | (simp only [World.size_alloc, World.size_setCell, World.size_drew, size_drewN]; omega) | (simp; omega) | (simp; done)))))⟩
  · have hQ : divQ (loV A B) (hiV A B) C = 0 := by rw [divQ, if_neg hlt]
    have hR : divR (loV A B) (hiV A B) C = 0 := by rw [divR, if_neg hlt]
    by_cases hz : C = 0
    · have e0 : divE (hiV A B) C = 5 := by rw [divE, if_pos hz]
      have hzt' := zt_t hC hz
      clear hzt hz hlt hA hB hC
      go_enter Try.func7, Try.ntmps7
      go_wp2_with fail
      refine (mdmul_c HA.out HB.out _).mono ?_
      rintro e w1 ⟨rfl, hb1⟩
      have hs1 := hb1.size
      try simp only [World.size_alloc, World.size_setCell, World.size_drew, size_drewN] at hs1
      have hc1_0 : ∀ o, w1.cell? ⟨w.heap.size, o, none⟩ = _ := fun o => hb1.cell (p := ⟨w.heap.size, o, none⟩) (by ((try simp only [World.size_alloc, World.size_setCell, World.size_drew, size_drewN]); omega))
      have hf1_0 : ∀ o, w1.frozen? ⟨w.heap.size, o, none⟩ = _ := fun o => hb1.frozen (p := ⟨w.heap.size, o, none⟩) (by ((try simp only [World.size_alloc, World.size_setCell, World.size_drew, size_drewN]); omega))
      have z1_0 : w.heap.size < w1.heap.size := (by omega)
      have hc1_1 : ∀ o, w1.cell? ⟨w.heap.size + 1, o, none⟩ = _ := fun o => hb1.cell (p := ⟨w.heap.size + 1, o, none⟩) (by ((try simp only [World.size_alloc, World.size_setCell, World.size_drew, size_drewN]); omega))
      have hf1_1 : ∀ o, w1.frozen? ⟨w.heap.size + 1, o, none⟩ = _ := fun o => hb1.frozen (p := ⟨w.heap.size + 1, o, none⟩) (by ((try simp only [World.size_alloc, World.size_setCell, World.size_drew, size_drewN]); omega))
      have z1_1 : w.heap.size + 1 < w1.heap.size := (by omega)
      have hc1_2 : ∀ o, w1.cell? ⟨w.heap.size + 1 + 1, o, none⟩ = _ := fun o => hb1.cell (p := ⟨w.heap.size + 1 + 1, o, none⟩) (by ((try simp only [World.size_alloc, World.size_setCell, World.size_drew, size_drewN]); omega))
      have hf1_2 : ∀ o, w1.frozen? ⟨w.heap.size + 1 + 1, o, none⟩ = _ := fun o => hb1.frozen (p := ⟨w.heap.size + 1 + 1, o, none⟩) (by ((try simp only [World.size_alloc, World.size_setCell, World.size_drew, size_drewN]); omega))
      have z1_2 : w.heap.size + 1 + 1 < w1.heap.size := (by omega)
      go_wp2_with fail
      refine (div512_c HLo.out HHi.out HC.out _).mono ?_
      rintro e w2 ⟨rfl, hb2⟩
      have hs2 := hb2.size
      try simp only [World.size_alloc, World.size_setCell, World.size_drew, size_drewN] at hs2
      have hc2_0 : ∀ o, w2.cell? ⟨w.heap.size, o, none⟩ = _ := fun o => hb2.cell (p := ⟨w.heap.size, o, none⟩) (by ((try simp only [World.size_alloc, World.size_setCell, World.size_drew, size_drewN]); omega))
      have hf2_0 : ∀ o, w2.frozen? ⟨w.heap.size, o, none⟩ = _ := fun o => hb2.frozen (p := ⟨w.heap.size, o, none⟩) (by ((try simp only [World.size_alloc, World.size_setCell, World.size_drew, size_drewN]); omega))
      have z2_0 : w.heap.size < w2.heap.size := (by omega)
      have hc2_1 : ∀ o, w2.cell? ⟨w.heap.size + 1, o, none⟩ = _ := fun o => hb2.cell (p := ⟨w.heap.size + 1, o, none⟩) (by ((try simp only [World.size_alloc, World.size_setCell, World.size_drew, size_drewN]); omega))
      have hf2_1 : ∀ o, w2.frozen? ⟨w.heap.size + 1, o, none⟩ = _ := fun o => hb2.frozen (p := ⟨w.heap.size + 1, o, none⟩) (by ((try simp only [World.size_alloc, World.size_setCell, World.size_drew, size_drewN]); omega))
      have z2_1 : w.heap.size + 1 < w2.heap.size := (by omega)
      have hc2_2 : ∀ o, w2.cell? ⟨w.heap.size + 1 + 1, o, none⟩ = _ := fun o => hb2.cell (p := ⟨w.heap.size + 1 + 1, o, none⟩) (by ((try simp only [World.size_alloc, World.size_setCell, World.size_drew, size_drewN]); omega))
      have hf2_2 : ∀ o, w2.frozen? ⟨w.heap.size + 1 + 1, o, none⟩ = _ := fun o => hb2.frozen (p := ⟨w.heap.size + 1 + 1, o, none⟩) (by ((try simp only [World.size_alloc, World.size_setCell, World.size_drew, size_drewN]); omega))
      have z2_2 : w.heap.size + 1 + 1 < w2.heap.size := (by omega)
      have hc2_3 : ∀ o, w2.cell? ⟨w1.heap.size, o, none⟩ = _ := fun o => hb2.cell (p := ⟨w1.heap.size, o, none⟩) (by ((try simp only [World.size_alloc, World.size_setCell, World.size_drew, size_drewN]); omega))
      have hf2_3 : ∀ o, w2.frozen? ⟨w1.heap.size, o, none⟩ = _ := fun o => hb2.frozen (p := ⟨w1.heap.size, o, none⟩) (by ((try simp only [World.size_alloc, World.size_setCell, World.size_drew, size_drewN]); omega))
      have z2_3 : w1.heap.size < w2.heap.size := (by omega)
      have hc2_4 : ∀ o, w2.cell? ⟨w1.heap.size + 1, o, none⟩ = _ := fun o => hb2.cell (p := ⟨w1.heap.size + 1, o, none⟩) (by ((try simp only [World.size_alloc, World.size_setCell, World.size_drew, size_drewN]); omega))
      have hf2_4 : ∀ o, w2.frozen? ⟨w1.heap.size + 1, o, none⟩ = _ := fun o => hb2.frozen (p := ⟨w1.heap.size + 1, o, none⟩) (by ((try simp only [World.size_alloc, World.size_setCell, World.size_drew, size_drewN]); omega))
      have z2_4 : w1.heap.size + 1 < w2.heap.size := (by omega)
      go_wp2_with fail
      refine (awake2_c _).mono ?_
      rintro e w3 ⟨rfl, hb3⟩
      have hs3 := hb3.size
      try simp only [World.size_alloc, World.size_setCell, World.size_drew, size_drewN] at hs3
      have hc3_0 : ∀ o, w3.cell? ⟨w.heap.size, o, none⟩ = _ := fun o => hb3.cell (p := ⟨w.heap.size, o, none⟩) (by ((try simp only [World.size_alloc, World.size_setCell, World.size_drew, size_drewN]); omega))
      have hf3_0 : ∀ o, w3.frozen? ⟨w.heap.size, o, none⟩ = _ := fun o => hb3.frozen (p := ⟨w.heap.size, o, none⟩) (by ((try simp only [World.size_alloc, World.size_setCell, World.size_drew, size_drewN]); omega))
      have z3_0 : w.heap.size < w3.heap.size := (by omega)
      have hc3_1 : ∀ o, w3.cell? ⟨w.heap.size + 1, o, none⟩ = _ := fun o => hb3.cell (p := ⟨w.heap.size + 1, o, none⟩) (by ((try simp only [World.size_alloc, World.size_setCell, World.size_drew, size_drewN]); omega))
      have hf3_1 : ∀ o, w3.frozen? ⟨w.heap.size + 1, o, none⟩ = _ := fun o => hb3.frozen (p := ⟨w.heap.size + 1, o, none⟩) (by ((try simp only [World.size_alloc, World.size_setCell, World.size_drew, size_drewN]); omega))
      have z3_1 : w.heap.size + 1 < w3.heap.size := (by omega)
      have hc3_2 : ∀ o, w3.cell? ⟨w.heap.size + 1 + 1, o, none⟩ = _ := fun o => hb3.cell (p := ⟨w.heap.size + 1 + 1, o, none⟩) (by ((try simp only [World.size_alloc, World.size_setCell, World.size_drew, size_drewN]); omega))
      have hf3_2 : ∀ o, w3.frozen? ⟨w.heap.size + 1 + 1, o, none⟩ = _ := fun o => hb3.frozen (p := ⟨w.heap.size + 1 + 1, o, none⟩) (by ((try simp only [World.size_alloc, World.size_setCell, World.size_drew, size_drewN]); omega))
      have z3_2 : w.heap.size + 1 + 1 < w3.heap.size := (by omega)
      have hc3_3 : ∀ o, w3.cell? ⟨w1.heap.size, o, none⟩ = _ := fun o => hb3.cell (p := ⟨w1.heap.size, o, none⟩) (by ((try simp only [World.size_alloc, World.size_setCell, World.size_drew, size_drewN]); omega))
      have hf3_3 : ∀ o, w3.frozen? ⟨w1.heap.size, o, none⟩ = _ := fun o => hb3.frozen (p := ⟨w1.heap.size, o, none⟩) (by ((try simp only [World.size_alloc, World.size_setCell, World.size_drew, size_drewN]); omega))
      have z3_3 : w1.heap.size < w3.heap.size := (by omega)
      have hc3_4 : ∀ o, w3.cell? ⟨w1.heap.size + 1, o, none⟩ = _ := fun o => hb3.cell (p := ⟨w1.heap.size + 1, o, none⟩) (by ((try simp only [World.size_alloc, World.size_setCell, World.size_drew, size_drewN]); omega))
      have hf3_4 : ∀ o, w3.frozen? ⟨w1.heap.size + 1, o, none⟩ = _ := fun o => hb3.frozen (p := ⟨w1.heap.size + 1, o, none⟩) (by ((try simp only [World.size_alloc, World.size_setCell, World.size_drew, size_drewN]); omega))
      have z3_4 : w1.heap.size + 1 < w3.heap.size := (by omega)
      have hc3_5 : ∀ o, w3.cell? ⟨w2.heap.size, o, none⟩ = _ := fun o => hb3.cell (p := ⟨w2.heap.size, o, none⟩) (by ((try simp only [World.size_alloc, World.size_setCell, World.size_drew, size_drewN]); omega))
      have hf3_5 : ∀ o, w3.frozen? ⟨w2.heap.size, o, none⟩ = _ := fun o => hb3.frozen (p := ⟨w2.heap.size, o, none⟩) (by ((try simp only [World.size_alloc, World.size_setCell, World.size_drew, size_drewN]); omega))
      have z3_5 : w2.heap.size < w3.heap.size := (by omega)
      have hc3_6 : ∀ o, w3.cell? ⟨w2.heap.size + 1, o, none⟩ = _ := fun o => hb3.cell (p := ⟨w2.heap.size + 1, o, none⟩) (by ((try simp only [World.size_alloc, World.size_setCell, World.size_drew, size_drewN]); omega))
      have hf3_6 : ∀ o, w3.frozen? ⟨w2.heap.size + 1, o, none⟩ = _ := fun o => hb3.frozen (p := ⟨w2.heap.size + 1, o, none⟩) (by ((try simp only [World.size_alloc, World.size_setCell, World.size_drew, size_drewN]); omega))
      have z3_6 : w2.heap.size + 1 < w3.heap.size := (by omega)
      go_wp2
      go_ret
      exact ⟨rfl, (by (repeat' (first | (with_reducible exact Below.refl _ _) | (with_reducible assumption) | (with_reducible refine Below.alloc ?_ ?_ _) | (with_reducible refine Below.drew ?_) | (with_reducible refine below_drewN ?_ _) | (with_reducible refine Below.setCell ?_ ?_ _) | (with_reducible refine below_step (by with_reducible assumption) ?_ ?_) | (first | (with_reducible exact Nat.le_refl _) | (with_reducible assumption) | omega | (simp only [World.size_alloc, World.size_setCell, World.size_drew, size_drewN]; omega) | (simp; omega) | (simp; done)))))⟩
    · have e0 : divE (hiV A B) C = 4 := by rw [divE, if_neg hz, if_neg hlt]
      have hzt' := zt_f hC hz
      clear hzt hz hlt hA hB hC
      go_enter Try.func7, Try.ntmps7
      go_wp2_with fail
      refine (mdmul_c HA.out HB.out _).mono ?_
      rintro e w1 ⟨rfl, hb1⟩
      have hs1 := hb1.size
      try simp only [World.size_alloc, World.size_setCell, World.size_drew, size_drewN] at hs1
      have hc1_0 : ∀ o, w1.cell? ⟨w.heap.size, o, none⟩ = _ := fun o => hb1.cell (p := ⟨w.heap.size, o, none⟩) (by ((try simp only [World.size_alloc, World.size_setCell, World.size_drew, size_drewN]); omega))
      have hf1_0 : ∀ o, w1.frozen? ⟨w.heap.size, o, none⟩ = _ := fun o => hb1.frozen (p := ⟨w.heap.size, o, none⟩) (by ((try simp only [World.size_alloc, World.size_setCell, World.size_drew, size_drewN]); omega))
      have z1_0 : w.heap.size < w1.heap.size := (by omega)
      have hc1_1 : ∀ o, w1.cell? ⟨w.heap.size + 1, o, none⟩ = _ := fun o => hb1.cell (p := ⟨w.heap.size + 1, o, none⟩) (by ((try simp only [World.size_alloc, World.size_setCell, World.size_drew, size_drewN]); omega))
      have hf1_1 : ∀ o, w1.frozen? ⟨w.heap.size + 1, o, none⟩ = _ := fun o => hb1.frozen (p := ⟨w.heap.size + 1, o, none⟩) (by ((try simp only [World.size_alloc, World.size_setCell, World.size_drew, size_drewN]); omega))
      have z1_1 : w.heap.size + 1 < w1.heap.size := (by omega)
      have hc1_2 : ∀ o, w1.cell? ⟨w.heap.size + 1 + 1, o, none⟩ = _ := fun o => hb1.cell (p := ⟨w.heap.size + 1 + 1, o, none⟩) (by ((try simp only [World.size_alloc, World.size_setCell, World.size_drew, size_drewN]); omega))
      have hf1_2 : ∀ o, w1.frozen? ⟨w.heap.size + 1 + 1, o, none⟩ = _ := fun o => hb1.frozen (p := ⟨w.heap.size + 1 + 1, o, none⟩) (by ((try simp only [World.size_alloc, World.size_setCell, World.size_drew, size_drewN]); omega))
      have z1_2 : w.heap.size + 1 + 1 < w1.heap.size := (by omega)
      go_wp2_with fail
      refine (div512_c HLo.out HHi.out HC.out _).mono ?_
      rintro e w2 ⟨rfl, hb2⟩
      have hs2 := hb2.size
      try simp only [World.size_alloc, World.size_setCell, World.size_drew, size_drewN] at hs2
      have hc2_0 : ∀ o, w2.cell? ⟨w.heap.size, o, none⟩ = _ := fun o => hb2.cell (p := ⟨w.heap.size, o, none⟩) (by ((try simp only [World.size_alloc, World.size_setCell, World.size_drew, size_drewN]); omega))
      have hf2_0 : ∀ o, w2.frozen? ⟨w.heap.size, o, none⟩ = _ := fun o => hb2.frozen (p := ⟨w.heap.size, o, none⟩) (by ((try simp only [World.size_alloc, World.size_setCell, World.size_drew, size_drewN]); omega))
      have z2_0 : w.heap.size < w2.heap.size := (by omega)
      have hc2_1 : ∀ o, w2.cell? ⟨w.heap.size + 1, o, none⟩ = _ := fun o => hb2.cell (p := ⟨w.heap.size + 1, o, none⟩) (by ((try simp only [World.size_alloc, World.size_setCell, World.size_drew, size_drewN]); omega))
      have hf2_1 : ∀ o, w2.frozen? ⟨w.heap.size + 1, o, none⟩ = _ := fun o => hb2.frozen (p := ⟨w.heap.size + 1, o, none⟩) (by ((try simp only [World.size_alloc, World.size_setCell, World.size_drew, size_drewN]); omega))
      have z2_1 : w.heap.size + 1 < w2.heap.size := (by omega)
      have hc2_2 : ∀ o, w2.cell? ⟨w.heap.size + 1 + 1, o, none⟩ = _ := fun o => hb2.cell (p := ⟨w.heap.size + 1 + 1, o, none⟩) (by ((try simp only [World.size_alloc, World.size_setCell, World.size_drew, size_drewN]); omega))
      have hf2_2 : ∀ o, w2.frozen? ⟨w.heap.size + 1 + 1, o, none⟩ = _ := fun o => hb2.frozen (p := ⟨w.heap.size + 1 + 1, o, none⟩) (by ((try simp only [World.size_alloc, World.size_setCell, World.size_drew, size_drewN]); omega))
      have z2_2 : w.heap.size + 1 + 1 < w2.heap.size := (by omega)
      have hc2_3 : ∀ o, w2.cell? ⟨w1.heap.size, o, none⟩ = _ := fun o => hb2.cell (p := ⟨w1.heap.size, o, none⟩) (by ((try simp only [World.size_alloc, World.size_setCell, World.size_drew, size_drewN]); omega))
      have hf2_3 : ∀ o, w2.frozen? ⟨w1.heap.size, o, none⟩ = _ := fun o => hb2.frozen (p := ⟨w1.heap.size, o, none⟩) (by ((try simp only [World.size_alloc, World.size_setCell, World.size_drew, size_drewN]); omega))
      have z2_3 : w1.heap.size < w2.heap.size := (by omega)
      have hc2_4 : ∀ o, w2.cell? ⟨w1.heap.size + 1, o, none⟩ = _ := fun o => hb2.cell (p := ⟨w1.heap.size + 1, o, none⟩) (by ((try simp only [World.size_alloc, World.size_setCell, World.size_drew, size_drewN]); omega))
      have hf2_4 : ∀ o, w2.frozen? ⟨w1.heap.size + 1, o, none⟩ = _ := fun o => hb2.frozen (p := ⟨w1.heap.size + 1, o, none⟩) (by ((try simp only [World.size_alloc, World.size_setCell, World.size_drew, size_drewN]); omega))
      have z2_4 : w1.heap.size + 1 < w2.heap.size := (by omega)
      go_wp2_with fail
      refine (awake2_c _).mono ?_
      rintro e w3 ⟨rfl, hb3⟩
      have hs3 := hb3.size
      try simp only [World.size_alloc, World.size_setCell, World.size_drew, size_drewN] at hs3
      have hc3_0 : ∀ o, w3.cell? ⟨w.heap.size, o, none⟩ = _ := fun o => hb3.cell (p := ⟨w.heap.size, o, none⟩) (by ((try simp only [World.size_alloc, World.size_setCell, World.size_drew, size_drewN]); omega))
      have hf3_0 : ∀ o, w3.frozen? ⟨w.heap.size, o, none⟩ = _ := fun o => hb3.frozen (p := ⟨w.heap.size, o, none⟩) (by ((try simp only [World.size_alloc, World.size_setCell, World.size_drew, size_drewN]); omega))
      have z3_0 : w.heap.size < w3.heap.size := (by omega)
      have hc3_1 : ∀ o, w3.cell? ⟨w.heap.size + 1, o, none⟩ = _ := fun o => hb3.cell (p := ⟨w.heap.size + 1, o, none⟩) (by ((try simp only [World.size_alloc, World.size_setCell, World.size_drew, size_drewN]); omega))
      have hf3_1 : ∀ o, w3.frozen? ⟨w.heap.size + 1, o, none⟩ = _ := fun o => hb3.frozen (p := ⟨w.heap.size + 1, o, none⟩) (by ((try simp only [World.size_alloc, World.size_setCell, World.size_drew, size_drewN]); omega))
      have z3_1 : w.heap.size + 1 < w3.heap.size := (by omega)
      have hc3_2 : ∀ o, w3.cell? ⟨w.heap.size + 1 + 1, o, none⟩ = _ := fun o => hb3.cell (p := ⟨w.heap.size + 1 + 1, o, none⟩) (by ((try simp only [World.size_alloc, World.size_setCell, World.size_drew, size_drewN]); omega))
      have hf3_2 : ∀ o, w3.frozen? ⟨w.heap.size + 1 + 1, o, none⟩ = _ := fun o => hb3.frozen (p := ⟨w.heap.size + 1 + 1, o, none⟩) (by ((try simp only [World.size_alloc, World.size_setCell, World.size_drew, size_drewN]); omega))
      have z3_2 : w.heap.size + 1 + 1 < w3.heap.size := (by omega)
      have hc3_3 : ∀ o, w3.cell? ⟨w1.heap.size, o, none⟩ = _ := fun o => hb3.cell (p := ⟨w1.heap.size, o, none⟩) (by ((try simp only [World.size_alloc, World.size_setCell, World.size_drew, size_drewN]); omega))
      have hf3_3 : ∀ o, w3.frozen? ⟨w1.heap.size, o, none⟩ = _ := fun o => hb3.frozen (p := ⟨w1.heap.size, o, none⟩) (by ((try simp only [World.size_alloc, World.size_setCell, World.size_drew, size_drewN]); omega))
      have z3_3 : w1.heap.size < w3.heap.size := (by omega)
      have hc3_4 : ∀ o, w3.cell? ⟨w1.heap.size + 1, o, none⟩ = _ := fun o => hb3.cell (p := ⟨w1.heap.size + 1, o, none⟩) (by ((try simp only [World.size_alloc, World.size_setCell, World.size_drew, size_drewN]); omega))
      have hf3_4 : ∀ o, w3.frozen? ⟨w1.heap.size + 1, o, none⟩ = _ := fun o => hb3.frozen (p := ⟨w1.heap.size + 1, o, none⟩) (by ((try simp only [World.size_alloc, World.size_setCell, World.size_drew, size_drewN]); omega))
      have z3_4 : w1.heap.size + 1 < w3.heap.size := (by omega)
      have hc3_5 : ∀ o, w3.cell? ⟨w2.heap.size, o, none⟩ = _ := fun o => hb3.cell (p := ⟨w2.heap.size, o, none⟩) (by ((try simp only [World.size_alloc, World.size_setCell, World.size_drew, size_drewN]); omega))
      have hf3_5 : ∀ o, w3.frozen? ⟨w2.heap.size, o, none⟩ = _ := fun o => hb3.frozen (p := ⟨w2.heap.size, o, none⟩) (by ((try simp only [World.size_alloc, World.size_setCell, World.size_drew, size_drewN]); omega))
      have z3_5 : w2.heap.size < w3.heap.size := (by omega)
      have hc3_6 : ∀ o, w3.cell? ⟨w2.heap.size + 1, o, none⟩ = _ := fun o => hb3.cell (p := ⟨w2.heap.size + 1, o, none⟩) (by ((try simp only [World.size_alloc, World.size_setCell, World.size_drew, size_drewN]); omega))
      have hf3_6 : ∀ o, w3.frozen? ⟨w2.heap.size + 1, o, none⟩ = _ := fun o => hb3.frozen (p := ⟨w2.heap.size + 1, o, none⟩) (by ((try simp only [World.size_alloc, World.size_setCell, World.size_drew, size_drewN]); omega))
      have z3_6 : w2.heap.size + 1 < w3.heap.size := (by omega)
      go_wp2
      go_ret
      exact ⟨rfl, (by (repeat' (first | (with_reducible exact Below.refl _ _) | (with_reducible assumption) | (with_reducible refine Below.alloc ?_ ?_ _) | (with_reducible refine Below.drew ?_) | (with_reducible refine below_drewN ?_ _) | (with_reducible refine Below.setCell ?_ ?_ _) | (with_reducible refine below_step (by with_reducible assumption) ?_ ?_) | (first | (with_reducible exact Nat.le_refl _) | (with_reducible assumption) | omega | (simp only [World.size_alloc, World.size_setCell, World.size_drew, size_drewN]; omega) | (simp; omega) | (simp; done)))))⟩
end Go.Proofs.Ytjgodkpeapeflaa
