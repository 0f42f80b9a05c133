/- muldiv.Div512, DivMod, MulDivFloor, MulDivCeil. -/
import Derived.WalkKit
import Derived.KernelRfl
import Derived.RowKit3
import Derived.Deep.LoopGhost
import Derived.Deep.QuietTactic
import Derived.BigQuiet
import Derived.WideLaws
import Derived.Laws.Rows
import Derived.Below
import Derived.Deep.Draws
import Derived.Outline
import Derived.LoopN
import Derived.Handy
import Derived.Laws.Externs
import Derived.Laws.BitsAllLaws
import Derived.Laws.BitsLemmas
import Derived.Deep.DeepCutAuto
import Derived.Deep.CutBlock
import Derived.Deep.RegionHeld3
import Derived.Test.YtkneiobohhhcpaaV
import Derived.Test.YtkneiobohhhcpaaD2
namespace Go.Proofs.Ytkneiobohhhcpaa
open Go.RowKit
set_option linter.unusedVariables false
set_option linter.unusedSimpArgs false
theorem divQ_lt {L H C : Nat} (hL : L < M256) : divQ L H C < M256 := by
  unfold divQ
  split
  · rename_i h
    have h3 : M256 * H + M256 ≤ M256 * C := by rw [← Nat.mul_succ]; exact Nat.mul_le_mul_left _ h
    exact Nat.div_lt_of_lt_mul (by rw [Nat.mul_comm C]; omega)
  · decide
theorem divR_lt {L H C : Nat} (hC : C < M256) : divR L H C < M256 := by
  unfold divR
  split
  · rename_i h
    have := Nat.mod_lt (L + M256 * H) (show C > 0 by omega)
    omega
  · decide
set_option maxHeartbeats 4000000 in
theorem div512_c {L H C : Nat} {l0 l1 l2 l3 h0 h1 h2 h3 c0 c1 c2 c3 : Int} (uL : isU L l0 l1 l2 l3) (uH : isU H h0 h1 h2 h3) (uC : isU C c0 c1 c2 c3) (w : World) :
    Calls Try.prog 61 #[.agg #[.int .u64 l0, .int .u64 l1, .int .u64 l2, .int .u64 l3], .agg #[.int .u64 h0, .int .u64 h1, .int .u64 h2, .int .u64 h3], .agg #[.int .u64 c0, .int .u64 c1, .int .u64 c2, .int .u64 c3]] w fun e w' => e = .returned (.tuple #[.agg #[.int .u64 (lim (divQ L H C) 0), .int .u64 (lim (divQ L H C) 1), .int .u64 (lim (divQ L H C) 2), .int .u64 (lim (divQ L H C) 3)], .agg #[.int .u64 (lim (divR L H C) 0), .int .u64 (lim (divR L H C) 1), .int .u64 (lim (divR L H C) 2), .int .u64 (lim (divR L H C) 3)], .int .i64 (divE H C)]) ∧ Below w.heap.size w w' := by
  have hL := uL.lt
  have hH := uH.lt
  have hC := uC.lt
  obtain ⟨rfl, rfl, rfl, rfl⟩ := uL.lims
  obtain ⟨rfl, rfl, rfl, rfl⟩ := uH.lims
  obtain ⟨rfl, rfl, rfl, rfl⟩ := uC.lims
  clear uL uH uC
  by_cases hlt : H < C
  · rw [divQ, divR, divE, if_pos hlt, if_pos hlt, if_pos hlt, if_neg (by omega)]
    exact div512_in hL hH hC hlt w
  · rw [divQ, divR, divE, if_neg hlt, if_neg hlt, if_neg hlt, lim_zero, lim_zero, lim_zero, lim_zero]
    by_cases hz : C = 0
    · have hz' : (lim C 0 == 0 && (lim C 1 == 0 && (lim C 2 == 0 && lim C 3 == 0))) = true := by rw [zero_test hC]; simp; omega
      rw [if_pos hz]
      clear hz hlt
      go_enter Try.func61, Try.ntmps61
      go_wp2
      go_returns
      exact ⟨rfl, (by (repeat' (first | (with_reducible exact Below.refl _ _) | (with_reducible assumption) | (with_reducible refine Below.alloc ?_ ?_ _) | (with_reducible refine Below.drew ?_) | (with_reducible refine below_drewN ?_ _) | (with_reducible refine Below.setCell ?_ ?_ _) | (with_reducible refine below_step (by with_reducible assumption) ?_ ?_) | (first | (with_reducible exact Nat.le_refl _) | (with_reducible assumption) | omega | (simp only [World.size_alloc, World.size_setCell, World.size_drew, size_drewN]; omega) | (simp; omega) | (simp; done)))))⟩
    · have hz' : (lim C 0 == 0 && (lim C 1 == 0 && (lim C 2 == 0 && lim C 3 == 0))) = false := by rw [zero_test hC]; simp; omega
      rw [if_neg hz]
      obtain ⟨z, hcm, hz0⟩ : ∃ z, cmpV H C = z ∧ 0 ≤ z := ⟨_, rfl, by rw [cmpV, if_neg hlt]; split <;> decide⟩
      have HH := hide (isU_lim hH)
      have HC := hide (isU_lim hC)
      clear hz hlt
      go_enter Try.func61, Try.ntmps61
      go_wp2_with fail
      refine (cmp_c HH.out HC.out _).mono ?_
      rintro e w1 ⟨rfl, hb1⟩
      have hs1 := hb1.size
      try simp only [World.size_alloc, World.size_setCell, World.size_drew, size_drewN] at hs1
      have hc1_0 : ∀ o, w1.cell? ⟨w.heap.size, o, none⟩ = _ := fun o => hb1.cell (p := ⟨w.heap.size, o, none⟩) (by ((try simp only [World.size_alloc, World.size_setCell, World.size_drew, size_drewN]); omega))
      have hf1_0 : ∀ o, w1.frozen? ⟨w.heap.size, o, none⟩ = _ := fun o => hb1.frozen (p := ⟨w.heap.size, o, none⟩) (by ((try simp only [World.size_alloc, World.size_setCell, World.size_drew, size_drewN]); omega))
      have z1_0 : w.heap.size < w1.heap.size := (by omega)
      have hc1_1 : ∀ o, w1.cell? ⟨w.heap.size + 1, o, none⟩ = _ := fun o => hb1.cell (p := ⟨w.heap.size + 1, o, none⟩) (by ((try simp only [World.size_alloc, World.size_setCell, World.size_drew, size_drewN]); omega))
      have hf1_1 : ∀ o, w1.frozen? ⟨w.heap.size + 1, o, none⟩ = _ := fun o => hb1.frozen (p := ⟨w.heap.size + 1, o, none⟩) (by ((try simp only [World.size_alloc, World.size_setCell, World.size_drew, size_drewN]); omega))
      have z1_1 : w.heap.size + 1 < w1.heap.size := (by omega)
      have hc1_2 : ∀ o, w1.cell? ⟨w.heap.size + 1 + 1, o, none⟩ = _ := fun o => hb1.cell (p := ⟨w.heap.size + 1 + 1, o, none⟩) (by ((try simp only [World.size_alloc, World.size_setCell, World.size_drew, size_drewN]); omega))
      have hf1_2 : ∀ o, w1.frozen? ⟨w.heap.size + 1 + 1, o, none⟩ = _ := fun o => hb1.frozen (p := ⟨w.heap.size + 1 + 1, o, none⟩) (by ((try simp only [World.size_alloc, World.size_setCell, World.size_drew, size_drewN]); omega))
      have z1_2 : w.heap.size + 1 + 1 < w1.heap.size := (by omega)
      have hc1_3 : ∀ o, w1.cell? ⟨w.heap.size + 1 + 1 + 1, o, none⟩ = _ := fun o => hb1.cell (p := ⟨w.heap.size + 1 + 1 + 1, o, none⟩) (by ((try simp only [World.size_alloc, World.size_setCell, World.size_drew, size_drewN]); omega))
      have hf1_3 : ∀ o, w1.frozen? ⟨w.heap.size + 1 + 1 + 1, o, none⟩ = _ := fun o => hb1.frozen (p := ⟨w.heap.size + 1 + 1 + 1, o, none⟩) (by ((try simp only [World.size_alloc, World.size_setCell, World.size_drew, size_drewN]); omega))
      have z1_3 : w.heap.size + 1 + 1 + 1 < w1.heap.size := (by omega)
      have hc1_4 : ∀ o, w1.cell? ⟨w.heap.size + 1 + 1 + 1 + 1, o, none⟩ = _ := fun o => hb1.cell (p := ⟨w.heap.size + 1 + 1 + 1 + 1, o, none⟩) (by ((try simp only [World.size_alloc, World.size_setCell, World.size_drew, size_drewN]); omega))
      have hf1_4 : ∀ o, w1.frozen? ⟨w.heap.size + 1 + 1 + 1 + 1, o, none⟩ = _ := fun o => hb1.frozen (p := ⟨w.heap.size + 1 + 1 + 1 + 1, o, none⟩) (by ((try simp only [World.size_alloc, World.size_setCell, World.size_drew, size_drewN]); omega))
      have z1_4 : w.heap.size + 1 + 1 + 1 + 1 < w1.heap.size := (by omega)
      go_wp2
      refine bodyPost_ret (v := .tuple #[.agg #[.int .u64 0, .int .u64 0, .int .u64 0, .int .u64 0], .agg #[.int .u64 0, .int .u64 0, .int .u64 0, .int .u64 0], .int .i64 4]) (by simp [results, Try.results61, go_sem, hc1_3, hc1_4, hf1_3, hf1_4]) rfl ?_
      exact ⟨rfl, (by (repeat' (first | (with_reducible exact Below.refl _ _) | (with_reducible assumption) | (with_reducible refine Below.alloc ?_ ?_ _) | (with_reducible refine Below.drew ?_) | (with_reducible refine below_drewN ?_ _) | (with_reducible refine Below.setCell ?_ ?_ _) | (with_reducible refine below_step (by with_reducible assumption) ?_ ?_) | (first | (with_reducible exact Nat.le_refl _) | (with_reducible assumption) | omega | (simp only [World.size_alloc, World.size_setCell, World.size_drew, size_drewN]; omega) | (simp; omega) | (simp; done)))))⟩
end Go.Proofs.Ytkneiobohhhcpaa
