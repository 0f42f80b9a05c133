/- Chapter 5: BipsSplitSum, walked. -/
import Derived.WalkKit
import Derived.KernelRfl
import Derived.RowKit3
import Derived.Deep.LoopGhost
import Derived.Deep.QuietTactic
import Derived.BigQuiet
import Derived.WideLaws
import Derived.Laws.Rows
import Derived.Below
import Derived.Deep.Draws
import Derived.Outline
import Derived.LoopN
import Derived.Handy
import Derived.Laws.Externs
import Derived.Laws.BitsAllLaws
import Derived.Laws.BitsLemmas
import Derived.Deep.DeepCutAuto
import Derived.Deep.CutBlock
import Derived.Deep.RegionHeld3
import Derived.Test.YteehlkdhgjdpaaaE2
namespace Go.Proofs.Yteehlkdhgjdpaaa
open Go.RowKit
set_option linter.unusedVariables false
set_option linter.unusedSimpArgs false
set_option maxHeartbeats 8000000 in
theorem BipsSplitSum_walk (a0 a1 a2 a3 b c : Int) (w0 : (Lit.int .u64 a0).wf = true) (w1 : (Lit.int .u64 a1).wf = true) (w2 : (Lit.int .u64 a2).wf = true) (w3 : (Lit.int .u64 a3).wf = true) (w4 : (Lit.int .u64 b).wf = true) (w5 : (Lit.int .u64 c).wf = true) (w : World) :
    Calls Try.prog 6 #[.agg #[.int .u64 a0, .int .u64 a1, .int .u64 a2, .int .u64 a3], .int .u64 b, .int .u64 c] w fun e w' => e = .returned (.bool true) ∧ Below w.heap.size w w' := by
  obtain ⟨A, hA, rfl, rfl, rfl, rfl⟩ := isU_wf w0 w1 w2 w3
  obtain ⟨p1, q1⟩ := bounds_u64 w4
  obtain ⟨p2, q2⟩ := bounds_u64 w5
  clear w0 w1 w2 w3 w4 w5
  have l0 := lim_zero 0
  have l1 := lim_zero 1
  have l2 := lim_zero 2
  have l3 := lim_zero 3
  have HA := hide (isU_lim hA)
  obtain ⟨X, e1, x0, x1⟩ := tmod_ex (x := b) (K := 10001) p1 (by omega)
  obtain ⟨Y, e2, y0, y1⟩ := tmod_ex (x := c) (K := 10001) p2 (by omega)
  obtain ⟨t1, t2, t3, t4⟩ := sp_facts hA (b := 10000) (by omega) (by omega)
  have t5 : spV A 10000 = A := by rw [t2]; exact Nat.mul_div_cancel _ (by omega)
  have t6 : spR A 10000 = 0 := by rw [t4, t5]; omega
  clear t2 t3 t4
  by_cases hx : X > Y
  · have hxy : Y < X := hx
    obtain ⟨u1, u2, u3, u4⟩ := sp_facts hA (b := Y) (by omega) (by omega)
    obtain ⟨v1, v2, v3, v4⟩ := sp_facts hA (b := X) (by omega) (by omega)
    have hm : spV A Y ≤ spV A X := by rw [u2, v2]; exact sp_mono (by omega)
    obtain ⟨P, hP⟩ : ∃ P, spV A Y = P := ⟨_, rfl⟩
    obtain ⟨R, hR⟩ : ∃ R, spV A X = R := ⟨_, rfl⟩
    obtain ⟨Q, hQ⟩ : ∃ Q, spR A Y = Q := ⟨_, rfl⟩
    rw [hP] at u2 u3 u4 hm
    rw [hR] at v2 v3 v4 hm
    rw [hQ] at u4
    have k1 : addV P Q = A := by rw [addV, if_pos (by omega)]; omega
    have k2 : addE P Q = 0 := by rw [addE, if_pos (by omega)]
    obtain ⟨z, hz, hz0⟩ : ∃ z, cmpV P R = z ∧ z ≤ 0 := by
      refine ⟨_, rfl, ?_⟩
      rw [cmpV]
      split
      · decide
      · rw [if_neg (by omega)]; decide
    have HP := hide (isU_lim (show P < M256 by omega))
    have HQ := hide (isU_lim (show Q < M256 by omega))
    have HR := hide (isU_lim (show R < M256 by omega))
    have H1 := hide (fun w => split_c (isU_lim hA) (b := Y) (by omega) (by omega) w)
    have H2 := hide (fun w => split_c (isU_lim hA) (b := X) (by omega) (by omega) w)
    have H3 := hide (fun w => split_c (isU_lim hA) (b := 10000) (by omega) (by omega) w)
    clear hx x0 x1 y0 y1 p1 p2 q1 q2 u2 u3 u4 v2 v3 v4 hm hA
    go_enter Try.func6, Try.ntmps6
    go_wp2_with fail
    refine (H1.out _).mono ?_
    rintro e w1 ⟨rfl, hb1⟩
    have hs1 := hb1.size
    try simp only [World.size_alloc, World.size_setCell, World.size_drew, size_drewN] at hs1
    have hc1_0 : ∀ o, w1.cell? ⟨w.heap.size, o, none⟩ = _ := fun o => hb1.cell (p := ⟨w.heap.size, o, none⟩) (by ((try simp only [World.size_alloc, World.size_setCell, World.size_drew, size_drewN]); omega))
    have hf1_0 : ∀ o, w1.frozen? ⟨w.heap.size, o, none⟩ = _ := fun o => hb1.frozen (p := ⟨w.heap.size, o, none⟩) (by ((try simp only [World.size_alloc, World.size_setCell, World.size_drew, size_drewN]); omega))
    have z1_0 : w.heap.size < w1.heap.size := (by omega)
    go_wp2_with fail
    refine (H2.out _).mono ?_
    rintro e w2 ⟨rfl, hb2⟩
    have hs2 := hb2.size
    try simp only [World.size_alloc, World.size_setCell, World.size_drew, size_drewN] at hs2
    have hc2_0 : ∀ o, w2.cell? ⟨w.heap.size, o, none⟩ = _ := fun o => hb2.cell (p := ⟨w.heap.size, o, none⟩) (by ((try simp only [World.size_alloc, World.size_setCell, World.size_drew, size_drewN]); omega))
    have hf2_0 : ∀ o, w2.frozen? ⟨w.heap.size, o, none⟩ = _ := fun o => hb2.frozen (p := ⟨w.heap.size, o, none⟩) (by ((try simp only [World.size_alloc, World.size_setCell, World.size_drew, size_drewN]); omega))
    have z2_0 : w.heap.size < w2.heap.size := (by omega)
    have hc2_1 : ∀ o, w2.cell? ⟨w1.heap.size, o, none⟩ = _ := fun o => hb2.cell (p := ⟨w1.heap.size, o, none⟩) (by ((try simp only [World.size_alloc, World.size_setCell, World.size_drew, size_drewN]); omega))
    have hf2_1 : ∀ o, w2.frozen? ⟨w1.heap.size, o, none⟩ = _ := fun o => hb2.frozen (p := ⟨w1.heap.size, o, none⟩) (by ((try simp only [World.size_alloc, World.size_setCell, World.size_drew, size_drewN]); omega))
    have z2_1 : w1.heap.size < w2.heap.size := (by omega)
    have hc2_2 : ∀ o, w2.cell? ⟨w1.heap.size + 1, o, none⟩ = _ := fun o => hb2.cell (p := ⟨w1.heap.size + 1, o, none⟩) (by ((try simp only [World.size_alloc, World.size_setCell, World.size_drew, size_drewN]); omega))
    have hf2_2 : ∀ o, w2.frozen? ⟨w1.heap.size + 1, o, none⟩ = _ := fun o => hb2.frozen (p := ⟨w1.heap.size + 1, o, none⟩) (by ((try simp only [World.size_alloc, World.size_setCell, World.size_drew, size_drewN]); omega))
    have z2_2 : w1.heap.size + 1 < w2.heap.size := (by omega)
    go_wp2_with fail
    refine (add_c HP.out HQ.out _).mono ?_
    rintro e w3 ⟨rfl, hb3⟩
    have hs3 := hb3.size
    try simp only [World.size_alloc, World.size_setCell, World.size_drew, size_drewN] at hs3
    have hc3_0 : ∀ o, w3.cell? ⟨w.heap.size, o, none⟩ = _ := fun o => hb3.cell (p := ⟨w.heap.size, o, none⟩) (by ((try simp only [World.size_alloc, World.size_setCell, World.size_drew, size_drewN]); omega))
    have hf3_0 : ∀ o, w3.frozen? ⟨w.heap.size, o, none⟩ = _ := fun o => hb3.frozen (p := ⟨w.heap.size, o, none⟩) (by ((try simp only [World.size_alloc, World.size_setCell, World.size_drew, size_drewN]); omega))
    have z3_0 : w.heap.size < w3.heap.size := (by omega)
    have hc3_1 : ∀ o, w3.cell? ⟨w1.heap.size, o, none⟩ = _ := fun o => hb3.cell (p := ⟨w1.heap.size, o, none⟩) (by ((try simp only [World.size_alloc, World.size_setCell, World.size_drew, size_drewN]); omega))
    have hf3_1 : ∀ o, w3.frozen? ⟨w1.heap.size, o, none⟩ = _ := fun o => hb3.frozen (p := ⟨w1.heap.size, o, none⟩) (by ((try simp only [World.size_alloc, World.size_setCell, World.size_drew, size_drewN]); omega))
    have z3_1 : w1.heap.size < w3.heap.size := (by omega)
    have hc3_2 : ∀ o, w3.cell? ⟨w1.heap.size + 1, o, none⟩ = _ := fun o => hb3.cell (p := ⟨w1.heap.size + 1, o, none⟩) (by ((try simp only [World.size_alloc, World.size_setCell, World.size_drew, size_drewN]); omega))
    have hf3_2 : ∀ o, w3.frozen? ⟨w1.heap.size + 1, o, none⟩ = _ := fun o => hb3.frozen (p := ⟨w1.heap.size + 1, o, none⟩) (by ((try simp only [World.size_alloc, World.size_setCell, World.size_drew, size_drewN]); omega))
    have z3_2 : w1.heap.size + 1 < w3.heap.size := (by omega)
    have hc3_3 : ∀ o, w3.cell? ⟨w2.heap.size, o, none⟩ = _ := fun o => hb3.cell (p := ⟨w2.heap.size, o, none⟩) (by ((try simp only [World.size_alloc, World.size_setCell, World.size_drew, size_drewN]); omega))
    have hf3_3 : ∀ o, w3.frozen? ⟨w2.heap.size, o, none⟩ = _ := fun o => hb3.frozen (p := ⟨w2.heap.size, o, none⟩) (by ((try simp only [World.size_alloc, World.size_setCell, World.size_drew, size_drewN]); omega))
    have z3_3 : w2.heap.size < w3.heap.size := (by omega)
    have hc3_4 : ∀ o, w3.cell? ⟨w2.heap.size + 1, o, none⟩ = _ := fun o => hb3.cell (p := ⟨w2.heap.size + 1, o, none⟩) (by ((try simp only [World.size_alloc, World.size_setCell, World.size_drew, size_drewN]); omega))
    have hf3_4 : ∀ o, w3.frozen? ⟨w2.heap.size + 1, o, none⟩ = _ := fun o => hb3.frozen (p := ⟨w2.heap.size + 1, o, none⟩) (by ((try simp only [World.size_alloc, World.size_setCell, World.size_drew, size_drewN]); omega))
    have z3_4 : w2.heap.size + 1 < w3.heap.size := (by omega)
    go_wp2_with fail
    refine (H3.out _).mono ?_
    rintro e w4 ⟨rfl, hb4⟩
    have hs4 := hb4.size
    try simp only [World.size_alloc, World.size_setCell, World.size_drew, size_drewN] at hs4
    have hc4_0 : ∀ o, w4.cell? ⟨w.heap.size, o, none⟩ = _ := fun o => hb4.cell (p := ⟨w.heap.size, o, none⟩) (by ((try simp only [World.size_alloc, World.size_setCell, World.size_drew, size_drewN]); omega))
    have hf4_0 : ∀ o, w4.frozen? ⟨w.heap.size, o, none⟩ = _ := fun o => hb4.frozen (p := ⟨w.heap.size, o, none⟩) (by ((try simp only [World.size_alloc, World.size_setCell, World.size_drew, size_drewN]); omega))
    have z4_0 : w.heap.size < w4.heap.size := (by omega)
    have hc4_1 : ∀ o, w4.cell? ⟨w1.heap.size, o, none⟩ = _ := fun o => hb4.cell (p := ⟨w1.heap.size, o, none⟩) (by ((try simp only [World.size_alloc, World.size_setCell, World.size_drew, size_drewN]); omega))
    have hf4_1 : ∀ o, w4.frozen? ⟨w1.heap.size, o, none⟩ = _ := fun o => hb4.frozen (p := ⟨w1.heap.size, o, none⟩) (by ((try simp only [World.size_alloc, World.size_setCell, World.size_drew, size_drewN]); omega))
    have z4_1 : w1.heap.size < w4.heap.size := (by omega)
    have hc4_2 : ∀ o, w4.cell? ⟨w1.heap.size + 1, o, none⟩ = _ := fun o => hb4.cell (p := ⟨w1.heap.size + 1, o, none⟩) (by ((try simp only [World.size_alloc, World.size_setCell, World.size_drew, size_drewN]); omega))
    have hf4_2 : ∀ o, w4.frozen? ⟨w1.heap.size + 1, o, none⟩ = _ := fun o => hb4.frozen (p := ⟨w1.heap.size + 1, o, none⟩) (by ((try simp only [World.size_alloc, World.size_setCell, World.size_drew, size_drewN]); omega))
    have z4_2 : w1.heap.size + 1 < w4.heap.size := (by omega)
    have hc4_3 : ∀ o, w4.cell? ⟨w2.heap.size, o, none⟩ = _ := fun o => hb4.cell (p := ⟨w2.heap.size, o, none⟩) (by ((try simp only [World.size_alloc, World.size_setCell, World.size_drew, size_drewN]); omega))
    have hf4_3 : ∀ o, w4.frozen? ⟨w2.heap.size, o, none⟩ = _ := fun o => hb4.frozen (p := ⟨w2.heap.size, o, none⟩) (by ((try simp only [World.size_alloc, World.size_setCell, World.size_drew, size_drewN]); omega))
    have z4_3 : w2.heap.size < w4.heap.size := (by omega)
    have hc4_4 : ∀ o, w4.cell? ⟨w2.heap.size + 1, o, none⟩ = _ := fun o => hb4.cell (p := ⟨w2.heap.size + 1, o, none⟩) (by ((try simp only [World.size_alloc, World.size_setCell, World.size_drew, size_drewN]); omega))
    have hf4_4 : ∀ o, w4.frozen? ⟨w2.heap.size + 1, o, none⟩ = _ := fun o => hb4.frozen (p := ⟨w2.heap.size + 1, o, none⟩) (by ((try simp only [World.size_alloc, World.size_setCell, World.size_drew, size_drewN]); omega))
    have z4_4 : w2.heap.size + 1 < w4.heap.size := (by omega)
    have hc4_5 : ∀ o, w4.cell? ⟨w3.heap.size, o, none⟩ = _ := fun o => hb4.cell (p := ⟨w3.heap.size, o, none⟩) (by ((try simp only [World.size_alloc, World.size_setCell, World.size_drew, size_drewN]); omega))
    have hf4_5 : ∀ o, w4.frozen? ⟨w3.heap.size, o, none⟩ = _ := fun o => hb4.frozen (p := ⟨w3.heap.size, o, none⟩) (by ((try simp only [World.size_alloc, World.size_setCell, World.size_drew, size_drewN]); omega))
    have z4_5 : w3.heap.size < w4.heap.size := (by omega)
    go_wp2_with fail
    refine (cmp_c HP.out HR.out _).mono ?_
    rintro e w5 ⟨rfl, hb5⟩
    have hs5 := hb5.size
    try simp only [World.size_alloc, World.size_setCell, World.size_drew, size_drewN] at hs5
    have hc5_0 : ∀ o, w5.cell? ⟨w.heap.size, o, none⟩ = _ := fun o => hb5.cell (p := ⟨w.heap.size, o, none⟩) (by ((try simp only [World.size_alloc, World.size_setCell, World.size_drew, size_drewN]); omega))
    have hf5_0 : ∀ o, w5.frozen? ⟨w.heap.size, o, none⟩ = _ := fun o => hb5.frozen (p := ⟨w.heap.size, o, none⟩) (by ((try simp only [World.size_alloc, World.size_setCell, World.size_drew, size_drewN]); omega))
    have z5_0 : w.heap.size < w5.heap.size := (by omega)
    have hc5_1 : ∀ o, w5.cell? ⟨w1.heap.size, o, none⟩ = _ := fun o => hb5.cell (p := ⟨w1.heap.size, o, none⟩) (by ((try simp only [World.size_alloc, World.size_setCell, World.size_drew, size_drewN]); omega))
    have hf5_1 : ∀ o, w5.frozen? ⟨w1.heap.size, o, none⟩ = _ := fun o => hb5.frozen (p := ⟨w1.heap.size, o, none⟩) (by ((try simp only [World.size_alloc, World.size_setCell, World.size_drew, size_drewN]); omega))
    have z5_1 : w1.heap.size < w5.heap.size := (by omega)
    have hc5_2 : ∀ o, w5.cell? ⟨w1.heap.size + 1, o, none⟩ = _ := fun o => hb5.cell (p := ⟨w1.heap.size + 1, o, none⟩) (by ((try simp only [World.size_alloc, World.size_setCell, World.size_drew, size_drewN]); omega))
    have hf5_2 : ∀ o, w5.frozen? ⟨w1.heap.size + 1, o, none⟩ = _ := fun o => hb5.frozen (p := ⟨w1.heap.size + 1, o, none⟩) (by ((try simp only [World.size_alloc, World.size_setCell, World.size_drew, size_drewN]); omega))
    have z5_2 : w1.heap.size + 1 < w5.heap.size := (by omega)
    have hc5_3 : ∀ o, w5.cell? ⟨w2.heap.size, o, none⟩ = _ := fun o => hb5.cell (p := ⟨w2.heap.size, o, none⟩) (by ((try simp only [World.size_alloc, World.size_setCell, World.size_drew, size_drewN]); omega))
    have hf5_3 : ∀ o, w5.frozen? ⟨w2.heap.size, o, none⟩ = _ := fun o => hb5.frozen (p := ⟨w2.heap.size, o, none⟩) (by ((try simp only [World.size_alloc, World.size_setCell, World.size_drew, size_drewN]); omega))
    have z5_3 : w2.heap.size < w5.heap.size := (by omega)
    have hc5_4 : ∀ o, w5.cell? ⟨w2.heap.size + 1, o, none⟩ = _ := fun o => hb5.cell (p := ⟨w2.heap.size + 1, o, none⟩) (by ((try simp only [World.size_alloc, World.size_setCell, World.size_drew, size_drewN]); omega))
    have hf5_4 : ∀ o, w5.frozen? ⟨w2.heap.size + 1, o, none⟩ = _ := fun o => hb5.frozen (p := ⟨w2.heap.size + 1, o, none⟩) (by ((try simp only [World.size_alloc, World.size_setCell, World.size_drew, size_drewN]); omega))
    have z5_4 : w2.heap.size + 1 < w5.heap.size := (by omega)
    have hc5_5 : ∀ o, w5.cell? ⟨w3.heap.size, o, none⟩ = _ := fun o => hb5.cell (p := ⟨w3.heap.size, o, none⟩) (by ((try simp only [World.size_alloc, World.size_setCell, World.size_drew, size_drewN]); omega))
    have hf5_5 : ∀ o, w5.frozen? ⟨w3.heap.size, o, none⟩ = _ := fun o => hb5.frozen (p := ⟨w3.heap.size, o, none⟩) (by ((try simp only [World.size_alloc, World.size_setCell, World.size_drew, size_drewN]); omega))
    have z5_5 : w3.heap.size < w5.heap.size := (by omega)
    have hc5_6 : ∀ o, w5.cell? ⟨w4.heap.size, o, none⟩ = _ := fun o => hb5.cell (p := ⟨w4.heap.size, o, none⟩) (by ((try simp only [World.size_alloc, World.size_setCell, World.size_drew, size_drewN]); omega))
    have hf5_6 : ∀ o, w5.frozen? ⟨w4.heap.size, o, none⟩ = _ := fun o => hb5.frozen (p := ⟨w4.heap.size, o, none⟩) (by ((try simp only [World.size_alloc, World.size_setCell, World.size_drew, size_drewN]); omega))
    have z5_6 : w4.heap.size < w5.heap.size := (by omega)
    have hc5_7 : ∀ o, w5.cell? ⟨w4.heap.size + 1, o, none⟩ = _ := fun o => hb5.cell (p := ⟨w4.heap.size + 1, o, none⟩) (by ((try simp only [World.size_alloc, World.size_setCell, World.size_drew, size_drewN]); omega))
    have hf5_7 : ∀ o, w5.frozen? ⟨w4.heap.size + 1, o, none⟩ = _ := fun o => hb5.frozen (p := ⟨w4.heap.size + 1, o, none⟩) (by ((try simp only [World.size_alloc, World.size_setCell, World.size_drew, size_drewN]); omega))
    have z5_7 : w4.heap.size + 1 < w5.heap.size := (by omega)
    go_wp2_with fail
    refine (awake5_c _).mono ?_
    rintro e w6 ⟨rfl, hb6⟩
    have hs6 := hb6.size
    try simp only [World.size_alloc, World.size_setCell, World.size_drew, size_drewN] at hs6
    have hc6_0 : ∀ o, w6.cell? ⟨w.heap.size, o, none⟩ = _ := fun o => hb6.cell (p := ⟨w.heap.size, o, none⟩) (by ((try simp only [World.size_alloc, World.size_setCell, World.size_drew, size_drewN]); omega))
    have hf6_0 : ∀ o, w6.frozen? ⟨w.heap.size, o, none⟩ = _ := fun o => hb6.frozen (p := ⟨w.heap.size, o, none⟩) (by ((try simp only [World.size_alloc, World.size_setCell, World.size_drew, size_drewN]); omega))
    have z6_0 : w.heap.size < w6.heap.size := (by omega)
    have hc6_1 : ∀ o, w6.cell? ⟨w1.heap.size, o, none⟩ = _ := fun o => hb6.cell (p := ⟨w1.heap.size, o, none⟩) (by ((try simp only [World.size_alloc, World.size_setCell, World.size_drew, size_drewN]); omega))
    have hf6_1 : ∀ o, w6.frozen? ⟨w1.heap.size, o, none⟩ = _ := fun o => hb6.frozen (p := ⟨w1.heap.size, o, none⟩) (by ((try simp only [World.size_alloc, World.size_setCell, World.size_drew, size_drewN]); omega))
    have z6_1 : w1.heap.size < w6.heap.size := (by omega)
    have hc6_2 : ∀ o, w6.cell? ⟨w1.heap.size + 1, o, none⟩ = _ := fun o => hb6.cell (p := ⟨w1.heap.size + 1, o, none⟩) (by ((try simp only [World.size_alloc, World.size_setCell, World.size_drew, size_drewN]); omega))
    have hf6_2 : ∀ o, w6.frozen? ⟨w1.heap.size + 1, o, none⟩ = _ := fun o => hb6.frozen (p := ⟨w1.heap.size + 1, o, none⟩) (by ((try simp only [World.size_alloc, World.size_setCell, World.size_drew, size_drewN]); omega))
    have z6_2 : w1.heap.size + 1 < w6.heap.size := (by omega)
    have hc6_3 : ∀ o, w6.cell? ⟨w2.heap.size, o, none⟩ = _ := fun o => hb6.cell (p := ⟨w2.heap.size, o, none⟩) (by ((try simp only [World.size_alloc, World.size_setCell, World.size_drew, size_drewN]); omega))
    have hf6_3 : ∀ o, w6.frozen? ⟨w2.heap.size, o, none⟩ = _ := fun o => hb6.frozen (p := ⟨w2.heap.size, o, none⟩) (by ((try simp only [World.size_alloc, World.size_setCell, World.size_drew, size_drewN]); omega))
    have z6_3 : w2.heap.size < w6.heap.size := (by omega)
    have hc6_4 : ∀ o, w6.cell? ⟨w2.heap.size + 1, o, none⟩ = _ := fun o => hb6.cell (p := ⟨w2.heap.size + 1, o, none⟩) (by ((try simp only [World.size_alloc, World.size_setCell, World.size_drew, size_drewN]); omega))
    have hf6_4 : ∀ o, w6.frozen? ⟨w2.heap.size + 1, o, none⟩ = _ := fun o => hb6.frozen (p := ⟨w2.heap.size + 1, o, none⟩) (by ((try simp only [World.size_alloc, World.size_setCell, World.size_drew, size_drewN]); omega))
    have z6_4 : w2.heap.size + 1 < w6.heap.size := (by omega)
    have hc6_5 : ∀ o, w6.cell? ⟨w3.heap.size, o, none⟩ = _ := fun o => hb6.cell (p := ⟨w3.heap.size, o, none⟩) (by ((try simp only [World.size_alloc, World.size_setCell, World.size_drew, size_drewN]); omega))
    have hf6_5 : ∀ o, w6.frozen? ⟨w3.heap.size, o, none⟩ = _ := fun o => hb6.frozen (p := ⟨w3.heap.size, o, none⟩) (by ((try simp only [World.size_alloc, World.size_setCell, World.size_drew, size_drewN]); omega))
    have z6_5 : w3.heap.size < w6.heap.size := (by omega)
    have hc6_6 : ∀ o, w6.cell? ⟨w4.heap.size, o, none⟩ = _ := fun o => hb6.cell (p := ⟨w4.heap.size, o, none⟩) (by ((try simp only [World.size_alloc, World.size_setCell, World.size_drew, size_drewN]); omega))
    have hf6_6 : ∀ o, w6.frozen? ⟨w4.heap.size, o, none⟩ = _ := fun o => hb6.frozen (p := ⟨w4.heap.size, o, none⟩) (by ((try simp only [World.size_alloc, World.size_setCell, World.size_drew, size_drewN]); omega))
    have z6_6 : w4.heap.size < w6.heap.size := (by omega)
    have hc6_7 : ∀ o, w6.cell? ⟨w4.heap.size + 1, o, none⟩ = _ := fun o => hb6.cell (p := ⟨w4.heap.size + 1, o, none⟩) (by ((try simp only [World.size_alloc, World.size_setCell, World.size_drew, size_drewN]); omega))
    have hf6_7 : ∀ o, w6.frozen? ⟨w4.heap.size + 1, o, none⟩ = _ := fun o => hb6.frozen (p := ⟨w4.heap.size + 1, o, none⟩) (by ((try simp only [World.size_alloc, World.size_setCell, World.size_drew, size_drewN]); omega))
    have z6_7 : w4.heap.size + 1 < w6.heap.size := (by omega)
    go_wp2
    go_ret
    exact ⟨rfl, (by (repeat' (first | (with_reducible exact Below.refl _ _) | (with_reducible assumption) | (with_reducible refine Below.alloc ?_ ?_ _) | (with_reducible refine Below.drew ?_) | (with_reducible refine below_drewN ?_ _) | (with_reducible refine Below.setCell ?_ ?_ _) | (with_reducible refine below_step (by with_reducible assumption) ?_ ?_) | (first | (with_reducible exact Nat.le_refl _) | (with_reducible assumption) | omega | (simp only [World.size_alloc, World.size_setCell, World.size_drew, size_drewN]; omega) | (simp; omega) | (simp; done)))))⟩
  · have hxy : X ≤ Y := by omega
    obtain ⟨u1, u2, u3, u4⟩ := sp_facts hA (b := X) (by omega) (by omega)
    obtain ⟨v1, v2, v3, v4⟩ := sp_facts hA (b := Y) (by omega) (by omega)
    have hm : spV A X ≤ spV A Y := by rw [u2, v2]; exact sp_mono (by omega)
    obtain ⟨P, hP⟩ : ∃ P, spV A X = P := ⟨_, rfl⟩
    obtain ⟨R, hR⟩ : ∃ R, spV A Y = R := ⟨_, rfl⟩
    obtain ⟨Q, hQ⟩ : ∃ Q, spR A X = Q := ⟨_, rfl⟩
    rw [hP] at u2 u3 u4 hm
    rw [hR] at v2 v3 v4 hm
    rw [hQ] at u4
    have k1 : addV P Q = A := by rw [addV, if_pos (by omega)]; omega
    have k2 : addE P Q = 0 := by rw [addE, if_pos (by omega)]
    obtain ⟨z, hz, hz0⟩ : ∃ z, cmpV P R = z ∧ z ≤ 0 := by
      refine ⟨_, rfl, ?_⟩
      rw [cmpV]
      split
      · decide
      · rw [if_neg (by omega)]; decide
    have HP := hide (isU_lim (show P < M256 by omega))
    have HQ := hide (isU_lim (show Q < M256 by omega))
    have HR := hide (isU_lim (show R < M256 by omega))
    have H1 := hide (fun w => split_c (isU_lim hA) (b := X) (by omega) (by omega) w)
    have H2 := hide (fun w => split_c (isU_lim hA) (b := Y) (by omega) (by omega) w)
    have H3 := hide (fun w => split_c (isU_lim hA) (b := 10000) (by omega) (by omega) w)
    clear hx x0 x1 y0 y1 p1 p2 q1 q2 u2 u3 u4 v2 v3 v4 hm hA
    go_enter Try.func6, Try.ntmps6
    go_wp2_with fail
    refine (H1.out _).mono ?_
    rintro e w1 ⟨rfl, hb1⟩
    have hs1 := hb1.size
    try simp only [World.size_alloc, World.size_setCell, World.size_drew, size_drewN] at hs1
    have hc1_0 : ∀ o, w1.cell? ⟨w.heap.size, o, none⟩ = _ := fun o => hb1.cell (p := ⟨w.heap.size, o, none⟩) (by ((try simp only [World.size_alloc, World.size_setCell, World.size_drew, size_drewN]); omega))
    have hf1_0 : ∀ o, w1.frozen? ⟨w.heap.size, o, none⟩ = _ := fun o => hb1.frozen (p := ⟨w.heap.size, o, none⟩) (by ((try simp only [World.size_alloc, World.size_setCell, World.size_drew, size_drewN]); omega))
    have z1_0 : w.heap.size < w1.heap.size := (by omega)
    go_wp2_with fail
    refine (H2.out _).mono ?_
    rintro e w2 ⟨rfl, hb2⟩
    have hs2 := hb2.size
    try simp only [World.size_alloc, World.size_setCell, World.size_drew, size_drewN] at hs2
    have hc2_0 : ∀ o, w2.cell? ⟨w.heap.size, o, none⟩ = _ := fun o => hb2.cell (p := ⟨w.heap.size, o, none⟩) (by ((try simp only [World.size_alloc, World.size_setCell, World.size_drew, size_drewN]); omega))
    have hf2_0 : ∀ o, w2.frozen? ⟨w.heap.size, o, none⟩ = _ := fun o => hb2.frozen (p := ⟨w.heap.size, o, none⟩) (by ((try simp only [World.size_alloc, World.size_setCell, World.size_drew, size_drewN]); omega))
    have z2_0 : w.heap.size < w2.heap.size := (by omega)
    have hc2_1 : ∀ o, w2.cell? ⟨w1.heap.size, o, none⟩ = _ := fun o => hb2.cell (p := ⟨w1.heap.size, o, none⟩) (by ((try simp only [World.size_alloc, World.size_setCell, World.size_drew, size_drewN]); omega))
    have hf2_1 : ∀ o, w2.frozen? ⟨w1.heap.size, o, none⟩ = _ := fun o => hb2.frozen (p := ⟨w1.heap.size, o, none⟩) (by ((try simp only [World.size_alloc, World.size_setCell, World.size_drew, size_drewN]); omega))
    have z2_1 : w1.heap.size < w2.heap.size := (by omega)
    have hc2_2 : ∀ o, w2.cell? ⟨w1.heap.size + 1, o, none⟩ = _ := fun o => hb2.cell (p := ⟨w1.heap.size + 1, o, none⟩) (by ((try simp only [World.size_alloc, World.size_setCell, World.size_drew, size_drewN]); omega))
    have hf2_2 : ∀ o, w2.frozen? ⟨w1.heap.size + 1, o, none⟩ = _ := fun o => hb2.frozen (p := ⟨w1.heap.size + 1, o, none⟩) (by ((try simp only [World.size_alloc, World.size_setCell, World.size_drew, size_drewN]); omega))
    have z2_2 : w1.heap.size + 1 < w2.heap.size := (by omega)
    go_wp2_with fail
    refine (add_c HP.out HQ.out _).mono ?_
    rintro e w3 ⟨rfl, hb3⟩
    have hs3 := hb3.size
    try simp only [World.size_alloc, World.size_setCell, World.size_drew, size_drewN] at hs3
    have hc3_0 : ∀ o, w3.cell? ⟨w.heap.size, o, none⟩ = _ := fun o => hb3.cell (p := ⟨w.heap.size, o, none⟩) (by ((try simp only [World.size_alloc, World.size_setCell, World.size_drew, size_drewN]); omega))
    have hf3_0 : ∀ o, w3.frozen? ⟨w.heap.size, o, none⟩ = _ := fun o => hb3.frozen (p := ⟨w.heap.size, o, none⟩) (by ((try simp only [World.size_alloc, World.size_setCell, World.size_drew, size_drewN]); omega))
    have z3_0 : w.heap.size < w3.heap.size := (by omega)
    have hc3_1 : ∀ o, w3.cell? ⟨w1.heap.size, o, none⟩ = _ := fun o => hb3.cell (p := ⟨w1.heap.size, o, none⟩) (by ((try simp only [World.size_alloc, World.size_setCell, World.size_drew, size_drewN]); omega))
    have hf3_1 : ∀ o, w3.frozen? ⟨w1.heap.size, o, none⟩ = _ := fun o => hb3.frozen (p := ⟨w1.heap.size, o, none⟩) (by ((try simp only [World.size_alloc, World.size_setCell, World.size_drew, size_drewN]); omega))
    have z3_1 : w1.heap.size < w3.heap.size := (by omega)
    have hc3_2 : ∀ o, w3.cell? ⟨w1.heap.size + 1, o, none⟩ = _ := fun o => hb3.cell (p := ⟨w1.heap.size + 1, o, none⟩) (by ((try simp only [World.size_alloc, World.size_setCell, World.size_drew, size_drewN]); omega))
    have hf3_2 : ∀ o, w3.frozen? ⟨w1.heap.size + 1, o, none⟩ = _ := fun o => hb3.frozen (p := ⟨w1.heap.size + 1, o, none⟩) (by ((try simp only [World.size_alloc, World.size_setCell, World.size_drew, size_drewN]); omega))
    have z3_2 : w1.heap.size + 1 < w3.heap.size := (by omega)
    have hc3_3 : ∀ o, w3.cell? ⟨w2.heap.size, o, none⟩ = _ := fun o => hb3.cell (p := ⟨w2.heap.size, o, none⟩) (by ((try simp only [World.size_alloc, World.size_setCell, World.size_drew, size_drewN]); omega))
    have hf3_3 : ∀ o, w3.frozen? ⟨w2.heap.size, o, none⟩ = _ := fun o => hb3.frozen (p := ⟨w2.heap.size, o, none⟩) (by ((try simp only [World.size_alloc, World.size_setCell, World.size_drew, size_drewN]); omega))
    have z3_3 : w2.heap.size < w3.heap.size := (by omega)
    have hc3_4 : ∀ o, w3.cell? ⟨w2.heap.size + 1, o, none⟩ = _ := fun o => hb3.cell (p := ⟨w2.heap.size + 1, o, none⟩) (by ((try simp only [World.size_alloc, World.size_setCell, World.size_drew, size_drewN]); omega))
    have hf3_4 : ∀ o, w3.frozen? ⟨w2.heap.size + 1, o, none⟩ = _ := fun o => hb3.frozen (p := ⟨w2.heap.size + 1, o, none⟩) (by ((try simp only [World.size_alloc, World.size_setCell, World.size_drew, size_drewN]); omega))
    have z3_4 : w2.heap.size + 1 < w3.heap.size := (by omega)
    go_wp2_with fail
    refine (H3.out _).mono ?_
    rintro e w4 ⟨rfl, hb4⟩
    have hs4 := hb4.size
    try simp only [World.size_alloc, World.size_setCell, World.size_drew, size_drewN] at hs4
    have hc4_0 : ∀ o, w4.cell? ⟨w.heap.size, o, none⟩ = _ := fun o => hb4.cell (p := ⟨w.heap.size, o, none⟩) (by ((try simp only [World.size_alloc, World.size_setCell, World.size_drew, size_drewN]); omega))
    have hf4_0 : ∀ o, w4.frozen? ⟨w.heap.size, o, none⟩ = _ := fun o => hb4.frozen (p := ⟨w.heap.size, o, none⟩) (by ((try simp only [World.size_alloc, World.size_setCell, World.size_drew, size_drewN]); omega))
    have z4_0 : w.heap.size < w4.heap.size := (by omega)
    have hc4_1 : ∀ o, w4.cell? ⟨w1.heap.size, o, none⟩ = _ := fun o => hb4.cell (p := ⟨w1.heap.size, o, none⟩) (by ((try simp only [World.size_alloc, World.size_setCell, World.size_drew, size_drewN]); omega))
    have hf4_1 : ∀ o, w4.frozen? ⟨w1.heap.size, o, none⟩ = _ := fun o => hb4.frozen (p := ⟨w1.heap.size, o, none⟩) (by ((try simp only [World.size_alloc, World.size_setCell, World.size_drew, size_drewN]); omega))
    have z4_1 : w1.heap.size < w4.heap.size := (by omega)
    have hc4_2 : ∀ o, w4.cell? ⟨w1.heap.size + 1, o, none⟩ = _ := fun o => hb4.cell (p := ⟨w1.heap.size + 1, o, none⟩) (by ((try simp only [World.size_alloc, World.size_setCell, World.size_drew, size_drewN]); omega))
    have hf4_2 : ∀ o, w4.frozen? ⟨w1.heap.size + 1, o, none⟩ = _ := fun o => hb4.frozen (p := ⟨w1.heap.size + 1, o, none⟩) (by ((try simp only [World.size_alloc, World.size_setCell, World.size_drew, size_drewN]); omega))
    have z4_2 : w1.heap.size + 1 < w4.heap.size := (by omega)
    have hc4_3 : ∀ o, w4.cell? ⟨w2.heap.size, o, none⟩ = _ := fun o => hb4.cell (p := ⟨w2.heap.size, o, none⟩) (by ((try simp only [World.size_alloc, World.size_setCell, World.size_drew, size_drewN]); omega))
    have hf4_3 : ∀ o, w4.frozen? ⟨w2.heap.size, o, none⟩ = _ := fun o => hb4.frozen (p := ⟨w2.heap.size, o, none⟩) (by ((try simp only [World.size_alloc, World.size_setCell, World.size_drew, size_drewN]); omega))
    have z4_3 : w2.heap.size < w4.heap.size := (by omega)
    have hc4_4 : ∀ o, w4.cell? ⟨w2.heap.size + 1, o, none⟩ = _ := fun o => hb4.cell (p := ⟨w2.heap.size + 1, o, none⟩) (by ((try simp only [World.size_alloc, World.size_setCell, World.size_drew, size_drewN]); omega))
    have hf4_4 : ∀ o, w4.frozen? ⟨w2.heap.size + 1, o, none⟩ = _ := fun o => hb4.frozen (p := ⟨w2.heap.size + 1, o, none⟩) (by ((try simp only [World.size_alloc, World.size_setCell, World.size_drew, size_drewN]); omega))
    have z4_4 : w2.heap.size + 1 < w4.heap.size := (by omega)
    have hc4_5 : ∀ o, w4.cell? ⟨w3.heap.size, o, none⟩ = _ := fun o => hb4.cell (p := ⟨w3.heap.size, o, none⟩) (by ((try simp only [World.size_alloc, World.size_setCell, World.size_drew, size_drewN]); omega))
    have hf4_5 : ∀ o, w4.frozen? ⟨w3.heap.size, o, none⟩ = _ := fun o => hb4.frozen (p := ⟨w3.heap.size, o, none⟩) (by ((try simp only [World.size_alloc, World.size_setCell, World.size_drew, size_drewN]); omega))
    have z4_5 : w3.heap.size < w4.heap.size := (by omega)
    go_wp2_with fail
    refine (cmp_c HP.out HR.out _).mono ?_
    rintro e w5 ⟨rfl, hb5⟩
    have hs5 := hb5.size
    try simp only [World.size_alloc, World.size_setCell, World.size_drew, size_drewN] at hs5
    have hc5_0 : ∀ o, w5.cell? ⟨w.heap.size, o, none⟩ = _ := fun o => hb5.cell (p := ⟨w.heap.size, o, none⟩) (by ((try simp only [World.size_alloc, World.size_setCell, World.size_drew, size_drewN]); omega))
    have hf5_0 : ∀ o, w5.frozen? ⟨w.heap.size, o, none⟩ = _ := fun o => hb5.frozen (p := ⟨w.heap.size, o, none⟩) (by ((try simp only [World.size_alloc, World.size_setCell, World.size_drew, size_drewN]); omega))
    have z5_0 : w.heap.size < w5.heap.size := (by omega)
    have hc5_1 : ∀ o, w5.cell? ⟨w1.heap.size, o, none⟩ = _ := fun o => hb5.cell (p := ⟨w1.heap.size, o, none⟩) (by ((try simp only [World.size_alloc, World.size_setCell, World.size_drew, size_drewN]); omega))
    have hf5_1 : ∀ o, w5.frozen? ⟨w1.heap.size, o, none⟩ = _ := fun o => hb5.frozen (p := ⟨w1.heap.size, o, none⟩) (by ((try simp only [World.size_alloc, World.size_setCell, World.size_drew, size_drewN]); omega))
    have z5_1 : w1.heap.size < w5.heap.size := (by omega)
    have hc5_2 : ∀ o, w5.cell? ⟨w1.heap.size + 1, o, none⟩ = _ := fun o => hb5.cell (p := ⟨w1.heap.size + 1, o, none⟩) (by ((try simp only [World.size_alloc, World.size_setCell, World.size_drew, size_drewN]); omega))
    have hf5_2 : ∀ o, w5.frozen? ⟨w1.heap.size + 1, o, none⟩ = _ := fun o => hb5.frozen (p := ⟨w1.heap.size + 1, o, none⟩) (by ((try simp only [World.size_alloc, World.size_setCell, World.size_drew, size_drewN]); omega))
    have z5_2 : w1.heap.size + 1 < w5.heap.size := (by omega)
    have hc5_3 : ∀ o, w5.cell? ⟨w2.heap.size, o, none⟩ = _ := fun o => hb5.cell (p := ⟨w2.heap.size, o, none⟩) (by ((try simp only [World.size_alloc, World.size_setCell, World.size_drew, size_drewN]); omega))
    have hf5_3 : ∀ o, w5.frozen? ⟨w2.heap.size, o, none⟩ = _ := fun o => hb5.frozen (p := ⟨w2.heap.size, o, none⟩) (by ((try simp only [World.size_alloc, World.size_setCell, World.size_drew, size_drewN]); omega))
    have z5_3 : w2.heap.size < w5.heap.size := (by omega)
    have hc5_4 : ∀ o, w5.cell? ⟨w2.heap.size + 1, o, none⟩ = _ := fun o => hb5.cell (p := ⟨w2.heap.size + 1, o, none⟩) (by ((try simp only [World.size_alloc, World.size_setCell, World.size_drew, size_drewN]); omega))
    have hf5_4 : ∀ o, w5.frozen? ⟨w2.heap.size + 1, o, none⟩ = _ := fun o => hb5.frozen (p := ⟨w2.heap.size + 1, o, none⟩) (by ((try simp only [World.size_alloc, World.size_setCell, World.size_drew, size_drewN]); omega))
    have z5_4 : w2.heap.size + 1 < w5.heap.size := (by omega)
    have hc5_5 : ∀ o, w5.cell? ⟨w3.heap.size, o, none⟩ = _ := fun o => hb5.cell (p := ⟨w3.heap.size, o, none⟩) (by ((try simp only [World.size_alloc, World.size_setCell, World.size_drew, size_drewN]); omega))
    have hf5_5 : ∀ o, w5.frozen? ⟨w3.heap.size, o, none⟩ = _ := fun o => hb5.frozen (p := ⟨w3.heap.size, o, none⟩) (by ((try simp only [World.size_alloc, World.size_setCell, World.size_drew, size_drewN]); omega))
    have z5_5 : w3.heap.size < w5.heap.size := (by omega)
    have hc5_6 : ∀ o, w5.cell? ⟨w4.heap.size, o, none⟩ = _ := fun o => hb5.cell (p := ⟨w4.heap.size, o, none⟩) (by ((try simp only [World.size_alloc, World.size_setCell, World.size_drew, size_drewN]); omega))
    have hf5_6 : ∀ o, w5.frozen? ⟨w4.heap.size, o, none⟩ = _ := fun o => hb5.frozen (p := ⟨w4.heap.size, o, none⟩) (by ((try simp only [World.size_alloc, World.size_setCell, World.size_drew, size_drewN]); omega))
    have z5_6 : w4.heap.size < w5.heap.size := (by omega)
    have hc5_7 : ∀ o, w5.cell? ⟨w4.heap.size + 1, o, none⟩ = _ := fun o => hb5.cell (p := ⟨w4.heap.size + 1, o, none⟩) (by ((try simp only [World.size_alloc, World.size_setCell, World.size_drew, size_drewN]); omega))
    have hf5_7 : ∀ o, w5.frozen? ⟨w4.heap.size + 1, o, none⟩ = _ := fun o => hb5.frozen (p := ⟨w4.heap.size + 1, o, none⟩) (by ((try simp only [World.size_alloc, World.size_setCell, World.size_drew, size_drewN]); omega))
    have z5_7 : w4.heap.size + 1 < w5.heap.size := (by omega)
    go_wp2_with fail
    refine (awake5_c _).mono ?_
    rintro e w6 ⟨rfl, hb6⟩
    have hs6 := hb6.size
    try simp only [World.size_alloc, World.size_setCell, World.size_drew, size_drewN] at hs6
    have hc6_0 : ∀ o, w6.cell? ⟨w.heap.size, o, none⟩ = _ := fun o => hb6.cell (p := ⟨w.heap.size, o, none⟩) (by ((try simp only [World.size_alloc, World.size_setCell, World.size_drew, size_drewN]); omega))
    have hf6_0 : ∀ o, w6.frozen? ⟨w.heap.size, o, none⟩ = _ := fun o => hb6.frozen (p := ⟨w.heap.size, o, none⟩) (by ((try simp only [World.size_alloc, World.size_setCell, World.size_drew, size_drewN]); omega))
    have z6_0 : w.heap.size < w6.heap.size := (by omega)
    have hc6_1 : ∀ o, w6.cell? ⟨w1.heap.size, o, none⟩ = _ := fun o => hb6.cell (p := ⟨w1.heap.size, o, none⟩) (by ((try simp only [World.size_alloc, World.size_setCell, World.size_drew, size_drewN]); omega))
    have hf6_1 : ∀ o, w6.frozen? ⟨w1.heap.size, o, none⟩ = _ := fun o => hb6.frozen (p := ⟨w1.heap.size, o, none⟩) (by ((try simp only [World.size_alloc, World.size_setCell, World.size_drew, size_drewN]); omega))
    have z6_1 : w1.heap.size < w6.heap.size := (by omega)
    have hc6_2 : ∀ o, w6.cell? ⟨w1.heap.size + 1, o, none⟩ = _ := fun o => hb6.cell (p := ⟨w1.heap.size + 1, o, none⟩) (by ((try simp only [World.size_alloc, World.size_setCell, World.size_drew, size_drewN]); omega))
    have hf6_2 : ∀ o, w6.frozen? ⟨w1.heap.size + 1, o, none⟩ = _ := fun o => hb6.frozen (p := ⟨w1.heap.size + 1, o, none⟩) (by ((try simp only [World.size_alloc, World.size_setCell, World.size_drew, size_drewN]); omega))
    have z6_2 : w1.heap.size + 1 < w6.heap.size := (by omega)
    have hc6_3 : ∀ o, w6.cell? ⟨w2.heap.size, o, none⟩ = _ := fun o => hb6.cell (p := ⟨w2.heap.size, o, none⟩) (by ((try simp only [World.size_alloc, World.size_setCell, World.size_drew, size_drewN]); omega))
    have hf6_3 : ∀ o, w6.frozen? ⟨w2.heap.size, o, none⟩ = _ := fun o => hb6.frozen (p := ⟨w2.heap.size, o, none⟩) (by ((try simp only [World.size_alloc, World.size_setCell, World.size_drew, size_drewN]); omega))
    have z6_3 : w2.heap.size < w6.heap.size := (by omega)
    have hc6_4 : ∀ o, w6.cell? ⟨w2.heap.size + 1, o, none⟩ = _ := fun o => hb6.cell (p := ⟨w2.heap.size + 1, o, none⟩) (by ((try simp only [World.size_alloc, World.size_setCell, World.size_drew, size_drewN]); omega))
    have hf6_4 : ∀ o, w6.frozen? ⟨w2.heap.size + 1, o, none⟩ = _ := fun o => hb6.frozen (p := ⟨w2.heap.size + 1, o, none⟩) (by ((try simp only [World.size_alloc, World.size_setCell, World.size_drew, size_drewN]); omega))
    have z6_4 : w2.heap.size + 1 < w6.heap.size := (by omega)
    have hc6_5 : ∀ o, w6.cell? ⟨w3.heap.size, o, none⟩ = _ := fun o => hb6.cell (p := ⟨w3.heap.size, o, none⟩) (by ((try simp only [World.size_alloc, World.size_setCell, World.size_drew, size_drewN]); omega))
    have hf6_5 : ∀ o, w6.frozen? ⟨w3.heap.size, o, none⟩ = _ := fun o => hb6.frozen (p := ⟨w3.heap.size, o, none⟩) (by ((try simp only [World.size_alloc, World.size_setCell, World.size_drew, size_drewN]); omega))
    have z6_5 : w3.heap.size < w6.heap.size := (by omega)
    have hc6_6 : ∀ o, w6.cell? ⟨w4.heap.size, o, none⟩ = _ := fun o => hb6.cell (p := ⟨w4.heap.size, o, none⟩) (by ((try simp only [World.size_alloc, World.size_setCell, World.size_drew, size_drewN]); omega))
    have hf6_6 : ∀ o, w6.frozen? ⟨w4.heap.size, o, none⟩ = _ := fun o => hb6.frozen (p := ⟨w4.heap.size, o, none⟩) (by ((try simp only [World.size_alloc, World.size_setCell, World.size_drew, size_drewN]); omega))
    have z6_6 : w4.heap.size < w6.heap.size := (by omega)
    have hc6_7 : ∀ o, w6.cell? ⟨w4.heap.size + 1, o, none⟩ = _ := fun o => hb6.cell (p := ⟨w4.heap.size + 1, o, none⟩) (by ((try simp only [World.size_alloc, World.size_setCell, World.size_drew, size_drewN]); omega))
    have hf6_7 : ∀ o, w6.frozen? ⟨w4.heap.size + 1, o, none⟩ = _ := fun o => hb6.frozen (p := ⟨w4.heap.size + 1, o, none⟩) (by ((try simp only [World.size_alloc, World.size_setCell, World.size_drew, size_drewN]); omega))
    have z6_7 : w4.heap.size + 1 < w6.heap.size := (by omega)
    go_wp2
    go_ret
    exact ⟨rfl, (by (repeat' (first | (with_reducible exact Below.refl _ _) | (with_reducible assumption) | (with_reducible refine Below.alloc ?_ ?_ _) | (with_reducible refine Below.drew ?_) | (with_reducible refine below_drewN ?_ _) | (with_reducible refine Below.setCell ?_ ?_ _) | (with_reducible refine below_step (by with_reducible assumption) ?_ ?_) | (first | (with_reducible exact Nat.le_refl _) | (with_reducible assumption) | omega | (simp only [World.size_alloc, World.size_setCell, World.size_drew, size_drewN]; omega) | (simp; omega) | (simp; done)))))⟩
end Go.Proofs.Yteehlkdhgjdpaaa
