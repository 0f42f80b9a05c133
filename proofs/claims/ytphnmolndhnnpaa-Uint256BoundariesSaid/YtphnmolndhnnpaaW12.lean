/- Chapter 1: the boundaries, walked. -/
import Derived.WalkKit
import Derived.KernelRfl
import Derived.RowKit3
import Derived.Deep.LoopGhost
import Derived.Deep.QuietTactic
import Derived.BigQuiet
import Derived.WideLaws
import Derived.Laws.Rows
import Derived.Below
import Derived.Deep.Draws
import Derived.Outline
import Derived.LoopN
import Derived.Handy
import Derived.Laws.Externs
import Derived.Laws.BitsAllLaws
import Derived.Laws.BitsLemmas
import Derived.Deep.DeepCutAuto
import Derived.Deep.CutBlock
import Derived.Deep.RegionHeld3
import Derived.Test.YtphnmolndhnnpaaEG
import Derived.Test.YtphnmolndhnnpaaW4
namespace Go.Proofs.Ytphnmolndhnnpaa
open Go.RowKit
set_option linter.unusedVariables false
set_option linter.unusedSimpArgs false
set_option maxHeartbeats 8000000 in
theorem Uint256Boundaries_walk (a b c d s t : Int) (w0 : (Lit.int .u64 a).wf = true) (w1 : (Lit.int .u64 b).wf = true) (w2 : (Lit.int .u64 c).wf = true) (w3 : (Lit.int .u64 d).wf = true) (w4 : (Lit.int .i64 s).wf = true) (w5 : (Lit.int .i64 t).wf = true) (w : World) :
    Calls Try.prog 8 #[.int .u64 a, .int .u64 b, .int .u64 c, .int .u64 d, .int .i64 s, .int .i64 t] w fun e w' => e = .returned (.bool true) ∧ Below w.heap.size w w' := by
  obtain ⟨p0, q0⟩ := bounds_u64 w0
  obtain ⟨p1, q1⟩ := bounds_u64 w1
  obtain ⟨p2, q2⟩ := bounds_u64 w2
  obtain ⟨p3, q3⟩ := bounds_u64 w3
  clear w0 w1 w2 w3 w4 w5
  have E1 := hide (fun w => edge_c (a := a) (b := b) p0 (by omega) p1 (by omega) s w)
  have E2 := hide (fun w => edge_c (a := c) (b := d) p2 (by omega) p3 (by omega) t w)
  clear p0 p1 p2 p3 q0 q1 q2 q3
  go_enter Try.func8, Try.ntmps8
  go_wp2_with fail
  refine (E1.out _).mono ?_
  rintro e v1 ⟨A, hA, rfl, hb1⟩
  have hs1 := hb1.size
  go_wp2_with fail
  refine (E2.out _).mono ?_
  rintro e v2 ⟨B, hB, rfl, hb2⟩
  have hs2 := hb2.size
  have HA := hide (isU_lim hA)
  have HB := hide (isU_lim hB)
  have F1 := hide (fun w => add256_c hA hB w)
  have F2 := hide (fun w => sub256_c hA hB w)
  have F3 := hide (fun w => mul256_c hA hB w)
  have F4 := hide (fun w => sat_c hA hB w)
  have hbv : Below w.heap.size w v2 := (by (repeat' (first | (with_reducible exact Below.refl _ _) | (with_reducible assumption) | (with_reducible refine Below.alloc ?_ ?_ _) | (with_reducible refine Below.drew ?_) | (with_reducible refine below_drewN ?_ _) | (with_reducible refine Below.setCell ?_ ?_ _) | (with_reducible refine below_step (by with_reducible assumption) ?_ ?_) | (first | (with_reducible exact Nat.le_refl _) | (with_reducible assumption) | omega | (simp only [World.size_alloc, World.size_setCell, World.size_drew, size_drewN]; omega) | (simp; omega) | (simp; done)))))
  clear hA hB hb1 hb2
  go_wp2_with fail
  refine (add_c HA.out HB.out _).mono ?_
  rintro e w3 ⟨rfl, hb3⟩
  have hs3 := hb3.size
  try simp only [World.size_alloc, World.size_setCell, World.size_drew, size_drewN] at hs3
  have hc3_0 : ∀ o, w3.cell? ⟨v2.heap.size, o, none⟩ = _ := fun o => hb3.cell (p := ⟨v2.heap.size, o, none⟩) (by ((try simp only [World.size_alloc, World.size_setCell, World.size_drew, size_drewN]); omega))
  have hf3_0 : ∀ o, w3.frozen? ⟨v2.heap.size, o, none⟩ = _ := fun o => hb3.frozen (p := ⟨v2.heap.size, o, none⟩) (by ((try simp only [World.size_alloc, World.size_setCell, World.size_drew, size_drewN]); omega))
  have z3_0 : v2.heap.size < w3.heap.size := (by omega)
  have hc3_1 : ∀ o, w3.cell? ⟨v2.heap.size + 1, o, none⟩ = _ := fun o => hb3.cell (p := ⟨v2.heap.size + 1, o, none⟩) (by ((try simp only [World.size_alloc, World.size_setCell, World.size_drew, size_drewN]); omega))
  have hf3_1 : ∀ o, w3.frozen? ⟨v2.heap.size + 1, o, none⟩ = _ := fun o => hb3.frozen (p := ⟨v2.heap.size + 1, o, none⟩) (by ((try simp only [World.size_alloc, World.size_setCell, World.size_drew, size_drewN]); omega))
  have z3_1 : v2.heap.size + 1 < w3.heap.size := (by omega)
  go_wp2_with fail
  refine (F1.out _).mono ?_
  rintro e w4 ⟨rfl, hb4⟩
  have hs4 := hb4.size
  try simp only [World.size_alloc, World.size_setCell, World.size_drew, size_drewN] at hs4
  have hc4_0 : ∀ o, w4.cell? ⟨v2.heap.size, o, none⟩ = _ := fun o => hb4.cell (p := ⟨v2.heap.size, o, none⟩) (by ((try simp only [World.size_alloc, World.size_setCell, World.size_drew, size_drewN]); omega))
  have hf4_0 : ∀ o, w4.frozen? ⟨v2.heap.size, o, none⟩ = _ := fun o => hb4.frozen (p := ⟨v2.heap.size, o, none⟩) (by ((try simp only [World.size_alloc, World.size_setCell, World.size_drew, size_drewN]); omega))
  have z4_0 : v2.heap.size < w4.heap.size := (by omega)
  have hc4_1 : ∀ o, w4.cell? ⟨v2.heap.size + 1, o, none⟩ = _ := fun o => hb4.cell (p := ⟨v2.heap.size + 1, o, none⟩) (by ((try simp only [World.size_alloc, World.size_setCell, World.size_drew, size_drewN]); omega))
  have hf4_1 : ∀ o, w4.frozen? ⟨v2.heap.size + 1, o, none⟩ = _ := fun o => hb4.frozen (p := ⟨v2.heap.size + 1, o, none⟩) (by ((try simp only [World.size_alloc, World.size_setCell, World.size_drew, size_drewN]); omega))
  have z4_1 : v2.heap.size + 1 < w4.heap.size := (by omega)
  have hc4_2 : ∀ o, w4.cell? ⟨w3.heap.size, o, none⟩ = _ := fun o => hb4.cell (p := ⟨w3.heap.size, o, none⟩) (by ((try simp only [World.size_alloc, World.size_setCell, World.size_drew, size_drewN]); omega))
  have hf4_2 : ∀ o, w4.frozen? ⟨w3.heap.size, o, none⟩ = _ := fun o => hb4.frozen (p := ⟨w3.heap.size, o, none⟩) (by ((try simp only [World.size_alloc, World.size_setCell, World.size_drew, size_drewN]); omega))
  have z4_2 : w3.heap.size < w4.heap.size := (by omega)
  go_wp2_with fail
  refine (sub_c HA.out HB.out _).mono ?_
  rintro e w5 ⟨rfl, hb5⟩
  have hs5 := hb5.size
  try simp only [World.size_alloc, World.size_setCell, World.size_drew, size_drewN] at hs5
  have hc5_0 : ∀ o, w5.cell? ⟨v2.heap.size, o, none⟩ = _ := fun o => hb5.cell (p := ⟨v2.heap.size, o, none⟩) (by ((try simp only [World.size_alloc, World.size_setCell, World.size_drew, size_drewN]); omega))
  have hf5_0 : ∀ o, w5.frozen? ⟨v2.heap.size, o, none⟩ = _ := fun o => hb5.frozen (p := ⟨v2.heap.size, o, none⟩) (by ((try simp only [World.size_alloc, World.size_setCell, World.size_drew, size_drewN]); omega))
  have z5_0 : v2.heap.size < w5.heap.size := (by omega)
  have hc5_1 : ∀ o, w5.cell? ⟨v2.heap.size + 1, o, none⟩ = _ := fun o => hb5.cell (p := ⟨v2.heap.size + 1, o, none⟩) (by ((try simp only [World.size_alloc, World.size_setCell, World.size_drew, size_drewN]); omega))
  have hf5_1 : ∀ o, w5.frozen? ⟨v2.heap.size + 1, o, none⟩ = _ := fun o => hb5.frozen (p := ⟨v2.heap.size + 1, o, none⟩) (by ((try simp only [World.size_alloc, World.size_setCell, World.size_drew, size_drewN]); omega))
  have z5_1 : v2.heap.size + 1 < w5.heap.size := (by omega)
  have hc5_2 : ∀ o, w5.cell? ⟨w3.heap.size, o, none⟩ = _ := fun o => hb5.cell (p := ⟨w3.heap.size, o, none⟩) (by ((try simp only [World.size_alloc, World.size_setCell, World.size_drew, size_drewN]); omega))
  have hf5_2 : ∀ o, w5.frozen? ⟨w3.heap.size, o, none⟩ = _ := fun o => hb5.frozen (p := ⟨w3.heap.size, o, none⟩) (by ((try simp only [World.size_alloc, World.size_setCell, World.size_drew, size_drewN]); omega))
  have z5_2 : w3.heap.size < w5.heap.size := (by omega)
  have hc5_3 : ∀ o, w5.cell? ⟨w4.heap.size, o, none⟩ = _ := fun o => hb5.cell (p := ⟨w4.heap.size, o, none⟩) (by ((try simp only [World.size_alloc, World.size_setCell, World.size_drew, size_drewN]); omega))
  have hf5_3 : ∀ o, w5.frozen? ⟨w4.heap.size, o, none⟩ = _ := fun o => hb5.frozen (p := ⟨w4.heap.size, o, none⟩) (by ((try simp only [World.size_alloc, World.size_setCell, World.size_drew, size_drewN]); omega))
  have z5_3 : w4.heap.size < w5.heap.size := (by omega)
  go_wp2_with fail
  refine (F2.out _).mono ?_
  rintro e w6 ⟨rfl, hb6⟩
  have hs6 := hb6.size
  try simp only [World.size_alloc, World.size_setCell, World.size_drew, size_drewN] at hs6
  have hc6_0 : ∀ o, w6.cell? ⟨v2.heap.size, o, none⟩ = _ := fun o => hb6.cell (p := ⟨v2.heap.size, o, none⟩) (by ((try simp only [World.size_alloc, World.size_setCell, World.size_drew, size_drewN]); omega))
  have hf6_0 : ∀ o, w6.frozen? ⟨v2.heap.size, o, none⟩ = _ := fun o => hb6.frozen (p := ⟨v2.heap.size, o, none⟩) (by ((try simp only [World.size_alloc, World.size_setCell, World.size_drew, size_drewN]); omega))
  have z6_0 : v2.heap.size < w6.heap.size := (by omega)
  have hc6_1 : ∀ o, w6.cell? ⟨v2.heap.size + 1, o, none⟩ = _ := fun o => hb6.cell (p := ⟨v2.heap.size + 1, o, none⟩) (by ((try simp only [World.size_alloc, World.size_setCell, World.size_drew, size_drewN]); omega))
  have hf6_1 : ∀ o, w6.frozen? ⟨v2.heap.size + 1, o, none⟩ = _ := fun o => hb6.frozen (p := ⟨v2.heap.size + 1, o, none⟩) (by ((try simp only [World.size_alloc, World.size_setCell, World.size_drew, size_drewN]); omega))
  have z6_1 : v2.heap.size + 1 < w6.heap.size := (by omega)
  have hc6_2 : ∀ o, w6.cell? ⟨w3.heap.size, o, none⟩ = _ := fun o => hb6.cell (p := ⟨w3.heap.size, o, none⟩) (by ((try simp only [World.size_alloc, World.size_setCell, World.size_drew, size_drewN]); omega))
  have hf6_2 : ∀ o, w6.frozen? ⟨w3.heap.size, o, none⟩ = _ := fun o => hb6.frozen (p := ⟨w3.heap.size, o, none⟩) (by ((try simp only [World.size_alloc, World.size_setCell, World.size_drew, size_drewN]); omega))
  have z6_2 : w3.heap.size < w6.heap.size := (by omega)
  have hc6_3 : ∀ o, w6.cell? ⟨w4.heap.size, o, none⟩ = _ := fun o => hb6.cell (p := ⟨w4.heap.size, o, none⟩) (by ((try simp only [World.size_alloc, World.size_setCell, World.size_drew, size_drewN]); omega))
  have hf6_3 : ∀ o, w6.frozen? ⟨w4.heap.size, o, none⟩ = _ := fun o => hb6.frozen (p := ⟨w4.heap.size, o, none⟩) (by ((try simp only [World.size_alloc, World.size_setCell, World.size_drew, size_drewN]); omega))
  have z6_3 : w4.heap.size < w6.heap.size := (by omega)
  have hc6_4 : ∀ o, w6.cell? ⟨w5.heap.size, o, none⟩ = _ := fun o => hb6.cell (p := ⟨w5.heap.size, o, none⟩) (by ((try simp only [World.size_alloc, World.size_setCell, World.size_drew, size_drewN]); omega))
  have hf6_4 : ∀ o, w6.frozen? ⟨w5.heap.size, o, none⟩ = _ := fun o => hb6.frozen (p := ⟨w5.heap.size, o, none⟩) (by ((try simp only [World.size_alloc, World.size_setCell, World.size_drew, size_drewN]); omega))
  have z6_4 : w5.heap.size < w6.heap.size := (by omega)
  go_wp2_with fail
  refine (mul_c HA.out HB.out _).mono ?_
  rintro e w7 ⟨rfl, hb7⟩
  have hs7 := hb7.size
  try simp only [World.size_alloc, World.size_setCell, World.size_drew, size_drewN] at hs7
  have hc7_0 : ∀ o, w7.cell? ⟨v2.heap.size, o, none⟩ = _ := fun o => hb7.cell (p := ⟨v2.heap.size, o, none⟩) (by ((try simp only [World.size_alloc, World.size_setCell, World.size_drew, size_drewN]); omega))
  have hf7_0 : ∀ o, w7.frozen? ⟨v2.heap.size, o, none⟩ = _ := fun o => hb7.frozen (p := ⟨v2.heap.size, o, none⟩) (by ((try simp only [World.size_alloc, World.size_setCell, World.size_drew, size_drewN]); omega))
  have z7_0 : v2.heap.size < w7.heap.size := (by omega)
  have hc7_1 : ∀ o, w7.cell? ⟨v2.heap.size + 1, o, none⟩ = _ := fun o => hb7.cell (p := ⟨v2.heap.size + 1, o, none⟩) (by ((try simp only [World.size_alloc, World.size_setCell, World.size_drew, size_drewN]); omega))
  have hf7_1 : ∀ o, w7.frozen? ⟨v2.heap.size + 1, o, none⟩ = _ := fun o => hb7.frozen (p := ⟨v2.heap.size + 1, o, none⟩) (by ((try simp only [World.size_alloc, World.size_setCell, World.size_drew, size_drewN]); omega))
  have z7_1 : v2.heap.size + 1 < w7.heap.size := (by omega)
  have hc7_2 : ∀ o, w7.cell? ⟨w3.heap.size, o, none⟩ = _ := fun o => hb7.cell (p := ⟨w3.heap.size, o, none⟩) (by ((try simp only [World.size_alloc, World.size_setCell, World.size_drew, size_drewN]); omega))
  have hf7_2 : ∀ o, w7.frozen? ⟨w3.heap.size, o, none⟩ = _ := fun o => hb7.frozen (p := ⟨w3.heap.size, o, none⟩) (by ((try simp only [World.size_alloc, World.size_setCell, World.size_drew, size_drewN]); omega))
  have z7_2 : w3.heap.size < w7.heap.size := (by omega)
  have hc7_3 : ∀ o, w7.cell? ⟨w4.heap.size, o, none⟩ = _ := fun o => hb7.cell (p := ⟨w4.heap.size, o, none⟩) (by ((try simp only [World.size_alloc, World.size_setCell, World.size_drew, size_drewN]); omega))
  have hf7_3 : ∀ o, w7.frozen? ⟨w4.heap.size, o, none⟩ = _ := fun o => hb7.frozen (p := ⟨w4.heap.size, o, none⟩) (by ((try simp only [World.size_alloc, World.size_setCell, World.size_drew, size_drewN]); omega))
  have z7_3 : w4.heap.size < w7.heap.size := (by omega)
  have hc7_4 : ∀ o, w7.cell? ⟨w5.heap.size, o, none⟩ = _ := fun o => hb7.cell (p := ⟨w5.heap.size, o, none⟩) (by ((try simp only [World.size_alloc, World.size_setCell, World.size_drew, size_drewN]); omega))
  have hf7_4 : ∀ o, w7.frozen? ⟨w5.heap.size, o, none⟩ = _ := fun o => hb7.frozen (p := ⟨w5.heap.size, o, none⟩) (by ((try simp only [World.size_alloc, World.size_setCell, World.size_drew, size_drewN]); omega))
  have z7_4 : w5.heap.size < w7.heap.size := (by omega)
  have hc7_5 : ∀ o, w7.cell? ⟨w6.heap.size, o, none⟩ = _ := fun o => hb7.cell (p := ⟨w6.heap.size, o, none⟩) (by ((try simp only [World.size_alloc, World.size_setCell, World.size_drew, size_drewN]); omega))
  have hf7_5 : ∀ o, w7.frozen? ⟨w6.heap.size, o, none⟩ = _ := fun o => hb7.frozen (p := ⟨w6.heap.size, o, none⟩) (by ((try simp only [World.size_alloc, World.size_setCell, World.size_drew, size_drewN]); omega))
  have z7_5 : w6.heap.size < w7.heap.size := (by omega)
  go_wp2_with fail
  refine (F3.out _).mono ?_
  rintro e w8 ⟨rfl, hb8⟩
  have hs8 := hb8.size
  try simp only [World.size_alloc, World.size_setCell, World.size_drew, size_drewN] at hs8
  have hc8_0 : ∀ o, w8.cell? ⟨v2.heap.size, o, none⟩ = _ := fun o => hb8.cell (p := ⟨v2.heap.size, o, none⟩) (by ((try simp only [World.size_alloc, World.size_setCell, World.size_drew, size_drewN]); omega))
  have hf8_0 : ∀ o, w8.frozen? ⟨v2.heap.size, o, none⟩ = _ := fun o => hb8.frozen (p := ⟨v2.heap.size, o, none⟩) (by ((try simp only [World.size_alloc, World.size_setCell, World.size_drew, size_drewN]); omega))
  have z8_0 : v2.heap.size < w8.heap.size := (by omega)
  have hc8_1 : ∀ o, w8.cell? ⟨v2.heap.size + 1, o, none⟩ = _ := fun o => hb8.cell (p := ⟨v2.heap.size + 1, o, none⟩) (by ((try simp only [World.size_alloc, World.size_setCell, World.size_drew, size_drewN]); omega))
  have hf8_1 : ∀ o, w8.frozen? ⟨v2.heap.size + 1, o, none⟩ = _ := fun o => hb8.frozen (p := ⟨v2.heap.size + 1, o, none⟩) (by ((try simp only [World.size_alloc, World.size_setCell, World.size_drew, size_drewN]); omega))
  have z8_1 : v2.heap.size + 1 < w8.heap.size := (by omega)
  have hc8_2 : ∀ o, w8.cell? ⟨w3.heap.size, o, none⟩ = _ := fun o => hb8.cell (p := ⟨w3.heap.size, o, none⟩) (by ((try simp only [World.size_alloc, World.size_setCell, World.size_drew, size_drewN]); omega))
  have hf8_2 : ∀ o, w8.frozen? ⟨w3.heap.size, o, none⟩ = _ := fun o => hb8.frozen (p := ⟨w3.heap.size, o, none⟩) (by ((try simp only [World.size_alloc, World.size_setCell, World.size_drew, size_drewN]); omega))
  have z8_2 : w3.heap.size < w8.heap.size := (by omega)
  have hc8_3 : ∀ o, w8.cell? ⟨w4.heap.size, o, none⟩ = _ := fun o => hb8.cell (p := ⟨w4.heap.size, o, none⟩) (by ((try simp only [World.size_alloc, World.size_setCell, World.size_drew, size_drewN]); omega))
  have hf8_3 : ∀ o, w8.frozen? ⟨w4.heap.size, o, none⟩ = _ := fun o => hb8.frozen (p := ⟨w4.heap.size, o, none⟩) (by ((try simp only [World.size_alloc, World.size_setCell, World.size_drew, size_drewN]); omega))
  have z8_3 : w4.heap.size < w8.heap.size := (by omega)
  have hc8_4 : ∀ o, w8.cell? ⟨w5.heap.size, o, none⟩ = _ := fun o => hb8.cell (p := ⟨w5.heap.size, o, none⟩) (by ((try simp only [World.size_alloc, World.size_setCell, World.size_drew, size_drewN]); omega))
  have hf8_4 : ∀ o, w8.frozen? ⟨w5.heap.size, o, none⟩ = _ := fun o => hb8.frozen (p := ⟨w5.heap.size, o, none⟩) (by ((try simp only [World.size_alloc, World.size_setCell, World.size_drew, size_drewN]); omega))
  have z8_4 : w5.heap.size < w8.heap.size := (by omega)
  have hc8_5 : ∀ o, w8.cell? ⟨w6.heap.size, o, none⟩ = _ := fun o => hb8.cell (p := ⟨w6.heap.size, o, none⟩) (by ((try simp only [World.size_alloc, World.size_setCell, World.size_drew, size_drewN]); omega))
  have hf8_5 : ∀ o, w8.frozen? ⟨w6.heap.size, o, none⟩ = _ := fun o => hb8.frozen (p := ⟨w6.heap.size, o, none⟩) (by ((try simp only [World.size_alloc, World.size_setCell, World.size_drew, size_drewN]); omega))
  have z8_5 : w6.heap.size < w8.heap.size := (by omega)
  have hc8_6 : ∀ o, w8.cell? ⟨w7.heap.size, o, none⟩ = _ := fun o => hb8.cell (p := ⟨w7.heap.size, o, none⟩) (by ((try simp only [World.size_alloc, World.size_setCell, World.size_drew, size_drewN]); omega))
  have hf8_6 : ∀ o, w8.frozen? ⟨w7.heap.size, o, none⟩ = _ := fun o => hb8.frozen (p := ⟨w7.heap.size, o, none⟩) (by ((try simp only [World.size_alloc, World.size_setCell, World.size_drew, size_drewN]); omega))
  have z8_6 : w7.heap.size < w8.heap.size := (by omega)
  go_wp2_with fail
  refine (F4.out _).mono ?_
  rintro e w9 ⟨rfl, hb9⟩
  have hs9 := hb9.size
  try simp only [World.size_alloc, World.size_setCell, World.size_drew, size_drewN] at hs9
  have hc9_0 : ∀ o, w9.cell? ⟨v2.heap.size, o, none⟩ = _ := fun o => hb9.cell (p := ⟨v2.heap.size, o, none⟩) (by ((try simp only [World.size_alloc, World.size_setCell, World.size_drew, size_drewN]); omega))
  have hf9_0 : ∀ o, w9.frozen? ⟨v2.heap.size, o, none⟩ = _ := fun o => hb9.frozen (p := ⟨v2.heap.size, o, none⟩) (by ((try simp only [World.size_alloc, World.size_setCell, World.size_drew, size_drewN]); omega))
  have z9_0 : v2.heap.size < w9.heap.size := (by omega)
  have hc9_1 : ∀ o, w9.cell? ⟨v2.heap.size + 1, o, none⟩ = _ := fun o => hb9.cell (p := ⟨v2.heap.size + 1, o, none⟩) (by ((try simp only [World.size_alloc, World.size_setCell, World.size_drew, size_drewN]); omega))
  have hf9_1 : ∀ o, w9.frozen? ⟨v2.heap.size + 1, o, none⟩ = _ := fun o => hb9.frozen (p := ⟨v2.heap.size + 1, o, none⟩) (by ((try simp only [World.size_alloc, World.size_setCell, World.size_drew, size_drewN]); omega))
  have z9_1 : v2.heap.size + 1 < w9.heap.size := (by omega)
  have hc9_2 : ∀ o, w9.cell? ⟨w3.heap.size, o, none⟩ = _ := fun o => hb9.cell (p := ⟨w3.heap.size, o, none⟩) (by ((try simp only [World.size_alloc, World.size_setCell, World.size_drew, size_drewN]); omega))
  have hf9_2 : ∀ o, w9.frozen? ⟨w3.heap.size, o, none⟩ = _ := fun o => hb9.frozen (p := ⟨w3.heap.size, o, none⟩) (by ((try simp only [World.size_alloc, World.size_setCell, World.size_drew, size_drewN]); omega))
  have z9_2 : w3.heap.size < w9.heap.size := (by omega)
  have hc9_3 : ∀ o, w9.cell? ⟨w4.heap.size, o, none⟩ = _ := fun o => hb9.cell (p := ⟨w4.heap.size, o, none⟩) (by ((try simp only [World.size_alloc, World.size_setCell, World.size_drew, size_drewN]); omega))
  have hf9_3 : ∀ o, w9.frozen? ⟨w4.heap.size, o, none⟩ = _ := fun o => hb9.frozen (p := ⟨w4.heap.size, o, none⟩) (by ((try simp only [World.size_alloc, World.size_setCell, World.size_drew, size_drewN]); omega))
  have z9_3 : w4.heap.size < w9.heap.size := (by omega)
  have hc9_4 : ∀ o, w9.cell? ⟨w5.heap.size, o, none⟩ = _ := fun o => hb9.cell (p := ⟨w5.heap.size, o, none⟩) (by ((try simp only [World.size_alloc, World.size_setCell, World.size_drew, size_drewN]); omega))
  have hf9_4 : ∀ o, w9.frozen? ⟨w5.heap.size, o, none⟩ = _ := fun o => hb9.frozen (p := ⟨w5.heap.size, o, none⟩) (by ((try simp only [World.size_alloc, World.size_setCell, World.size_drew, size_drewN]); omega))
  have z9_4 : w5.heap.size < w9.heap.size := (by omega)
  have hc9_5 : ∀ o, w9.cell? ⟨w6.heap.size, o, none⟩ = _ := fun o => hb9.cell (p := ⟨w6.heap.size, o, none⟩) (by ((try simp only [World.size_alloc, World.size_setCell, World.size_drew, size_drewN]); omega))
  have hf9_5 : ∀ o, w9.frozen? ⟨w6.heap.size, o, none⟩ = _ := fun o => hb9.frozen (p := ⟨w6.heap.size, o, none⟩) (by ((try simp only [World.size_alloc, World.size_setCell, World.size_drew, size_drewN]); omega))
  have z9_5 : w6.heap.size < w9.heap.size := (by omega)
  have hc9_6 : ∀ o, w9.cell? ⟨w7.heap.size, o, none⟩ = _ := fun o => hb9.cell (p := ⟨w7.heap.size, o, none⟩) (by ((try simp only [World.size_alloc, World.size_setCell, World.size_drew, size_drewN]); omega))
  have hf9_6 : ∀ o, w9.frozen? ⟨w7.heap.size, o, none⟩ = _ := fun o => hb9.frozen (p := ⟨w7.heap.size, o, none⟩) (by ((try simp only [World.size_alloc, World.size_setCell, World.size_drew, size_drewN]); omega))
  have z9_6 : w7.heap.size < w9.heap.size := (by omega)
  have hc9_7 : ∀ o, w9.cell? ⟨w8.heap.size, o, none⟩ = _ := fun o => hb9.cell (p := ⟨w8.heap.size, o, none⟩) (by ((try simp only [World.size_alloc, World.size_setCell, World.size_drew, size_drewN]); omega))
  have hf9_7 : ∀ o, w9.frozen? ⟨w8.heap.size, o, none⟩ = _ := fun o => hb9.frozen (p := ⟨w8.heap.size, o, none⟩) (by ((try simp only [World.size_alloc, World.size_setCell, World.size_drew, size_drewN]); omega))
  have z9_7 : w8.heap.size < w9.heap.size := (by omega)
  go_wp2_with fail
  refine (awake1_c _).mono ?_
  rintro e w10 ⟨rfl, hb10⟩
  have hs10 := hb10.size
  try simp only [World.size_alloc, World.size_setCell, World.size_drew, size_drewN] at hs10
  have hc10_0 : ∀ o, w10.cell? ⟨v2.heap.size, o, none⟩ = _ := fun o => hb10.cell (p := ⟨v2.heap.size, o, none⟩) (by ((try simp only [World.size_alloc, World.size_setCell, World.size_drew, size_drewN]); omega))
  have hf10_0 : ∀ o, w10.frozen? ⟨v2.heap.size, o, none⟩ = _ := fun o => hb10.frozen (p := ⟨v2.heap.size, o, none⟩) (by ((try simp only [World.size_alloc, World.size_setCell, World.size_drew, size_drewN]); omega))
  have z10_0 : v2.heap.size < w10.heap.size := (by omega)
  have hc10_1 : ∀ o, w10.cell? ⟨v2.heap.size + 1, o, none⟩ = _ := fun o => hb10.cell (p := ⟨v2.heap.size + 1, o, none⟩) (by ((try simp only [World.size_alloc, World.size_setCell, World.size_drew, size_drewN]); omega))
  have hf10_1 : ∀ o, w10.frozen? ⟨v2.heap.size + 1, o, none⟩ = _ := fun o => hb10.frozen (p := ⟨v2.heap.size + 1, o, none⟩) (by ((try simp only [World.size_alloc, World.size_setCell, World.size_drew, size_drewN]); omega))
  have z10_1 : v2.heap.size + 1 < w10.heap.size := (by omega)
  have hc10_2 : ∀ o, w10.cell? ⟨w3.heap.size, o, none⟩ = _ := fun o => hb10.cell (p := ⟨w3.heap.size, o, none⟩) (by ((try simp only [World.size_alloc, World.size_setCell, World.size_drew, size_drewN]); omega))
  have hf10_2 : ∀ o, w10.frozen? ⟨w3.heap.size, o, none⟩ = _ := fun o => hb10.frozen (p := ⟨w3.heap.size, o, none⟩) (by ((try simp only [World.size_alloc, World.size_setCell, World.size_drew, size_drewN]); omega))
  have z10_2 : w3.heap.size < w10.heap.size := (by omega)
  have hc10_3 : ∀ o, w10.cell? ⟨w4.heap.size, o, none⟩ = _ := fun o => hb10.cell (p := ⟨w4.heap.size, o, none⟩) (by ((try simp only [World.size_alloc, World.size_setCell, World.size_drew, size_drewN]); omega))
  have hf10_3 : ∀ o, w10.frozen? ⟨w4.heap.size, o, none⟩ = _ := fun o => hb10.frozen (p := ⟨w4.heap.size, o, none⟩) (by ((try simp only [World.size_alloc, World.size_setCell, World.size_drew, size_drewN]); omega))
  have z10_3 : w4.heap.size < w10.heap.size := (by omega)
  have hc10_4 : ∀ o, w10.cell? ⟨w5.heap.size, o, none⟩ = _ := fun o => hb10.cell (p := ⟨w5.heap.size, o, none⟩) (by ((try simp only [World.size_alloc, World.size_setCell, World.size_drew, size_drewN]); omega))
  have hf10_4 : ∀ o, w10.frozen? ⟨w5.heap.size, o, none⟩ = _ := fun o => hb10.frozen (p := ⟨w5.heap.size, o, none⟩) (by ((try simp only [World.size_alloc, World.size_setCell, World.size_drew, size_drewN]); omega))
  have z10_4 : w5.heap.size < w10.heap.size := (by omega)
  have hc10_5 : ∀ o, w10.cell? ⟨w6.heap.size, o, none⟩ = _ := fun o => hb10.cell (p := ⟨w6.heap.size, o, none⟩) (by ((try simp only [World.size_alloc, World.size_setCell, World.size_drew, size_drewN]); omega))
  have hf10_5 : ∀ o, w10.frozen? ⟨w6.heap.size, o, none⟩ = _ := fun o => hb10.frozen (p := ⟨w6.heap.size, o, none⟩) (by ((try simp only [World.size_alloc, World.size_setCell, World.size_drew, size_drewN]); omega))
  have z10_5 : w6.heap.size < w10.heap.size := (by omega)
  have hc10_6 : ∀ o, w10.cell? ⟨w7.heap.size, o, none⟩ = _ := fun o => hb10.cell (p := ⟨w7.heap.size, o, none⟩) (by ((try simp only [World.size_alloc, World.size_setCell, World.size_drew, size_drewN]); omega))
  have hf10_6 : ∀ o, w10.frozen? ⟨w7.heap.size, o, none⟩ = _ := fun o => hb10.frozen (p := ⟨w7.heap.size, o, none⟩) (by ((try simp only [World.size_alloc, World.size_setCell, World.size_drew, size_drewN]); omega))
  have z10_6 : w7.heap.size < w10.heap.size := (by omega)
  have hc10_7 : ∀ o, w10.cell? ⟨w8.heap.size, o, none⟩ = _ := fun o => hb10.cell (p := ⟨w8.heap.size, o, none⟩) (by ((try simp only [World.size_alloc, World.size_setCell, World.size_drew, size_drewN]); omega))
  have hf10_7 : ∀ o, w10.frozen? ⟨w8.heap.size, o, none⟩ = _ := fun o => hb10.frozen (p := ⟨w8.heap.size, o, none⟩) (by ((try simp only [World.size_alloc, World.size_setCell, World.size_drew, size_drewN]); omega))
  have z10_7 : w8.heap.size < w10.heap.size := (by omega)
  go_wp2
  go_ret
  exact ⟨rfl, (by (repeat' (first | (with_reducible exact Below.refl _ _) | (with_reducible assumption) | (with_reducible refine Below.alloc ?_ ?_ _) | (with_reducible refine Below.drew ?_) | (with_reducible refine below_drewN ?_ _) | (with_reducible refine Below.setCell ?_ ?_ _) | (with_reducible refine below_step (by with_reducible assumption) ?_ ?_) | (first | (with_reducible exact Nat.le_refl _) | (with_reducible assumption) | omega | (simp only [World.size_alloc, World.size_setCell, World.size_drew, size_drewN]; omega) | (simp; omega) | (simp; done)))))⟩
end Go.Proofs.Ytphnmolndhnnpaa
