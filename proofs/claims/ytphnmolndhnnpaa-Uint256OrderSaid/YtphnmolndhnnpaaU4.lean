/- The examples of chapter 1. -/
import Derived.WalkKit
import Derived.KernelRfl
import Derived.RowKit3
import Derived.Deep.LoopGhost
import Derived.Deep.QuietTactic
import Derived.BigQuiet
import Derived.WideLaws
import Derived.Laws.Rows
import Derived.Below
import Derived.Deep.Draws
import Derived.Outline
import Derived.LoopN
import Derived.Handy
import Derived.Laws.Externs
import Derived.Laws.BitsAllLaws
import Derived.Laws.BitsLemmas
import Derived.Deep.DeepCutAuto
import Derived.Deep.CutBlock
import Derived.Deep.RegionHeld3
import Derived.Test.YtphnmolndhnnpaaU3
import Derived.OpenShut
namespace Go.Proofs.Ytphnmolndhnnpaa
open Go.RowKit
set_option linter.unusedVariables false
set_option linter.unusedSimpArgs false
theorem one_of {n : Nat} (h : n < 18446744073709551616) : isU n (n : Int) 0 0 0 := by constructor <;> omega
theorem lim_one {n : Nat} (h : n < 18446744073709551616) : lim n 0 = n ∧ lim n 1 = 0 ∧ lim n 2 = 0 ∧ lim n 3 = 0 := by
  obtain ⟨a, b, c, d⟩ := (one_of h).lims
  exact ⟨a.symm, b.symm, c.symm, d.symm⟩
theorem min_ex : minV 9 [4, 6] = 4 := by decide
set_option maxHeartbeats 2000000 in
theorem awake1_c (w : World) : Calls Try.prog 10 #[] w fun e w' => e = .returned (.bool true) ∧ Below w.heap.size w w' := by
  have f1 : subE 3 5 = 4 := by decide
  have f2 : subV 3 5 = 0 := by decide
  have f3 : blI 256 = 9 := by decide
  have f4 : u64V 7 = 7 := by decide
  have f5 : u64B 7 = true := by decide
  have l0 := lim_zero 0
  have l1 := lim_zero 1
  have l2 := lim_zero 2
  have l3 := lim_zero 3
  go_enter Try.func10, Try.ntmps10
  go_wp2_with fail
  refine (from_c _ _).mono ?_
  rintro e w1 ⟨rfl, hb1⟩
  have hs1 := hb1.size
  try simp only [World.size_alloc, World.size_setCell, World.size_drew, size_drewN] at hs1
  go_wp2_with fail
  refine (from_c _ _).mono ?_
  rintro e w2 ⟨rfl, hb2⟩
  have hs2 := hb2.size
  try simp only [World.size_alloc, World.size_setCell, World.size_drew, size_drewN] at hs2
  go_wp2_with fail
  refine (sub_c (one_of (n := 3) (by omega)) (one_of (n := 5) (by omega)) _).mono ?_
  rintro e w3 ⟨rfl, hb3⟩
  have hs3 := hb3.size
  try simp only [World.size_alloc, World.size_setCell, World.size_drew, size_drewN] at hs3
  go_wp2_with fail
  refine (from_c _ _).mono ?_
  rintro e w4 ⟨rfl, hb4⟩
  have hs4 := hb4.size
  try simp only [World.size_alloc, World.size_setCell, World.size_drew, size_drewN] at hs4
  have hc4_0 : ∀ o, w4.cell? ⟨w3.heap.size, o, none⟩ = _ := fun o => hb4.cell (p := ⟨w3.heap.size, o, none⟩) (by ((try simp only [World.size_alloc, World.size_setCell, World.size_drew, size_drewN]); omega))
  have hf4_0 : ∀ o, w4.frozen? ⟨w3.heap.size, o, none⟩ = _ := fun o => hb4.frozen (p := ⟨w3.heap.size, o, none⟩) (by ((try simp only [World.size_alloc, World.size_setCell, World.size_drew, size_drewN]); omega))
  have z4_0 : w3.heap.size < w4.heap.size := (by omega)
  go_wp2_with fail
  refine (u64_c (one_of (n := 7) (by omega)) _).mono ?_
  rintro e w5 ⟨rfl, hb5⟩
  have hs5 := hb5.size
  try simp only [World.size_alloc, World.size_setCell, World.size_drew, size_drewN] at hs5
  have hc5_0 : ∀ o, w5.cell? ⟨w3.heap.size, o, none⟩ = _ := fun o => hb5.cell (p := ⟨w3.heap.size, o, none⟩) (by ((try simp only [World.size_alloc, World.size_setCell, World.size_drew, size_drewN]); omega))
  have hf5_0 : ∀ o, w5.frozen? ⟨w3.heap.size, o, none⟩ = _ := fun o => hb5.frozen (p := ⟨w3.heap.size, o, none⟩) (by ((try simp only [World.size_alloc, World.size_setCell, World.size_drew, size_drewN]); omega))
  have z5_0 : w3.heap.size < w5.heap.size := (by omega)
  go_wp2_with fail
  refine (from_c _ _).mono ?_
  rintro e w6 ⟨rfl, hb6⟩
  have hs6 := hb6.size
  try simp only [World.size_alloc, World.size_setCell, World.size_drew, size_drewN] at hs6
  have hc6_0 : ∀ o, w6.cell? ⟨w3.heap.size, o, none⟩ = _ := fun o => hb6.cell (p := ⟨w3.heap.size, o, none⟩) (by ((try simp only [World.size_alloc, World.size_setCell, World.size_drew, size_drewN]); omega))
  have hf6_0 : ∀ o, w6.frozen? ⟨w3.heap.size, o, none⟩ = _ := fun o => hb6.frozen (p := ⟨w3.heap.size, o, none⟩) (by ((try simp only [World.size_alloc, World.size_setCell, World.size_drew, size_drewN]); omega))
  have z6_0 : w3.heap.size < w6.heap.size := (by omega)
  go_wp2_with fail
  refine (from_c _ _).mono ?_
  rintro e w7 ⟨rfl, hb7⟩
  have hs7 := hb7.size
  try simp only [World.size_alloc, World.size_setCell, World.size_drew, size_drewN] at hs7
  have hc7_0 : ∀ o, w7.cell? ⟨w3.heap.size, o, none⟩ = _ := fun o => hb7.cell (p := ⟨w3.heap.size, o, none⟩) (by ((try simp only [World.size_alloc, World.size_setCell, World.size_drew, size_drewN]); omega))
  have hf7_0 : ∀ o, w7.frozen? ⟨w3.heap.size, o, none⟩ = _ := fun o => hb7.frozen (p := ⟨w3.heap.size, o, none⟩) (by ((try simp only [World.size_alloc, World.size_setCell, World.size_drew, size_drewN]); omega))
  have z7_0 : w3.heap.size < w7.heap.size := (by omega)
  go_wp2_with fail
  refine (satsub_c (one_of (n := 3) (by omega)) (one_of (n := 5) (by omega)) _).mono ?_
  rintro e w8 ⟨rfl, hb8⟩
  have hs8 := hb8.size
  try simp only [World.size_alloc, World.size_setCell, World.size_drew, size_drewN] at hs8
  have hc8_0 : ∀ o, w8.cell? ⟨w3.heap.size, o, none⟩ = _ := fun o => hb8.cell (p := ⟨w3.heap.size, o, none⟩) (by ((try simp only [World.size_alloc, World.size_setCell, World.size_drew, size_drewN]); omega))
  have hf8_0 : ∀ o, w8.frozen? ⟨w3.heap.size, o, none⟩ = _ := fun o => hb8.frozen (p := ⟨w3.heap.size, o, none⟩) (by ((try simp only [World.size_alloc, World.size_setCell, World.size_drew, size_drewN]); omega))
  have z8_0 : w3.heap.size < w8.heap.size := (by omega)
  go_wp2_with fail
  refine (from_c _ _).mono ?_
  rintro e w9 ⟨rfl, hb9⟩
  have hs9 := hb9.size
  try simp only [World.size_alloc, World.size_setCell, World.size_drew, size_drewN] at hs9
  have hc9_0 : ∀ o, w9.cell? ⟨w3.heap.size, o, none⟩ = _ := fun o => hb9.cell (p := ⟨w3.heap.size, o, none⟩) (by ((try simp only [World.size_alloc, World.size_setCell, World.size_drew, size_drewN]); omega))
  have hf9_0 : ∀ o, w9.frozen? ⟨w3.heap.size, o, none⟩ = _ := fun o => hb9.frozen (p := ⟨w3.heap.size, o, none⟩) (by ((try simp only [World.size_alloc, World.size_setCell, World.size_drew, size_drewN]); omega))
  have z9_0 : w3.heap.size < w9.heap.size := (by omega)
  go_wp2_with fail
  refine (bitlen_c (one_of (n := 256) (by omega)) _).mono ?_
  rintro e w10 ⟨rfl, hb10⟩
  have hs10 := hb10.size
  try simp only [World.size_alloc, World.size_setCell, World.size_drew, size_drewN] at hs10
  have hc10_0 : ∀ o, w10.cell? ⟨w3.heap.size, o, none⟩ = _ := fun o => hb10.cell (p := ⟨w3.heap.size, o, none⟩) (by ((try simp only [World.size_alloc, World.size_setCell, World.size_drew, size_drewN]); omega))
  have hf10_0 : ∀ o, w10.frozen? ⟨w3.heap.size, o, none⟩ = _ := fun o => hb10.frozen (p := ⟨w3.heap.size, o, none⟩) (by ((try simp only [World.size_alloc, World.size_setCell, World.size_drew, size_drewN]); omega))
  have z10_0 : w3.heap.size < w10.heap.size := (by omega)
  go_wp2_with fail
  refine (from_c _ _).mono ?_
  rintro e w11 ⟨rfl, hb11⟩
  have hs11 := hb11.size
  try simp only [World.size_alloc, World.size_setCell, World.size_drew, size_drewN] at hs11
  have hc11_0 : ∀ o, w11.cell? ⟨w3.heap.size, o, none⟩ = _ := fun o => hb11.cell (p := ⟨w3.heap.size, o, none⟩) (by ((try simp only [World.size_alloc, World.size_setCell, World.size_drew, size_drewN]); omega))
  have hf11_0 : ∀ o, w11.frozen? ⟨w3.heap.size, o, none⟩ = _ := fun o => hb11.frozen (p := ⟨w3.heap.size, o, none⟩) (by ((try simp only [World.size_alloc, World.size_setCell, World.size_drew, size_drewN]); omega))
  have z11_0 : w3.heap.size < w11.heap.size := (by omega)
  go_wp2_with fail
  refine (from_c _ _).mono ?_
  rintro e w12 ⟨rfl, hb12⟩
  have hs12 := hb12.size
  try simp only [World.size_alloc, World.size_setCell, World.size_drew, size_drewN] at hs12
  have hc12_0 : ∀ o, w12.cell? ⟨w3.heap.size, o, none⟩ = _ := fun o => hb12.cell (p := ⟨w3.heap.size, o, none⟩) (by ((try simp only [World.size_alloc, World.size_setCell, World.size_drew, size_drewN]); omega))
  have hf12_0 : ∀ o, w12.frozen? ⟨w3.heap.size, o, none⟩ = _ := fun o => hb12.frozen (p := ⟨w3.heap.size, o, none⟩) (by ((try simp only [World.size_alloc, World.size_setCell, World.size_drew, size_drewN]); omega))
  have z12_0 : w3.heap.size < w12.heap.size := (by omega)
  go_wp2_with fail
  refine (from_c _ _).mono ?_
  rintro e w13 ⟨rfl, hb13⟩
  have hs13 := hb13.size
  try simp only [World.size_alloc, World.size_setCell, World.size_drew, size_drewN] at hs13
  have hc13_0 : ∀ o, w13.cell? ⟨w3.heap.size, o, none⟩ = _ := fun o => hb13.cell (p := ⟨w3.heap.size, o, none⟩) (by ((try simp only [World.size_alloc, World.size_setCell, World.size_drew, size_drewN]); omega))
  have hf13_0 : ∀ o, w13.frozen? ⟨w3.heap.size, o, none⟩ = _ := fun o => hb13.frozen (p := ⟨w3.heap.size, o, none⟩) (by ((try simp only [World.size_alloc, World.size_setCell, World.size_drew, size_drewN]); omega))
  have z13_0 : w3.heap.size < w13.heap.size := (by omega)
  have m1 := min_ex
  obtain ⟨p0, p1, p2, p3⟩ := lim_one (n := 4) (by omega)
  obtain ⟨r0, r1, r2, r3⟩ := lim_one (n := 6) (by omega)
  go_wp2_with fail
  refine (min_c (one_of (n := 9) (by omega)) (L := [4, 6]) (by intro x hx; simp at hx; unfold M256; omega) _ _ _ (by simp) ?_).mono ?_
  · intro i hi
    refine ⟨_, _, rfl, ?_⟩
    simp at hi
    have hi : i = 0 ∨ i = 1 := by omega
    intro j hj
    have hj : j = 0 ∨ j = 1 ∨ j = 2 ∨ j = 3 := by omega
    rcases hi with rfl | rfl <;> rcases hj with rfl | rfl | rfl | rfl <;> simp [go_sem, p0, p1, p2, p3, r0, r1, r2, r3]
  rintro e w14 ⟨rfl, hb14⟩
  have hs14 := hb14.size
  try simp only [World.size_alloc, World.size_setCell, World.size_drew, size_drewN] at hs14
  go_wp2_with fail
  refine (from_c _ _).mono ?_
  rintro e w15 ⟨rfl, hb15⟩
  have hs15 := hb15.size
  try simp only [World.size_alloc, World.size_setCell, World.size_drew, size_drewN] at hs15
  go_wp2
  go_ret
  exact ⟨rfl, (by (repeat' (first | (with_reducible exact Below.refl _ _) | (with_reducible assumption) | (with_reducible refine Below.alloc ?_ ?_ _) | (with_reducible refine Below.drew ?_) | (with_reducible refine below_drewN ?_ _) | (with_reducible refine Below.setCell ?_ ?_ _) | (with_reducible refine below_step (by with_reducible assumption) ?_ ?_) | (first | (with_reducible exact Nat.le_refl _) | (with_reducible assumption) | omega | (simp only [World.size_alloc, World.size_setCell, World.size_drew, size_drewN]; omega) | (simp; omega) | (simp; done)))))⟩
end Go.Proofs.Ytphnmolndhnnpaa
