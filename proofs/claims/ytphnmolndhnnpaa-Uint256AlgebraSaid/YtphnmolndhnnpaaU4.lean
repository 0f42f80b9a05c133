/- The examples of chapter 1. -/
import Derived.WalkKit
import Derived.KernelRfl
import Derived.RowKit3
import Derived.Deep.LoopGhost
import Derived.Deep.QuietTactic
import Derived.BigQuiet
import Derived.WideLaws
import Derived.Laws.Rows
import Derived.Below
import Derived.Deep.Draws
import Derived.Outline
import Derived.LoopN
import Derived.Handy
import Derived.Laws.Externs
import Derived.Laws.BitsAllLaws
import Derived.Laws.BitsLemmas
import Derived.Test.YtphnmolndhnnpaaU3
import Derived.OpenShut
namespace Go.Proofs.Ytphnmolndhnnpaa
open Go.RowKit
set_option linter.unusedVariables false
set_option linter.unusedSimpArgs false
theorem one_of {n : Nat} (h : n < 18446744073709551616) : isU n (n : Int) 0 0 0 := by constructor <;> omega
theorem lim_one {n : Nat} (h : n < 18446744073709551616) : lim n 0 = n ∧ lim n 1 = 0 ∧ lim n 2 = 0 ∧ lim n 3 = 0 := by
  obtain ⟨a, b, c, d⟩ := (one_of h).lims
  exact ⟨a.symm, b.symm, c.symm, d.symm⟩
theorem min_ex : minV 9 [4, 6] = 4 := by decide
set_option maxHeartbeats 2000000 in
theorem awake1_c (w : World) : Calls Try.prog 10 #[] w fun e w' => e = .returned (.bool true) ∧ Below w.heap.size w w' := by
  have f1 : subE 3 5 = 4 := by decide
  have f2 : subV 3 5 = 0 := by decide
  have f3 : blI 256 = 9 := by decide
  have f4 : u64V 7 = 7 := by decide
  have f5 : u64B 7 = true := by decide
  have l0 := lim_zero 0
  have l1 := lim_zero 1
  have l2 := lim_zero 2
  have l3 := lim_zero 3
  go_enter Try.func10, Try.ntmps10
  go_wp2_with fail
  refine (from_c _ _).mono ?_
  rintro e w1 ⟨rfl, hb1⟩
  obtain ⟨hc1, hf1⟩ := bcell hb1
  have hs1 := hb1.size
  try simp only [World.size_alloc, World.size_setCell, World.size_drew, size_drewN] at hs1
  go_wp2_with fail
  refine (from_c _ _).mono ?_
  rintro e w2 ⟨rfl, hb2⟩
  obtain ⟨hc2, hf2⟩ := bcell hb2
  have hs2 := hb2.size
  try simp only [World.size_alloc, World.size_setCell, World.size_drew, size_drewN] at hs2
  go_wp2_with fail
  refine (sub_c (one_of (n := 3) (by omega)) (one_of (n := 5) (by omega)) _).mono ?_
  rintro e w3 ⟨rfl, hb3⟩
  obtain ⟨hc3, hf3⟩ := bcell hb3
  have hs3 := hb3.size
  try simp only [World.size_alloc, World.size_setCell, World.size_drew, size_drewN] at hs3
  go_wp2_with fail
  refine (from_c _ _).mono ?_
  rintro e w4 ⟨rfl, hb4⟩
  obtain ⟨hc4, hf4⟩ := bcell hb4
  have hs4 := hb4.size
  try simp only [World.size_alloc, World.size_setCell, World.size_drew, size_drewN] at hs4
  obtain z4_0 : w3.heap.size < w4.heap.size := (by (have hz_ := hb4.size; (try simp at hz_); omega))
  go_wp2_with fail
  refine (u64_c (one_of (n := 7) (by omega)) _).mono ?_
  rintro e w5 ⟨rfl, hb5⟩
  obtain ⟨hc5, hf5⟩ := bcell hb5
  have hs5 := hb5.size
  try simp only [World.size_alloc, World.size_setCell, World.size_drew, size_drewN] at hs5
  obtain z5_0 : w3.heap.size < w5.heap.size := (by (have hz_ := hb5.size; (try simp at hz_); omega))
  go_wp2_with fail
  refine (from_c _ _).mono ?_
  rintro e w6 ⟨rfl, hb6⟩
  obtain ⟨hc6, hf6⟩ := bcell hb6
  have hs6 := hb6.size
  try simp only [World.size_alloc, World.size_setCell, World.size_drew, size_drewN] at hs6
  obtain z6_0 : w3.heap.size < w6.heap.size := (by (have hz_ := hb6.size; (try simp at hz_); omega))
  go_wp2_with fail
  refine (from_c _ _).mono ?_
  rintro e w7 ⟨rfl, hb7⟩
  obtain ⟨hc7, hf7⟩ := bcell hb7
  have hs7 := hb7.size
  try simp only [World.size_alloc, World.size_setCell, World.size_drew, size_drewN] at hs7
  obtain z7_0 : w3.heap.size < w7.heap.size := (by (have hz_ := hb7.size; (try simp at hz_); omega))
  go_wp2_with fail
  refine (satsub_c (one_of (n := 3) (by omega)) (one_of (n := 5) (by omega)) _).mono ?_
  rintro e w8 ⟨rfl, hb8⟩
  obtain ⟨hc8, hf8⟩ := bcell hb8
  have hs8 := hb8.size
  try simp only [World.size_alloc, World.size_setCell, World.size_drew, size_drewN] at hs8
  obtain z8_0 : w3.heap.size < w8.heap.size := (by (have hz_ := hb8.size; (try simp at hz_); omega))
  go_wp2_with fail
  refine (from_c _ _).mono ?_
  rintro e w9 ⟨rfl, hb9⟩
  obtain ⟨hc9, hf9⟩ := bcell hb9
  have hs9 := hb9.size
  try simp only [World.size_alloc, World.size_setCell, World.size_drew, size_drewN] at hs9
  obtain z9_0 : w3.heap.size < w9.heap.size := (by (have hz_ := hb9.size; (try simp at hz_); omega))
  go_wp2_with fail
  refine (bitlen_c (one_of (n := 256) (by omega)) _).mono ?_
  rintro e w10 ⟨rfl, hb10⟩
  obtain ⟨hc10, hf10⟩ := bcell hb10
  have hs10 := hb10.size
  try simp only [World.size_alloc, World.size_setCell, World.size_drew, size_drewN] at hs10
  obtain z10_0 : w3.heap.size < w10.heap.size := (by (have hz_ := hb10.size; (try simp at hz_); omega))
  go_wp2_with fail
  refine (from_c _ _).mono ?_
  rintro e w11 ⟨rfl, hb11⟩
  obtain ⟨hc11, hf11⟩ := bcell hb11
  have hs11 := hb11.size
  try simp only [World.size_alloc, World.size_setCell, World.size_drew, size_drewN] at hs11
  obtain z11_0 : w3.heap.size < w11.heap.size := (by (have hz_ := hb11.size; (try simp at hz_); omega))
  go_wp2_with fail
  refine (from_c _ _).mono ?_
  rintro e w12 ⟨rfl, hb12⟩
  obtain ⟨hc12, hf12⟩ := bcell hb12
  have hs12 := hb12.size
  try simp only [World.size_alloc, World.size_setCell, World.size_drew, size_drewN] at hs12
  obtain z12_0 : w3.heap.size < w12.heap.size := (by (have hz_ := hb12.size; (try simp at hz_); omega))
  go_wp2_with fail
  refine (from_c _ _).mono ?_
  rintro e w13 ⟨rfl, hb13⟩
  obtain ⟨hc13, hf13⟩ := bcell hb13
  have hs13 := hb13.size
  try simp only [World.size_alloc, World.size_setCell, World.size_drew, size_drewN] at hs13
  obtain z13_0 : w3.heap.size < w13.heap.size := (by (have hz_ := hb13.size; (try simp at hz_); omega))
  have m1 := min_ex
  obtain ⟨p0, p1, p2, p3⟩ := lim_one (n := 4) (by omega)
  obtain ⟨r0, r1, r2, r3⟩ := lim_one (n := 6) (by omega)
  go_wp2_with fail
  refine (min_c (one_of (n := 9) (by omega)) (L := [4, 6]) (by intro x hx; simp at hx; unfold M256; omega) _ _ _ (by simp) ?_).mono ?_
  · intro i hi
    refine ⟨_, _, rfl, ?_⟩
    simp at hi
    have hi : i = 0 ∨ i = 1 := by omega
    intro j hj
    have hj : j = 0 ∨ j = 1 ∨ j = 2 ∨ j = 3 := by omega
    rcases hi with rfl | rfl <;> rcases hj with rfl | rfl | rfl | rfl <;> simp [go_sem, p0, p1, p2, p3, r0, r1, r2, r3]
  rintro e w14 ⟨rfl, hb14⟩
  have hs14 := hb14.size
  try simp only [World.size_alloc, World.size_setCell, World.size_drew, size_drewN] at hs14
  go_wp2_with fail
  refine (from_c _ _).mono ?_
  rintro e w15 ⟨rfl, hb15⟩
  obtain ⟨hc15, hf15⟩ := bcell hb15
  have hs15 := hb15.size
  try simp only [World.size_alloc, World.size_setCell, World.size_drew, size_drewN] at hs15
  go_wp2
  go_ret
  exact ⟨rfl, (by (repeat' (first | (with_reducible exact Below.refl _ _) | (with_reducible assumption) | (with_reducible refine Below.alloc ?_ ?_ _) | (with_reducible refine Below.drew ?_) | (with_reducible refine below_drewN ?_ _) | (with_reducible refine Below.setCell ?_ ?_ _) | (with_reducible refine below_step (by with_reducible assumption) ?_ ?_) | (first | (with_reducible exact Nat.le_refl _) | (with_reducible assumption) | omega | (simp only [World.size_alloc, World.size_setCell, World.size_drew, size_drewN]; omega) | (simp; omega) | (simp; done)))))⟩
end Go.Proofs.Ytphnmolndhnnpaa
