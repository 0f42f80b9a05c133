/- Chapter 18: the laws without the reference, walked. -/
import Derived.WalkKit
import Derived.KernelRfl
import Derived.RowKit3
import Derived.Deep.LoopGhost
import Derived.Deep.QuietTactic
import Derived.BigQuiet
import Derived.WideLaws
import Derived.Laws.Rows
import Derived.Below
import Derived.Deep.Draws
import Derived.Outline
import Derived.LoopN
import Derived.Handy
import Derived.Laws.Externs
import Derived.Laws.BitsAllLaws
import Derived.Laws.BitsLemmas
import Derived.Deep.DeepCutAuto
import Derived.Deep.CutBlock
import Derived.Deep.RegionHeld3
import Derived.Test.YtnfglfkojngllaaA1
namespace Go.Proofs.Ytnfglfkojngllaa
open Go.RowKit
set_option linter.unusedVariables false
set_option linter.unusedSimpArgs false
set_option maxHeartbeats 8000000 in
theorem AllocMonotone_walk (a0 a1 a2 a3 a4 : Int) (w0 : (Lit.int .u64 a0).wf = true) (w1 : (Lit.int .u64 a1).wf = true) (w2 : (Lit.int .u64 a2).wf = true) (w3 : (Lit.int .u64 a3).wf = true) (w4 : (Lit.int .u64 a4).wf = true) (w : World) :
    Calls Try.prog 4 #[.int .u64 a0, .int .u64 a1, .int .u64 a2, .int .u64 a3, .int .u64 a4] w fun e w' => e = .returned (.bool true) ∧ Below w.heap.size w w' := by
  obtain ⟨p0, q0⟩ := bounds_u64 w0
  obtain ⟨p1, q1⟩ := bounds_u64 w1
  obtain ⟨p2, q2⟩ := bounds_u64 w2
  obtain ⟨p3, q3⟩ := bounds_u64 w3
  obtain ⟨p4, q4⟩ := bounds_u64 w4
  clear w0 w1 w2 w3 w4
  obtain ⟨L, e1, x1, y1⟩ := tmod_ex (x := a1) (K := 1099511627776) p1 (by omega)
  obtain ⟨A, e2, x2, y2⟩ := tmod_ex (x := a2) (K := 1099511627776) p2 (by omega)
  obtain ⟨B, e3, x3, y3⟩ := tmod_ex (x := a3) (K := 1099511627776) p3 (by omega)
  obtain ⟨C, e4, x4, y4⟩ := tmod_ex (x := a4) (K := 1099511627776) p4 (by omega)
  have f1 : IntKind.u64.wrap (L + A) = L + A := wrap_id (by omega) (by omega)
  have f2 : IntKind.u64.wrap (L + A + B) = L + A + B := wrap_id (by omega) (by omega)
  have f3 : IntKind.u64.wrap (L + A + B + C) = L + A + B + C := wrap_id (by omega) (by omega)
  obtain ⟨U, hU⟩ : ∃ U, L + A = U := ⟨_, rfl⟩
  rw [hU] at f1 f2 f3
  obtain ⟨V, hV⟩ : ∃ V, U + B = V := ⟨_, rfl⟩
  rw [hV] at f2 f3
  obtain ⟨N, hN⟩ : ∃ N, V + C = N := ⟨_, rfl⟩
  rw [hN] at f3
  obtain ⟨g1, k1⟩ := alV_eq (u := a0) (l := L) (t := U) (n := N) (by omega) (by omega)
  obtain ⟨g2, k2⟩ := alV_eq (u := a0) (l := L) (t := V) (n := N) (by omega) (by omega)
  obtain ⟨g3, k3⟩ := alV_eq (u := a0) (l := L) (t := L) (n := N) (by omega) (by omega)
  obtain ⟨g4, k4⟩ := alV_eq (u := a0) (l := L) (t := N) (n := N) (by omega) (by omega)
  have T : alV a0 L U N ≤ alV a0 L V N ∧ alV a0 L V N ≤ a0 ∧ alV a0 L N N = a0 ∧ ((alV a0 L L N = 0) ∨ (alV a0 L L N ≠ 0 ∧ N = L ∧ alV a0 L L N = a0)) := by
    rw [k1, k2, k3, k4]
    by_cases h : N = L
    · simp only [if_pos h]
      exact ⟨Int.le_refl _, Int.le_refl _, by first | rfl | trivial, by by_cases h0 : a0 = 0 <;> simp [h0, h]⟩
    · simp only [if_neg h]
      have hp : 0 < N - L := by omega
      refine ⟨div_le_div' (Int.mul_le_mul_of_nonneg_left (by omega) p0) hp, ?_, Int.mul_ediv_cancel _ (by omega), .inl (by rw [Int.sub_self, Int.mul_zero, Int.zero_ediv])⟩
      refine Int.le_trans (div_le_div' (Int.mul_le_mul_of_nonneg_left (show V - L ≤ N - L by omega) p0) hp) ?_
      rw [Int.mul_ediv_cancel _ (by omega)]
      exact Int.le_refl _
  obtain ⟨T1, T2, T3, T4⟩ := T
  have HA1 := hide (fun w => alloc_c (u := a0) (l := L) (t := U) (n := N) p0 (by omega) (by omega) (by omega) (by omega) (by omega) (by omega) (by omega) w)
  have HA2 := hide (fun w => alloc_c (u := a0) (l := L) (t := V) (n := N) p0 (by omega) (by omega) (by omega) (by omega) (by omega) (by omega) (by omega) w)
  have HA3 := hide (fun w => alloc_c (u := a0) (l := L) (t := L) (n := N) p0 (by omega) (by omega) (by omega) (by omega) (by omega) (by omega) (by omega) w)
  have HA4 := hide (fun w => alloc_c (u := a0) (l := L) (t := N) (n := N) p0 (by omega) (by omega) (by omega) (by omega) (by omega) (by omega) (by omega) w)
  clear k1 k2 k3 k4 x1 x2 x3 x4 y1 y2 y3 y4
  rcases T4 with T4 | ⟨T4, T5, T6⟩
  · have T5 : (alV a0 L L N == 0) = true := by rw [T4]; rfl
    clear p0 p1 p2 p3 p4 q0 q1 q2 q3 q4
    go_enter Try.func4, Try.ntmps4
    go_wp2_with fail
    refine (HA1.out _).mono ?_
    rintro e w1 ⟨rfl, hb1⟩
    have hs1 := hb1.size
    try simp only [World.size_alloc, World.size_setCell, World.size_drew, size_drewN] at hs1
    go_wp2_with fail
    refine (HA2.out _).mono ?_
    rintro e w2 ⟨rfl, hb2⟩
    have hs2 := hb2.size
    try simp only [World.size_alloc, World.size_setCell, World.size_drew, size_drewN] at hs2
    go_wp2_with fail
    refine (HA3.out _).mono ?_
    rintro e w3 ⟨rfl, hb3⟩
    have hs3 := hb3.size
    try simp only [World.size_alloc, World.size_setCell, World.size_drew, size_drewN] at hs3
    go_wp2_with fail
    refine (HA4.out _).mono ?_
    rintro e w4 ⟨rfl, hb4⟩
    have hs4 := hb4.size
    try simp only [World.size_alloc, World.size_setCell, World.size_drew, size_drewN] at hs4
    go_wp2_with fail
    refine (awake18_c _).mono ?_
    rintro e w5 ⟨rfl, hb5⟩
    have hs5 := hb5.size
    try simp only [World.size_alloc, World.size_setCell, World.size_drew, size_drewN] at hs5
    go_wp2
    go_ret
    exact ⟨rfl, (by (repeat' (first | (with_reducible exact Below.refl _ _) | (with_reducible assumption) | (with_reducible refine Below.alloc ?_ ?_ _) | (with_reducible refine Below.drew ?_) | (with_reducible refine below_drewN ?_ _) | (with_reducible refine Below.setCell ?_ ?_ _) | (with_reducible refine below_step (by with_reducible assumption) ?_ ?_) | (first | (with_reducible exact Nat.le_refl _) | (with_reducible assumption) | omega | (simp only [World.size_alloc, World.size_setCell, World.size_drew, size_drewN]; omega) | (simp; omega) | (simp; done)))))⟩
  · have T7 : (alV a0 L L N == 0) = false := by simpa using T4
    have T8 : (N == L) = true := by simpa using T5
    have T9 : (alV a0 L L N == a0) = true := by simpa using T6
    clear p0 p1 p2 p3 p4 q0 q1 q2 q3 q4 T4 T5 T6
    go_enter Try.func4, Try.ntmps4
    go_wp2_with fail
    refine (HA1.out _).mono ?_
    rintro e w1 ⟨rfl, hb1⟩
    have hs1 := hb1.size
    try simp only [World.size_alloc, World.size_setCell, World.size_drew, size_drewN] at hs1
    go_wp2_with fail
    refine (HA2.out _).mono ?_
    rintro e w2 ⟨rfl, hb2⟩
    have hs2 := hb2.size
    try simp only [World.size_alloc, World.size_setCell, World.size_drew, size_drewN] at hs2
    go_wp2_with fail
    refine (HA3.out _).mono ?_
    rintro e w3 ⟨rfl, hb3⟩
    have hs3 := hb3.size
    try simp only [World.size_alloc, World.size_setCell, World.size_drew, size_drewN] at hs3
    go_wp2_with fail
    refine (HA4.out _).mono ?_
    rintro e w4 ⟨rfl, hb4⟩
    have hs4 := hb4.size
    try simp only [World.size_alloc, World.size_setCell, World.size_drew, size_drewN] at hs4
    go_wp2_with fail
    refine (awake18_c _).mono ?_
    rintro e w5 ⟨rfl, hb5⟩
    have hs5 := hb5.size
    try simp only [World.size_alloc, World.size_setCell, World.size_drew, size_drewN] at hs5
    go_wp2
    go_ret
    exact ⟨rfl, (by (repeat' (first | (with_reducible exact Below.refl _ _) | (with_reducible assumption) | (with_reducible refine Below.alloc ?_ ?_ _) | (with_reducible refine Below.drew ?_) | (with_reducible refine below_drewN ?_ _) | (with_reducible refine Below.setCell ?_ ?_ _) | (with_reducible refine below_step (by with_reducible assumption) ?_ ?_) | (first | (with_reducible exact Nat.le_refl _) | (with_reducible assumption) | omega | (simp only [World.size_alloc, World.size_setCell, World.size_drew, size_drewN]; omega) | (simp; omega) | (simp; done)))))⟩
end Go.Proofs.Ytnfglfkojngllaa
