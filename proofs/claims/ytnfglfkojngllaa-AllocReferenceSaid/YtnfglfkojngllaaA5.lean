/- Chapter 18: the reference's Allocate, and the law that compares. -/
import Derived.WalkKit
import Derived.KernelRfl
import Derived.RowKit3
import Derived.Deep.LoopGhost
import Derived.Deep.QuietTactic
import Derived.BigQuiet
import Derived.WideLaws
import Derived.Laws.Rows
import Derived.Below
import Derived.Deep.Draws
import Derived.Outline
import Derived.LoopN
import Derived.Handy
import Derived.Laws.Externs
import Derived.Laws.BitsAllLaws
import Derived.Laws.BitsLemmas
import Derived.Deep.DeepCutAuto
import Derived.Deep.CutBlock
import Derived.Deep.RegionHeld3
import Derived.Test.YtnfglfkojngllaaA1
import Derived.Test.YtnfglfkojngllaaR15
namespace Go.Proofs.Ytnfglfkojngllaa
open Go.RowKit
set_option linter.unusedVariables false
set_option linter.unusedSimpArgs false
theorem share_nat {u l t n : Int} (u0 : 0 ≤ u) (u1 : u < 18446744073709551616) (h1 : l ≤ t) (h2 : t ≤ n) (h3 : n ≠ l) :
    u.toNat * (t - l).toNat / (n - l).toNat < M256 ∧ lim (u.toNat * (t - l).toNat / (n - l).toNat) 0 = u * (t - l) / (n - l) := by
  obtain ⟨U, rfl⟩ := Int.eq_ofNat_of_zero_le u0
  obtain ⟨D, hD⟩ := Int.eq_ofNat_of_zero_le (show 0 ≤ t - l by omega)
  obtain ⟨E, hE⟩ := Int.eq_ofNat_of_zero_le (show 0 ≤ n - l by omega)
  rw [hD, hE, Int.toNat_natCast, Int.toNat_natCast, Int.toNat_natCast]
  have hle : U * D / E ≤ U := Nat.div_le_of_le_mul (by rw [Nat.mul_comm E]; exact Nat.mul_le_mul_left U (by omega))
  refine ⟨by unfold M256; omega, ?_⟩
  rw [lim0, Nat.mod_eq_of_lt (by omega)]
  simp
theorem idx0 (a b c d : Int) (W : World) : (Instr.index 31 (.agg #[.int .u64 a, .int .u64 b, .int .u64 c, .int .u64 d]) (.int .i64 0)).run Try.prog W = .ok (.int .u64 a) W := by
  simp [Instr.index, run_underlying Try.underlying31, asIntOf, go_sem]
set_option maxHeartbeats 4000000 in
theorem ralloc_c {u l t n : Int} (u0 : 0 ≤ u) (u1 : u < 18446744073709551616) (l0 : 0 ≤ l) (l1 : l < 18446744073709551616) (t0 : 0 ≤ t) (t1 : t < 18446744073709551616) (n0 : 0 ≤ n) (n1 : n < 18446744073709551616) (w : World) :
    Calls Try.prog 8 #[.int .u64 u, .int .u64 l, .int .u64 t, .int .u64 n] w fun e w' => e = .returned (.tuple #[.int .u64 (alV u l t n), .int .i64 (alE l t n)]) ∧ Below w.heap.size w w' := by
  rw [alV, alE]
  by_cases h1 : l > t
  · rw [if_pos (.inl h1), if_pos (.inl h1)]
    go_enter Try.func8, Try.ntmps8
    go_wp2
    go_returns
    exact ⟨rfl, (by (repeat' (first | (with_reducible exact Below.refl _ _) | (with_reducible assumption) | (with_reducible refine Below.alloc ?_ ?_ _) | (with_reducible refine Below.drew ?_) | (with_reducible refine below_drewN ?_ _) | (with_reducible refine Below.setCell ?_ ?_ _) | (with_reducible refine below_step (by with_reducible assumption) ?_ ?_) | (first | (with_reducible exact Nat.le_refl _) | (with_reducible assumption) | omega | (simp only [World.size_alloc, World.size_setCell, World.size_drew, size_drewN]; omega) | (simp; omega) | (simp; done)))))⟩
  have h1' : l ≤ t := by omega
  by_cases h2 : t > n
  · rw [if_pos (.inr h2), if_pos (.inr h2)]
    go_enter Try.func8, Try.ntmps8
    go_wp2
    go_returns
    exact ⟨rfl, (by (repeat' (first | (with_reducible exact Below.refl _ _) | (with_reducible assumption) | (with_reducible refine Below.alloc ?_ ?_ _) | (with_reducible refine Below.drew ?_) | (with_reducible refine below_drewN ?_ _) | (with_reducible refine Below.setCell ?_ ?_ _) | (with_reducible refine below_step (by with_reducible assumption) ?_ ?_) | (first | (with_reducible exact Nat.le_refl _) | (with_reducible assumption) | omega | (simp only [World.size_alloc, World.size_setCell, World.size_drew, size_drewN]; omega) | (simp; omega) | (simp; done)))))⟩
  have h2' : t ≤ n := by omega
  have hn : ¬ (l > t ∨ t > n) := by omega
  rw [if_neg hn, if_neg hn]
  clear hn
  by_cases h3 : n = l
  · rw [if_pos h3]
    have h4 : t = l := by omega
    subst h3 h4
    clear h1 h2
    go_enter Try.func8, Try.ntmps8
    go_wp2
    go_returns
    exact ⟨rfl, (by (repeat' (first | (with_reducible exact Below.refl _ _) | (with_reducible assumption) | (with_reducible refine Below.alloc ?_ ?_ _) | (with_reducible refine Below.drew ?_) | (with_reducible refine below_drewN ?_ _) | (with_reducible refine Below.setCell ?_ ?_ _) | (with_reducible refine below_step (by with_reducible assumption) ?_ ?_) | (first | (with_reducible exact Nat.le_refl _) | (with_reducible assumption) | omega | (simp only [World.size_alloc, World.size_setCell, World.size_drew, size_drewN]; omega) | (simp; omega) | (simp; done)))))⟩
  · rw [if_neg h3]
    have h3' : (n == l) = false := by simpa using h3
    obtain ⟨s1, s2⟩ := share_nat u0 u1 h1' h2' h3
    have w1 : IntKind.u64.wrap (t - l) = t - l := wrap_id (by omega) (by omega)
    have w2 : IntKind.u64.wrap (n - l) = n - l := wrap_id (by omega) (by omega)
    have F1 := hide (fun w => from64_c u0 u1 w)
    have F2 := hide (fun w => from64_c (x := t - l) (by omega) (by omega) w)
    have F3 := hide (fun w => from64_c (x := n - l) (by omega) (by omega) w)
    have hB0 : 0 < (n - l).toNat := by omega
    have hix := idx0
    clear h1 h2 h3
    go_enter Try.func8, Try.ntmps8
    go_wp2_with fail
    refine (F1.out _).mono ?_
    rintro e v1 ⟨ad1, m1, c1, rfl, g1, k1, hb1⟩
    have hs1 := hb1.size
    go_wp2_with fail
    refine (F2.out _).mono ?_
    rintro e v2 ⟨ad2, m2, c2, rfl, g2, k2, hb2⟩
    have hs2 := hb2.size
    have g1' := hide (g1.out.below hb2 (Nat.le_refl _))
    go_wp2_with fail
    refine (rmul_c _ _ _ _ _ _ _ g1' g2 (by omega) (by omega)).mono ?_
    rintro e v3 ⟨ad3, m3, c3, rfl, g3, k3, hb3⟩
    have hs3 := hb3.size
    go_wp2_with fail
    refine (F3.out _).mono ?_
    rintro e v4 ⟨ad4, m4, c4, rfl, g4, k4, hb4⟩
    have hs4 := hb4.size
    have g3' := hide (g3.out.below hb4 (Nat.le_refl _))
    go_wp2_with fail
    refine (rdiv_c _ _ _ _ _ _ _ g3' g4 hB0 (by omega) (by omega)).mono ?_
    rintro e v5 ⟨ad5, m5, c5, ad6, m6, c6, rfl, g5, g6, k5, k6, hb5⟩
    have hs5 := hb5.size
    go_wp2_with fail
    refine (toBig_c s1 g5 (by omega)).mono ?_
    rintro e v6 ⟨rfl, hb6⟩
    have hs6 := hb6.size
    go_wp2
    go_returns
    exact ⟨rfl, (by (repeat' (first | (with_reducible exact Below.refl _ _) | (with_reducible assumption) | (with_reducible refine Below.alloc ?_ ?_ _) | (with_reducible refine Below.drew ?_) | (with_reducible refine below_drewN ?_ _) | (with_reducible refine Below.setCell ?_ ?_ _) | (with_reducible refine below_step (by with_reducible assumption) ?_ ?_) | (first | (with_reducible exact Nat.le_refl _) | (with_reducible assumption) | omega | (simp only [World.size_alloc, World.size_setCell, World.size_drew, size_drewN]; omega) | (simp; omega) | (simp; done)))))⟩
set_option maxHeartbeats 8000000 in
theorem AllocReference_walk (a0 a1 a2 a3 : Int) (few : Bool) (w0 : (Lit.int .u64 a0).wf = true) (w1 : (Lit.int .u64 a1).wf = true) (w2 : (Lit.int .u64 a2).wf = true) (w3 : (Lit.int .u64 a3).wf = true) (w : World) :
    Calls Try.prog 3 #[.int .u64 a0, .int .u64 a1, .int .u64 a2, .int .u64 a3, .bool few] w fun e w' => e = .returned (.bool true) ∧ Below w.heap.size w w' := by
  obtain ⟨p0, q0⟩ := bounds_u64 w0
  obtain ⟨p1, q1⟩ := bounds_u64 w1
  obtain ⟨p2, q2⟩ := bounds_u64 w2
  obtain ⟨p3, q3⟩ := bounds_u64 w3
  clear w0 w1 w2 w3
  obtain ⟨L, e1, x1, y1⟩ := tmod_ex (x := a1) (K := 1000) p1 (by omega)
  obtain ⟨A, e2, x2, y2⟩ := tmod_ex (x := a2) (K := 300) p2 (by omega)
  obtain ⟨B, e3, x3, y3⟩ := tmod_ex (x := a3) (K := 300) p3 (by omega)
  obtain ⟨C, e4, x4, y4⟩ := tmod_ex (x := a2) (K := 1000) p2 (by omega)
  obtain ⟨D, e5, x5, y5⟩ := tmod_ex (x := a3) (K := 1000) p3 (by omega)
  have f1 : IntKind.u64.wrap (L + A) = L + A := wrap_id (by omega) (by omega)
  have f2 : IntKind.u64.wrap (L + A + B) = L + A + B := wrap_id (by omega) (by omega)
  have H1 := hide (fun w => alloc_c (u := a0) (l := a1) (t := a2) (n := a3) p0 (by omega) (by omega) (by omega) (by omega) (by omega) (by omega) (by omega) w)
  have H2 := hide (fun w => ralloc_c (u := a0) (l := a1) (t := a2) (n := a3) p0 (by omega) (by omega) (by omega) (by omega) (by omega) (by omega) (by omega) w)
  have H3 := hide (fun w => alloc_c (u := a0) (l := L) (t := L + A) (n := L + A + B) p0 (by omega) (by omega) (by omega) (by omega) (by omega) (by omega) (by omega) w)
  have H4 := hide (fun w => ralloc_c (u := a0) (l := L) (t := L + A) (n := L + A + B) p0 (by omega) (by omega) (by omega) (by omega) (by omega) (by omega) (by omega) w)
  have H5 := hide (fun w => alloc_c (u := a0) (l := L) (t := C) (n := D) p0 (by omega) (by omega) (by omega) (by omega) (by omega) (by omega) (by omega) w)
  have H6 := hide (fun w => ralloc_c (u := a0) (l := L) (t := C) (n := D) p0 (by omega) (by omega) (by omega) (by omega) (by omega) (by omega) (by omega) w)
  clear x1 x2 x3 x4 x5 y1 y2 y3 y4 y5 p0 p1 p2 p3 q0 q1 q2 q3
  cases few
  · go_enter Try.func3, Try.ntmps3
    go_wp2_with fail
    refine (H1.out _).mono ?_
    rintro e w1 ⟨rfl, hb1⟩
    have hs1 := hb1.size
    try simp only [World.size_alloc, World.size_setCell, World.size_drew, size_drewN] at hs1
    go_wp2_with fail
    refine (H2.out _).mono ?_
    rintro e w2 ⟨rfl, hb2⟩
    have hs2 := hb2.size
    try simp only [World.size_alloc, World.size_setCell, World.size_drew, size_drewN] at hs2
    go_wp2_with fail
    refine (H3.out _).mono ?_
    rintro e w3 ⟨rfl, hb3⟩
    have hs3 := hb3.size
    try simp only [World.size_alloc, World.size_setCell, World.size_drew, size_drewN] at hs3
    go_wp2_with fail
    refine (H4.out _).mono ?_
    rintro e w4 ⟨rfl, hb4⟩
    have hs4 := hb4.size
    try simp only [World.size_alloc, World.size_setCell, World.size_drew, size_drewN] at hs4
    go_wp2_with fail
    refine (awake18_c _).mono ?_
    rintro e w5 ⟨rfl, hb5⟩
    have hs5 := hb5.size
    try simp only [World.size_alloc, World.size_setCell, World.size_drew, size_drewN] at hs5
    go_wp2
    go_ret
    exact ⟨rfl, (by (repeat' (first | (with_reducible exact Below.refl _ _) | (with_reducible assumption) | (with_reducible refine Below.alloc ?_ ?_ _) | (with_reducible refine Below.drew ?_) | (with_reducible refine below_drewN ?_ _) | (with_reducible refine Below.setCell ?_ ?_ _) | (with_reducible refine below_step (by with_reducible assumption) ?_ ?_) | (first | (with_reducible exact Nat.le_refl _) | (with_reducible assumption) | omega | (simp only [World.size_alloc, World.size_setCell, World.size_drew, size_drewN]; omega) | (simp; omega) | (simp; done)))))⟩
  · go_enter Try.func3, Try.ntmps3
    go_wp2_with fail
    refine (H1.out _).mono ?_
    rintro e w1 ⟨rfl, hb1⟩
    have hs1 := hb1.size
    try simp only [World.size_alloc, World.size_setCell, World.size_drew, size_drewN] at hs1
    go_wp2_with fail
    refine (H2.out _).mono ?_
    rintro e w2 ⟨rfl, hb2⟩
    have hs2 := hb2.size
    try simp only [World.size_alloc, World.size_setCell, World.size_drew, size_drewN] at hs2
    go_wp2_with fail
    refine (H5.out _).mono ?_
    rintro e w3 ⟨rfl, hb3⟩
    have hs3 := hb3.size
    try simp only [World.size_alloc, World.size_setCell, World.size_drew, size_drewN] at hs3
    go_wp2_with fail
    refine (H6.out _).mono ?_
    rintro e w4 ⟨rfl, hb4⟩
    have hs4 := hb4.size
    try simp only [World.size_alloc, World.size_setCell, World.size_drew, size_drewN] at hs4
    go_wp2_with fail
    refine (awake18_c _).mono ?_
    rintro e w5 ⟨rfl, hb5⟩
    have hs5 := hb5.size
    try simp only [World.size_alloc, World.size_setCell, World.size_drew, size_drewN] at hs5
    go_wp2
    go_ret
    exact ⟨rfl, (by (repeat' (first | (with_reducible exact Below.refl _ _) | (with_reducible assumption) | (with_reducible refine Below.alloc ?_ ?_ _) | (with_reducible refine Below.drew ?_) | (with_reducible refine below_drewN ?_ _) | (with_reducible refine Below.setCell ?_ ?_ _) | (with_reducible refine below_step (by with_reducible assumption) ?_ ?_) | (first | (with_reducible exact Nat.le_refl _) | (with_reducible assumption) | omega | (simp only [World.size_alloc, World.size_setCell, World.size_drew, size_drewN]; omega) | (simp; omega) | (simp; done)))))⟩
end Go.Proofs.Ytnfglfkojngllaa
