/- muldiv.shiftLeft and subWrap, walked. -/
import Derived.WalkKit
import Derived.KernelRfl
import Derived.RowKit3
import Derived.Deep.LoopGhost
import Derived.Deep.QuietTactic
import Derived.BigQuiet
import Derived.WideLaws
import Derived.Laws.Rows
import Derived.Below
import Derived.Deep.Draws
import Derived.Outline
import Derived.LoopN
import Derived.Handy
import Derived.Laws.Externs
import Derived.Laws.BitsAllLaws
import Derived.Laws.BitsLemmas
import Derived.Deep.DeepCutAuto
import Derived.Deep.CutBlock
import Derived.Deep.RegionHeld3
import Derived.Test.YtkneiobohhhcpaaU
namespace Go.Proofs.Ytkneiobohhhcpaa
open Go.RowKit
set_option linter.unusedVariables false
set_option linter.unusedSimpArgs false
theorem or_even {x b : Int} (h0 : 0 ≤ x) (h1 : x < 18446744073709551616) (hb : 0 ≤ b) (hb1 : b ≤ 1) : bits .or .u64 (IntKind.u64.wrap (x * 2)) b = x * 2 % 18446744073709551616 + b := by
  rw [IntKind.wrap_u64]
  obtain ⟨k, hk⟩ : ∃ k : Nat, x * 2 % 18446744073709551616 = ((2 ^ 1 * k : Nat) : Int) := ⟨(x * 2 % 18446744073709551616 / 2).toNat, by omega⟩
  obtain ⟨c, rfl⟩ := Int.eq_ofNat_of_zero_le hb
  rw [hk, bits_or_u64_nat _ _ (by omega) (by omega), ← Nat.two_pow_add_eq_or_of_lt (by omega)]
  omega
/-- R doubled, b laid below. -/
def shlV (R : Nat) (b : Int) : Nat := if 2 * R + b.toNat < M256 then 2 * R + b.toNat else 2 * R + b.toNat - M256
def shlO (R : Nat) (b : Int) : Int := if 2 * R + b.toNat < M256 then 0 else 1
theorem half {a : Int} (p : 0 ≤ a) (q : a < 18446744073709551616) : ∃ h r, a / 9223372036854775808 = h ∧ a * 2 % 18446744073709551616 = 2 * r ∧ a = 9223372036854775808 * h + r ∧ 0 ≤ h ∧ h ≤ 1 ∧ 0 ≤ r ∧ r < 9223372036854775808 :=
  ⟨a / 9223372036854775808, a % 9223372036854775808, rfl, by omega, by omega, by omega, by omega, by omega, by omega⟩
theorem shl_limbs {R : Nat} {b a0 a1 a2 a3 : Int} (h : isU R a0 a1 a2 a3) (hb : 0 ≤ b) (hb1 : b ≤ 1) :
    isU (shlV R b) (a0 * 2 % 18446744073709551616 + b) (a1 * 2 % 18446744073709551616 + a0 / 9223372036854775808) (a2 * 2 % 18446744073709551616 + a1 / 9223372036854775808) (a3 * 2 % 18446744073709551616 + a2 / 9223372036854775808) ∧ a3 / 9223372036854775808 = shlO R b := by
  obtain ⟨p0, p1, p2, p3, q0, q1, q2, q3, v⟩ := h
  obtain ⟨h0, r0, e0, f0, g0, i0, j0, k0, l0⟩ := half p0 q0
  obtain ⟨h1, r1, e1, f1, g1, i1, j1, k1, l1⟩ := half p1 q1
  obtain ⟨h2, r2, e2, f2, g2, i2, j2, k2, l2⟩ := half p2 q2
  obtain ⟨h3, r3, e3, f3, g3, i3, j3, k3, l3⟩ := half p3 q3
  rw [e0, e1, e2, e3, f0, f1, f2, f3]
  rw [g0, g1, g2, g3] at v
  clear p0 p1 p2 p3 q0 q1 q2 q3 e0 e1 e2 e3 f0 f1 f2 f3 g0 g1 g2 g3
  obtain ⟨c, rfl⟩ := Int.eq_ofNat_of_zero_le hb
  rw [shlV, shlO, Int.toNat_natCast, M256]
  by_cases hlt : 2 * R + c < 115792089237316195423570985008687907853269984665640564039457584007913129639936
  · rw [if_pos hlt, if_pos hlt]
    exact ⟨⟨by omega, by omega, by omega, by omega, by omega, by omega, by omega, by omega, by omega⟩, by omega⟩
  · rw [if_neg hlt, if_neg hlt]
    exact ⟨⟨by omega, by omega, by omega, by omega, by omega, by omega, by omega, by omega, by omega⟩, by omega⟩
def wrapV (A B : Nat) : Nat := if A < B then A + M256 - B else A - B
theorem wrap_limbs {A B : Nat} {a0 a1 a2 a3 b0 b1 b2 b3 : Int} (hA : isU A a0 a1 a2 a3) (hB : isU B b0 b1 b2 b3) :
    isU (wrapV A B) (df a0 b0 0) (df a1 b1 (bw a0 b0 0)) (df a2 b2 (bw a1 b1 (bw a0 b0 0))) (df a3 b3 (bw a2 b2 (bw a1 b1 (bw a0 b0 0)))) := by
  obtain ⟨p0, p1, p2, p3, q0, q1, q2, q3, v⟩ := hA; obtain ⟨r0, r1, r2, r3, s0, s1, s2, s3, u⟩ := hB
  obtain ⟨c0, d0⟩ := bw_le a0 b0 0
  obtain ⟨c1, d1⟩ := bw_le a1 b1 (bw a0 b0 0)
  obtain ⟨c2, d2⟩ := bw_le a2 b2 (bw a1 b1 (bw a0 b0 0))
  obtain ⟨c3, d3⟩ := bw_le a3 b3 (bw a2 b2 (bw a1 b1 (bw a0 b0 0)))
  obtain ⟨x0, y0, z0⟩ := dfbw (c := 0) p0 r0 (by omega) q0 s0 (by omega)
  obtain ⟨x1, y1, z1⟩ := dfbw p1 r1 c0 q1 s1 d0
  obtain ⟨x2, y2, z2⟩ := dfbw p2 r2 c1 q2 s2 d1
  obtain ⟨x3, y3, z3⟩ := dfbw p3 r3 c2 q3 s3 d2
  have hk := sub_limbs ⟨p0, p1, p2, p3, q0, q1, q2, q3, v⟩ ⟨r0, r1, r2, r3, s0, s1, s2, s3, u⟩
  rw [wrapV, M256]
  refine ⟨x0, x1, x2, x3, y0, y1, y2, y3, ?_⟩
  generalize df a0 b0 0 = D0 at *
  generalize df a1 b1 (bw a0 b0 0) = D1 at *
  generalize df a2 b2 (bw a1 b1 (bw a0 b0 0)) = D2 at *
  generalize df a3 b3 (bw a2 b2 (bw a1 b1 (bw a0 b0 0))) = D3 at *
  generalize bw a3 b3 (bw a2 b2 (bw a1 b1 (bw a0 b0 0))) = e3 at *
  generalize bw a2 b2 (bw a1 b1 (bw a0 b0 0)) = e2 at *
  generalize bw a1 b1 (bw a0 b0 0) = e1 at *
  generalize bw a0 b0 0 = e0 at *
  by_cases hlt : A < B
  · rw [if_pos hlt]
    have := hk.1 hlt
    clear hk x0 x1 x2 x3 y0 y1 y2 y3 c0 c1 c2 d0 d1 d2
    omega
  · rw [if_neg hlt]
    have : e3 = 0 := Classical.byContradiction fun h => hlt (hk.2 h)
    clear hk x0 x1 x2 x3 y0 y1 y2 y3 c0 c1 c2 d0 d1 d2
    omega
set_option maxHeartbeats 4000000 in
theorem shl_c {R : Nat} {b : Int} (hR : R < M256) (hb : 0 ≤ b) (hb1 : b ≤ 1) (w : World) :
    Calls Try.prog 65 #[.agg #[.int .u64 (lim R 0), .int .u64 (lim R 1), .int .u64 (lim R 2), .int .u64 (lim R 3)], .int .u64 b] w fun e w' => e = .returned (.tuple #[.agg #[.int .u64 (lim (shlV R b) 0), .int .u64 (lim (shlV R b) 1), .int .u64 (lim (shlV R b) 2), .int .u64 (lim (shlV R b) 3)], .int .u64 (shlO R b)]) ∧ Below w.heap.size w w' := by
  have hl := isU_lim hR
  obtain ⟨h1, h2⟩ := shl_limbs hl hb hb1
  obtain ⟨e0, e1, e2, e3⟩ := h1.lims
  rw [← e0, ← e1, ← e2, ← e3, ← h2, ← or_even hl.p0 hl.q0 hb hb1, ← or_even (b := lim R 0 / 9223372036854775808) hl.p1 hl.q1 (by have := hl.p0; omega) (by have := hl.q0; omega), ← or_even (b := lim R 1 / 9223372036854775808) hl.p2 hl.q2 (by have := hl.p1; omega) (by have := hl.q1; omega), ← or_even (b := lim R 2 / 9223372036854775808) hl.p3 hl.q3 (by have := hl.p2; omega) (by have := hl.q2; omega)]
  clear e0 e1 e2 e3 h1 h2 hl
  go_enter Try.func65, Try.ntmps65
  go_wp2
  refine wp_loop_rounds 4 ?_
  repeat' ((first | (rw [rounds_succ]) | go_region); go_wp2)
  go_returns
  exact ⟨rfl, (by (repeat' (first | (with_reducible exact Below.refl _ _) | (with_reducible assumption) | (with_reducible refine Below.alloc ?_ ?_ _) | (with_reducible refine Below.drew ?_) | (with_reducible refine below_drewN ?_ _) | (with_reducible refine Below.setCell ?_ ?_ _) | (with_reducible refine below_step (by with_reducible assumption) ?_ ?_) | (first | (with_reducible exact Nat.le_refl _) | (with_reducible assumption) | omega | (simp only [World.size_alloc, World.size_setCell, World.size_drew, size_drewN]; omega) | (simp; omega) | (simp; done)))))⟩
set_option maxHeartbeats 4000000 in
theorem subw_c {A B : Nat} (hA : A < M256) (hB : B < M256) (w : World) :
    Calls Try.prog 66 #[.agg #[.int .u64 (lim A 0), .int .u64 (lim A 1), .int .u64 (lim A 2), .int .u64 (lim A 3)], .agg #[.int .u64 (lim B 0), .int .u64 (lim B 1), .int .u64 (lim B 2), .int .u64 (lim B 3)]] w fun e w' => e = .returned (.agg #[.int .u64 (lim (wrapV A B) 0), .int .u64 (lim (wrapV A B) 1), .int .u64 (lim (wrapV A B) 2), .int .u64 (lim (wrapV A B) 3)]) ∧ Below w.heap.size w w' := by
  have hl := isU_lim hA
  have hm := isU_lim hB
  obtain ⟨e0, e1, e2, e3⟩ := (wrap_limbs hl hm).lims
  rw [← e0, ← e1, ← e2, ← e3]
  clear e0 e1 e2 e3
  obtain ⟨p0, p1, p2, p3, q0, q1, q2, q3, v⟩ := hl
  obtain ⟨r0, r1, r2, r3, s0, s1, s2, s3, u⟩ := hm
  clear v u hA hB
  generalize lim A 0 = a0 at *
  generalize lim A 1 = a1 at *
  generalize lim A 2 = a2 at *
  generalize lim A 3 = a3 at *
  generalize lim B 0 = b0 at *
  generalize lim B 1 = b1 at *
  generalize lim B 2 = b2 at *
  generalize lim B 3 = b3 at *
  have L := @sub_law
  obtain ⟨c0, d0⟩ := bw_le a0 b0 0
  obtain ⟨c1, d1⟩ := bw_le a1 b1 (bw a0 b0 0)
  obtain ⟨c2, d2⟩ := bw_le a2 b2 (bw a1 b1 (bw a0 b0 0))
  obtain ⟨c3, d3⟩ := bw_le a3 b3 (bw a2 b2 (bw a1 b1 (bw a0 b0 0)))
  go_enter Try.func66, Try.ntmps66
  go_wp2
  refine wp_loop_rounds 5 ?_
  repeat' ((first | (rw [rounds_succ]) | go_region); go_wp2)
  go_returns
  exact ⟨rfl, (by (repeat' (first | (with_reducible exact Below.refl _ _) | (with_reducible assumption) | (with_reducible refine Below.alloc ?_ ?_ _) | (with_reducible refine Below.drew ?_) | (with_reducible refine below_drewN ?_ _) | (with_reducible refine Below.setCell ?_ ?_ _) | (with_reducible refine below_step (by with_reducible assumption) ?_ ?_) | (first | (with_reducible exact Nat.le_refl _) | (with_reducible assumption) | omega | (simp only [World.size_alloc, World.size_setCell, World.size_drew, size_drewN]; omega) | (simp; omega) | (simp; done)))))⟩
end Go.Proofs.Ytkneiobohhhcpaa
