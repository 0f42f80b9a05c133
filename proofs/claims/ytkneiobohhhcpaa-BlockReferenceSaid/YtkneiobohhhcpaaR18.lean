/- Package pontageref5, walked: Scale, Exp. -/
import Derived.WalkKit
import Derived.KernelRfl
import Derived.RowKit3
import Derived.Deep.LoopGhost
import Derived.Deep.QuietTactic
import Derived.BigQuiet
import Derived.WideLaws
import Derived.Laws.Rows
import Derived.Below
import Derived.Deep.Draws
import Derived.Outline
import Derived.LoopN
import Derived.Handy
import Derived.Laws.Externs
import Derived.Laws.BitsAllLaws
import Derived.Laws.BitsLemmas
import Derived.Deep.DeepCutAuto
import Derived.Deep.CutBlock
import Derived.Deep.RegionHeld3
import Derived.Test.YtkneiobohhhcpaaE2
import Derived.Test.YtkneiobohhhcpaaRM
namespace Go.Proofs.Ytkneiobohhhcpaa
open Go.RowKit
set_option linter.unusedVariables false
set_option linter.unusedSimpArgs false
theorem chk_md {A B C : Nat} (hC : C ≠ 0) : chkV (A * B / C) = mdV A B C ∧ chkE (A * B / C) = mdE A B C := by
  have h : A * B / C < M256 ↔ A * B < M256 * C := Nat.div_lt_iff_lt_mul (by omega)
  rw [chkV, chkE, mdE_eq hC]
  by_cases h1 : A * B < M256 * C
  · rw [if_pos (h.2 h1), if_pos (h.2 h1), if_pos h1, mdV_eq h1]; exact ⟨rfl, rfl⟩
  · rw [if_neg (fun h2 => h1 (h.1 h2)), if_neg (fun h2 => h1 (h.1 h2)), if_neg h1, mdV_no h1]; exact ⟨rfl, rfl⟩
set_option maxHeartbeats 8000000 in
theorem rscale_c {A : Nat} {b : Int} (hA : A < M256) (b0 : 0 ≤ b) (b1 : b < 18446744073709551616) (w : World) :
    Calls Try.prog 41 #[.agg #[.int .u64 (lim A 0), .int .u64 (lim A 1), .int .u64 (lim A 2), .int .u64 (lim A 3)], .int .u64 b] w fun e w' => e = .returned (.tuple #[.agg #[.int .u64 (lim (mdV A b.toNat 10000) 0), .int .u64 (lim (mdV A b.toNat 10000) 1), .int .u64 (lim (mdV A b.toNat 10000) 2), .int .u64 (lim (mdV A b.toNat 10000) 3)], .int .i64 (mdE A b.toNat 10000)]) ∧ Below w.heap.size w w' := by
  have FA := hide (from256_c (isU_lim hA))
  have FB := hide (fun w => from64_c b0 b1 w)
  have FC := hide (fun w => from64_c (x := 10000) (by omega) (by omega) w)
  have hC0 : 0 < (10000 : Int).toNat := by decide
  obtain ⟨e1, e2⟩ := chk_md (A := A) (B := b.toNat) (C := 10000) (by omega)
  rw [← e1, ← e2]
  clear e1 e2 hA
  go_enter Try.func41, Try.ntmps41
  go_wp2_with fail
  refine (FA.out _).mono ?_
  rintro e w1 ⟨ad1, n1, c1, rfl, hB1, hl1, hb1⟩
  have hs1 := hb1.size
  try simp only [World.size_alloc, World.size_setCell, World.size_drew, size_drewN] at hs1
  have hc1_1 : ∀ o, w1.cell? ⟨w.heap.size + 1, o, none⟩ = _ := fun o => hb1.cell (p := ⟨w.heap.size + 1, o, none⟩) (by ((try simp only [World.size_alloc, World.size_setCell, World.size_drew, size_drewN]); omega))
  have hf1_1 : ∀ o, w1.frozen? ⟨w.heap.size + 1, o, none⟩ = _ := fun o => hb1.frozen (p := ⟨w.heap.size + 1, o, none⟩) (by ((try simp only [World.size_alloc, World.size_setCell, World.size_drew, size_drewN]); omega))
  have z1_1 : w.heap.size + 1 < w1.heap.size := by omega
  go_wp2_with fail
  refine (FB.out _).mono ?_
  rintro e w2 ⟨ad2, n2, c2, rfl, hB2, hl2, hb2⟩
  have hs2 := hb2.size
  try simp only [World.size_alloc, World.size_setCell, World.size_drew, size_drewN] at hs2
  have hc2_1 : ∀ o, w2.cell? ⟨w.heap.size + 1, o, none⟩ = _ := fun o => hb2.cell (p := ⟨w.heap.size + 1, o, none⟩) (by ((try simp only [World.size_alloc, World.size_setCell, World.size_drew, size_drewN]); omega))
  have hf2_1 : ∀ o, w2.frozen? ⟨w.heap.size + 1, o, none⟩ = _ := fun o => hb2.frozen (p := ⟨w.heap.size + 1, o, none⟩) (by ((try simp only [World.size_alloc, World.size_setCell, World.size_drew, size_drewN]); omega))
  have z2_1 : w.heap.size + 1 < w2.heap.size := by omega
  have hB1b := hide (hB1.out.below hb2 (Nat.le_refl _))
  go_wp2_with fail
  refine (rmul_c _ _ _ _ _ _ _ hB1b hB2 (by omega) (by omega)).mono ?_
  rintro e w3 ⟨ad3, n3, c3, rfl, hB3, hl3, hb3⟩
  have hs3 := hb3.size
  try simp only [World.size_alloc, World.size_setCell, World.size_drew, size_drewN] at hs3
  have hc3_1 : ∀ o, w3.cell? ⟨w.heap.size + 1, o, none⟩ = _ := fun o => hb3.cell (p := ⟨w.heap.size + 1, o, none⟩) (by ((try simp only [World.size_alloc, World.size_setCell, World.size_drew, size_drewN]); omega))
  have hf3_1 : ∀ o, w3.frozen? ⟨w.heap.size + 1, o, none⟩ = _ := fun o => hb3.frozen (p := ⟨w.heap.size + 1, o, none⟩) (by ((try simp only [World.size_alloc, World.size_setCell, World.size_drew, size_drewN]); omega))
  have z3_1 : w.heap.size + 1 < w3.heap.size := by omega
  go_wp2_with fail
  refine (FC.out _).mono ?_
  rintro e w4 ⟨ad4, n4, c4, rfl, hB4, hl4, hb4⟩
  have hs4 := hb4.size
  try simp only [World.size_alloc, World.size_setCell, World.size_drew, size_drewN] at hs4
  have hc4_1 : ∀ o, w4.cell? ⟨w.heap.size + 1, o, none⟩ = _ := fun o => hb4.cell (p := ⟨w.heap.size + 1, o, none⟩) (by ((try simp only [World.size_alloc, World.size_setCell, World.size_drew, size_drewN]); omega))
  have hf4_1 : ∀ o, w4.frozen? ⟨w.heap.size + 1, o, none⟩ = _ := fun o => hb4.frozen (p := ⟨w.heap.size + 1, o, none⟩) (by ((try simp only [World.size_alloc, World.size_setCell, World.size_drew, size_drewN]); omega))
  have z4_1 : w.heap.size + 1 < w4.heap.size := by omega
  have hB3b := hide (hB3.out.below hb4 (Nat.le_refl _))
  go_wp2_with fail
  refine (rdiv_c _ _ _ _ _ _ _ hB3b hB4 hC0 (by omega) (by omega)).mono ?_
  rintro e w5 ⟨ad5, n5, c5, ad6, n6, c6, rfl, hB5, hB6, hl5, hl6, hb5⟩
  have hs5 := hb5.size
  try simp only [World.size_alloc, World.size_setCell, World.size_drew, size_drewN] at hs5
  have hc5_1 : ∀ o, w5.cell? ⟨w.heap.size + 1, o, none⟩ = _ := fun o => hb5.cell (p := ⟨w.heap.size + 1, o, none⟩) (by ((try simp only [World.size_alloc, World.size_setCell, World.size_drew, size_drewN]); omega))
  have hf5_1 : ∀ o, w5.frozen? ⟨w.heap.size + 1, o, none⟩ = _ := fun o => hb5.frozen (p := ⟨w.heap.size + 1, o, none⟩) (by ((try simp only [World.size_alloc, World.size_setCell, World.size_drew, size_drewN]); omega))
  have z5_1 : w.heap.size + 1 < w5.heap.size := by omega
  go_wp2_with fail
  refine (checked_c hB5 (by omega)).mono ?_
  rintro e w7 ⟨rfl, hb7⟩
  have hs7 := hb7.size
  try simp only [World.size_alloc, World.size_setCell, World.size_drew, size_drewN] at hs7
  have hc7_1 : ∀ o, w7.cell? ⟨w.heap.size + 1, o, none⟩ = _ := fun o => hb7.cell (p := ⟨w.heap.size + 1, o, none⟩) (by ((try simp only [World.size_alloc, World.size_setCell, World.size_drew, size_drewN]); omega))
  have hf7_1 : ∀ o, w7.frozen? ⟨w.heap.size + 1, o, none⟩ = _ := fun o => hb7.frozen (p := ⟨w.heap.size + 1, o, none⟩) (by ((try simp only [World.size_alloc, World.size_setCell, World.size_drew, size_drewN]); omega))
  have z7_1 : w.heap.size + 1 < w7.heap.size := by omega
  go_wp2
  refine cutW (fun W => Box W (w.heap.size + 1) (lim (chkV (A * b.toNat / 10000)) 0) (lim (chkV (A * b.toNat / 10000)) 1) (lim (chkV (A * b.toNat / 10000)) 2) (lim (chkV (A * b.toNat / 10000)) 3) ∧ Below w.heap.size w W) ?_ ?_
  · refine ⟨?_, (by (repeat' (first | (with_reducible exact Below.refl _ _) | (with_reducible assumption) | (with_reducible refine Below.alloc ?_ ?_ _) | (with_reducible refine Below.drew ?_) | (with_reducible refine below_drewN ?_ _) | (with_reducible refine Below.setCell ?_ ?_ _) | (with_reducible refine below_step (by with_reducible assumption) ?_ ?_) | (first | (with_reducible exact Nat.le_refl _) | (with_reducible assumption) | omega | (simp only [World.size_alloc, World.size_setCell, World.size_drew, size_drewN]; omega) | (simp; omega) | (simp; done)))))⟩ <;> (constructor <;> (first | (simp only [World.size_alloc, World.size_setCell, World.size_drew, size_drewN]; omega) | (simp (maxDischargeDepth := 16) [go_sem, *, World.cell?_alloc_some, World.cell?_setCell_far]; done)))
  rintro W ⟨bx0, hbW⟩
  obtain ⟨rc00, rc01, rc02, rc03, rf00, rf01, rf02, rf03, rlt0⟩ := bx0
  refine bodyPost_ret ?_ rfl ⟨rfl, hbW⟩
  simp [results, Try.results41, go_sem, rc00, rc01, rc02, rc03]
theorem exp_nat {x h : Int} {k : Nat} (x0 : 0 ≤ x) (h0 : 0 ≤ h) : 10000 + h.toNat * x.toNat / (((k : Int) + 1).toNat * 10000) = (10000 + h * x / (((k : Int) + 1) * 10000)).toNat := by
  obtain ⟨X, rfl⟩ := Int.eq_ofNat_of_zero_le x0
  obtain ⟨H, rfl⟩ := Int.eq_ofNat_of_zero_le h0
  have e : (10000 + (H : Int) * (X : Int) / (((k : Int) + 1) * 10000)) = ((10000 + H * X / ((k + 1) * 10000) : Nat) : Int) := by simp
  rw [e, Int.toNat_natCast, Int.toNat_natCast, Int.toNat_natCast, show ((k : Int) + 1).toNat = k + 1 by omega]
theorem small_nd {h : Int} (h0 : 0 ≤ h) (h1 : h < 5000000000000) : nd h.toNat ≤ 3 := nd_le_of (by omega)
theorem idx0 (a b c d : Int) (W : World) : (Instr.index 25 (.agg #[.int .u64 a, .int .u64 b, .int .u64 c, .int .u64 d]) (.int .i64 0)).run Try.prog W = .ok (.int .u64 a) W := by
  simp [Instr.index, run_underlying Try.underlying25, asIntOf, go_sem]
set_option maxHeartbeats 8000000 in
theorem rexp_c {x t : Int} (x0 : 0 ≤ x) (x1 : x < 18446744073709551616) (w : World) :
    Calls Try.prog 40 #[.int .u64 x, .int .i64 t] w fun e w' => e = .returned (.tuple #[.int .u64 (expV x t), .int .i64 (expE x t)]) ∧ Below w.heap.size w w' := by
  rw [expV, expE]
  by_cases h1 : x > 200000
  · rw [if_pos (.inl h1), if_pos (.inl h1)]
    go_enter Try.func40, Try.ntmps40
    go_wp2
    go_returns
    exact ⟨rfl, (by (repeat' (first | (with_reducible exact Below.refl _ _) | (with_reducible assumption) | (with_reducible refine Below.alloc ?_ ?_ _) | (with_reducible refine Below.drew ?_) | (with_reducible refine below_drewN ?_ _) | (with_reducible refine Below.setCell ?_ ?_ _) | (with_reducible refine below_step (by with_reducible assumption) ?_ ?_) | (first | (with_reducible exact Nat.le_refl _) | (with_reducible assumption) | omega | (simp only [World.size_alloc, World.size_setCell, World.size_drew, size_drewN]; omega) | (simp; omega) | (simp; done)))))⟩
  by_cases h2 : t < 1
  · rw [if_pos (.inr (.inl h2)), if_pos (.inr (.inl h2))]
    have h1' : x ≤ 200000 := by omega
    clear h1
    go_enter Try.func40, Try.ntmps40
    go_wp2
    go_returns
    exact ⟨rfl, (by (repeat' (first | (with_reducible exact Below.refl _ _) | (with_reducible assumption) | (with_reducible refine Below.alloc ?_ ?_ _) | (with_reducible refine Below.drew ?_) | (with_reducible refine below_drewN ?_ _) | (with_reducible refine Below.setCell ?_ ?_ _) | (with_reducible refine below_step (by with_reducible assumption) ?_ ?_) | (first | (with_reducible exact Nat.le_refl _) | (with_reducible assumption) | omega | (simp only [World.size_alloc, World.size_setCell, World.size_drew, size_drewN]; omega) | (simp; omega) | (simp; done)))))⟩
  by_cases h3 : t > 20
  · rw [if_pos (.inr (.inr h3)), if_pos (.inr (.inr h3))]
    have h1' : x ≤ 200000 := by omega
    have h2' : 1 ≤ t := by omega
    clear h1 h2
    go_enter Try.func40, Try.ntmps40
    go_wp2
    go_returns
    exact ⟨rfl, (by (repeat' (first | (with_reducible exact Below.refl _ _) | (with_reducible assumption) | (with_reducible refine Below.alloc ?_ ?_ _) | (with_reducible refine Below.drew ?_) | (with_reducible refine below_drewN ?_ _) | (with_reducible refine Below.setCell ?_ ?_ _) | (with_reducible refine below_step (by with_reducible assumption) ?_ ?_) | (first | (with_reducible exact Nat.le_refl _) | (with_reducible assumption) | omega | (simp only [World.size_alloc, World.size_setCell, World.size_drew, size_drewN]; omega) | (simp; omega) | (simp; done)))))⟩
  have hn : ¬ (x > 200000 ∨ t < 1 ∨ t > 20) := by omega
  rw [if_neg hn, if_neg hn]
  obtain ⟨T, rfl⟩ := Int.eq_ofNat_of_zero_le (show 0 ≤ t by omega)
  rw [Int.toNat_natCast]
  have h1' : x ≤ 200000 := by omega
  have h2' : (1 : Int) ≤ (T : Int) := by omega
  have h3' : (T : Int) ≤ 20 := by omega
  clear h1 h2 h3 hn
  have FX := hide (fun w => from64_c x0 x1 w)
  have FT := hide (fun w => from64_c (x := 10000) (by omega) (by omega) w)
  have hix := idx0
  go_enter Try.func40, Try.ntmps40
  go_wp2_with fail
  refine (FT.out _).mono ?_
  rintro e w1 ⟨ad1, n1, c1, rfl, g1, k1, hb1⟩
  have hs1 := hb1.size
  go_wp2
  go_loopw [6, 7] (fun v6 v7 wr => ∃ (i : Nat) (h : Int) (ad : Option Addr) (n c : Nat), v7 = .int .i64 i ∧ v6 = .slice ad n c ∧ i ≤ 20 ∧ 0 ≤ h ∧ h < 5000000000000 ∧ Hid (Big wr ad n c h.toNat) ∧ Hid (h ≤ bnd i ∧ expGo x i h = expGo x T 10000) ∧ Hid (Below w.heap.size w wr)) (fun _ v7 _ => (intOf v7).toNat)
  case atStart => exact ⟨T, 10000, ad1, n1, c1, rfl, rfl, by omega, by omega, by omega, g1, hide ⟨by have := (bnd_top T (by omega)).1; omega, rfl⟩, hide hb1⟩
  case round =>
    clear hb1 hs1 g1
    obtain ⟨i, h, ad, n, c, rfl, rfl, hi, h0, hlt, g, HX, HB⟩ := hrel
    have hb := HB.out
    have hsz := hb.size
    have hn3 : n ≤ 3 := by rw [g.out.hn]; exact small_nd h0 hlt
    rcases i with _ | k
    · have hf : expGo x T 10000 = h := HX.out.2.symm
      have hl : lim h.toNat 0 = h := by rw [lim0, Nat.mod_eq_of_lt (by omega)]; omega
      have HTB := hide (toBig_c (N := h.toNat) (by unfold M256; omega) g (by omega))
      go_wp2_with fail
      refine (HTB.out).mono ?_
      rintro e w2 ⟨rfl, hb2⟩
      go_wp2
      refine bodyPost_ret ?_ rfl ⟨by rw [hf], (by (repeat' (first | (with_reducible exact Below.refl _ _) | (with_reducible assumption) | (with_reducible refine Below.alloc ?_ ?_ _) | (with_reducible refine Below.drew ?_) | (with_reducible refine below_drewN ?_ _) | (with_reducible refine Below.setCell ?_ ?_ _) | (with_reducible refine below_step (by with_reducible assumption) ?_ ?_) | (first | (with_reducible exact Nat.le_refl _) | (with_reducible assumption) | omega | (simp only [World.size_alloc, World.size_setCell, World.size_drew, size_drewN]; omega) | (simp; omega) | (simp; done)))))⟩
      simp [results, Try.results40, go_sem]
    · obtain ⟨s1, s2, s3, s4, s5⟩ := exp_step (by omega) x0 h1' h0 HX.out.1
      have f2 : IntKind.u64.wrap ((k : Int) + 1) = (k : Int) + 1 := wrap_id (by omega) (by omega)
      have FI := hide (fun w => from64_c (x := (k : Int) + 1) (by omega) (by omega) w)
      have hB0 : 0 < ((k : Int) + 1).toNat * (10000 : Int).toNat := by have : (10000 : Int).toNat = 10000 := rfl; rw [this]; omega
      have f9 : (1 : Int) ≤ (k : Int) + 1 := by omega
      have HEN := hide (exp_nat (k := k) x0 h0)
      have HS := hide (And.intro s3 (And.intro s4 s5))
      clear s1 s2 s3 s4 s5
      go_wp2_with fail
      refine (FX.out _).mono ?_
      rintro e v1 ⟨d1, m1, b1, rfl, q1, l1, hv1⟩
      have hz1 := hv1.size
      have g1 := hide (g.out.below hv1 (Nat.le_refl _))
      go_wp2_with fail
      refine (rmul_c _ _ _ _ _ _ _ g1 q1 (by omega) (by omega)).mono ?_
      rintro e v2 ⟨d2, m2, b2, rfl, q2, l2, hv2⟩
      have hz2 := hv2.size
      go_wp2_with fail
      refine (FI.out _).mono ?_
      rintro e v3 ⟨d3, m3, b3, rfl, q3, l3, hv3⟩
      have hz3 := hv3.size
      have q2b := hide (q2.out.below hv3 (Nat.le_refl _))
      go_wp2_with fail
      refine (FT.out _).mono ?_
      rintro e v4 ⟨d4, m4, b4, rfl, q4, l4, hv4⟩
      have hz4 := hv4.size
      have q2c := hide (q2b.out.below hv4 (Nat.le_refl _))
      have q3b := hide (q3.out.below hv4 (Nat.le_refl _))
      go_wp2_with fail
      refine (rmul_c _ _ _ _ _ _ _ q3b q4 (by omega) (by omega)).mono ?_
      rintro e v5 ⟨d5, m5, b5, rfl, q5, l5, hv5⟩
      have hz5 := hv5.size
      have q2d := hide (q2c.out.below hv5 (Nat.le_refl _))
      go_wp2_with fail
      refine (rdiv_c _ _ _ _ _ _ _ q2d q5 hB0 (by omega) (by omega)).mono ?_
      rintro e v6 ⟨d6, m6, b6, d7, m7, b7, rfl, q6, q7, l6, l7, hv6⟩
      have hz6 := hv6.size
      go_wp2_with fail
      refine (FT.out _).mono ?_
      rintro e v7 ⟨d8, m8, b8, rfl, q8, l8, hv7⟩
      have hz7 := hv7.size
      have q6b := hide (q6.out.below hv7 (Nat.le_refl _))
      go_wp2_with fail
      refine (radd_c _ _ _ _ _ _ _ q8 q6b (by omega) (by omega)).mono ?_
      rintro e v8 ⟨d9, m9, b9, rfl, q9, l9, hv8⟩
      have hz8 := hv8.size
      go_wp2
      go_roundw
      case rel =>
        refine ⟨k, 10000 + h * x / (((k : Int) + 1) * 10000), d9, m9, b9, by go_num, rfl, by omega, by have := HS.out.1; omega, HS.out.2.2, hide ?_, hide ⟨HS.out.2.1, HX.out.2⟩, hide (by (repeat' (first | (with_reducible exact Below.refl _ _) | (with_reducible assumption) | (with_reducible refine Below.alloc ?_ ?_ _) | (with_reducible refine Below.drew ?_) | (with_reducible refine below_drewN ?_ _) | (with_reducible refine Below.setCell ?_ ?_ _) | (with_reducible refine below_step (by with_reducible assumption) ?_ ?_) | (first | (with_reducible exact Nat.le_refl _) | (with_reducible assumption) | omega | (simp only [World.size_alloc, World.size_setCell, World.size_drew, size_drewN]; omega) | (simp; omega) | (simp; done)))))⟩
        rw [← HEN.out]
        exact q9.out
      case measure => first | (simp [intOf]; done) | (simp [intOf]; omega)
end Go.Proofs.Ytkneiobohhhcpaa
