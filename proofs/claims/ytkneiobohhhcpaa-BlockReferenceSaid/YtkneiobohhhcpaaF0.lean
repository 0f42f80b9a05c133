/- basefee: Exponent, Fee. -/
import Derived.WalkKit
import Derived.KernelRfl
import Derived.RowKit3
import Derived.Deep.LoopGhost
import Derived.Deep.QuietTactic
import Derived.BigQuiet
import Derived.WideLaws
import Derived.Laws.Rows
import Derived.Below
import Derived.Deep.Draws
import Derived.Outline
import Derived.LoopN
import Derived.Handy
import Derived.Laws.Externs
import Derived.Laws.BitsAllLaws
import Derived.Laws.BitsLemmas
import Derived.Deep.DeepCutAuto
import Derived.Deep.CutBlock
import Derived.Deep.RegionHeld3
import Derived.Test.YtkneiobohhhcpaaP6
import Derived.Test.YtkneiobohhhcpaaQ1
import Derived.Test.YtkneiobohhhcpaaK
import Derived.Test.YtkneiobohhhcpaaE1
namespace Go.Proofs.Ytkneiobohhhcpaa
open Go.RowKit
set_option linter.unusedVariables false
set_option linter.unusedSimpArgs false
def seV (A : Nat) (x t : Int) : Nat := if expE x t = 0 then mdV A (expV x t).toNat 10000 else 0
def seE (A : Nat) (x t : Int) : Int := if expE x t = 0 then mdE A (expV x t).toNat 10000 else expE x t
theorem seV_lt (A : Nat) (x t : Int) : seV A x t < M256 := by
  unfold seV
  split
  · exact mdV_lt _ _ _
  · decide
set_option maxHeartbeats 8000000 in
theorem sexpU_c {A : Nat} {a0 a1 a2 a3 x t : Int} (uA : isU A a0 a1 a2 a3) (x0 : 0 ≤ x) (x1 : x < 18446744073709551616) (w : World) :
    Calls Try.prog 24 #[.agg #[.int .u64 a0, .int .u64 a1, .int .u64 a2, .int .u64 a3], .int .u64 x, .int .i64 t] w fun e w' => e = .returned (.tuple #[.agg #[.int .u64 (lim (seV A x t) 0), .int .u64 (lim (seV A x t) 1), .int .u64 (lim (seV A x t) 2), .int .u64 (lim (seV A x t) 3)], .int .i64 (seE A x t)]) ∧ Below w.heap.size w w' := by
  obtain ⟨rfl, rfl, rfl, rfl⟩ := uA.lims
  have hA := uA.lt
  have HE := hide (fun w => exp_c (x := x) (t := t) x0 x1 w)
  obtain ⟨b0, b1⟩ := expV_lt x t x0
  have HS := hide (fun w => scale_c (isU_lim hA) (b := expV x t) b0 (by omega) w)
  clear uA
  by_cases he : expE x t = 0
  · rw [seV, seE, if_pos he, if_pos he]
    clear b0 b1 hA
    go_enter Try.func24, Try.ntmps24
    go_wp2_with fail
    refine (HE.out _).mono ?_
    rintro e w1 ⟨rfl, hb1⟩
    have hs1 := hb1.size
    try simp only [World.size_alloc, World.size_setCell, World.size_drew, size_drewN] at hs1
    have hc1_0 : ∀ o, w1.cell? ⟨w.heap.size, o, none⟩ = _ := fun o => hb1.cell (p := ⟨w.heap.size, o, none⟩) (by ((try simp only [World.size_alloc, World.size_setCell, World.size_drew, size_drewN]); omega))
    have hf1_0 : ∀ o, w1.frozen? ⟨w.heap.size, o, none⟩ = _ := fun o => hb1.frozen (p := ⟨w.heap.size, o, none⟩) (by ((try simp only [World.size_alloc, World.size_setCell, World.size_drew, size_drewN]); omega))
    have z1_0 : w.heap.size < w1.heap.size := (by omega)
    have hc1_1 : ∀ o, w1.cell? ⟨w.heap.size + 1, o, none⟩ = _ := fun o => hb1.cell (p := ⟨w.heap.size + 1, o, none⟩) (by ((try simp only [World.size_alloc, World.size_setCell, World.size_drew, size_drewN]); omega))
    have hf1_1 : ∀ o, w1.frozen? ⟨w.heap.size + 1, o, none⟩ = _ := fun o => hb1.frozen (p := ⟨w.heap.size + 1, o, none⟩) (by ((try simp only [World.size_alloc, World.size_setCell, World.size_drew, size_drewN]); omega))
    have z1_1 : w.heap.size + 1 < w1.heap.size := (by omega)
    go_wp2_with fail
    refine (HS.out _).mono ?_
    rintro e w2 ⟨rfl, hb2⟩
    have hs2 := hb2.size
    try simp only [World.size_alloc, World.size_setCell, World.size_drew, size_drewN] at hs2
    have hc2_0 : ∀ o, w2.cell? ⟨w.heap.size, o, none⟩ = _ := fun o => hb2.cell (p := ⟨w.heap.size, o, none⟩) (by ((try simp only [World.size_alloc, World.size_setCell, World.size_drew, size_drewN]); omega))
    have hf2_0 : ∀ o, w2.frozen? ⟨w.heap.size, o, none⟩ = _ := fun o => hb2.frozen (p := ⟨w.heap.size, o, none⟩) (by ((try simp only [World.size_alloc, World.size_setCell, World.size_drew, size_drewN]); omega))
    have z2_0 : w.heap.size < w2.heap.size := (by omega)
    have hc2_1 : ∀ o, w2.cell? ⟨w.heap.size + 1, o, none⟩ = _ := fun o => hb2.cell (p := ⟨w.heap.size + 1, o, none⟩) (by ((try simp only [World.size_alloc, World.size_setCell, World.size_drew, size_drewN]); omega))
    have hf2_1 : ∀ o, w2.frozen? ⟨w.heap.size + 1, o, none⟩ = _ := fun o => hb2.frozen (p := ⟨w.heap.size + 1, o, none⟩) (by ((try simp only [World.size_alloc, World.size_setCell, World.size_drew, size_drewN]); omega))
    have z2_1 : w.heap.size + 1 < w2.heap.size := (by omega)
    go_wp2
    refine cutW (fun W => Box W (w.heap.size + 1) (lim (mdV A (expV x t).toNat 10000) 0) (lim (mdV A (expV x t).toNat 10000) 1) (lim (mdV A (expV x t).toNat 10000) 2) (lim (mdV A (expV x t).toNat 10000) 3) ∧ Below w.heap.size w W) ?_ ?_
    · refine ⟨?_, (by (repeat' (first | (with_reducible exact Below.refl _ _) | (with_reducible assumption) | (with_reducible refine Below.alloc ?_ ?_ _) | (with_reducible refine Below.drew ?_) | (with_reducible refine below_drewN ?_ _) | (with_reducible refine Below.setCell ?_ ?_ _) | (with_reducible refine below_step (by with_reducible assumption) ?_ ?_) | (first | (with_reducible exact Nat.le_refl _) | (with_reducible assumption) | omega | (simp only [World.size_alloc, World.size_setCell, World.size_drew, size_drewN]; omega) | (simp; omega) | (simp; done)))))⟩ <;> (constructor <;> (first | (simp only [World.size_alloc, World.size_setCell, World.size_drew, size_drewN]; omega) | (simp (maxDischargeDepth := 16) [go_sem, *, World.cell?_alloc_some, World.cell?_setCell_far]; done)))
    rintro W ⟨bx0, hbW⟩
    obtain ⟨rc00, rc01, rc02, rc03, rf00, rf01, rf02, rf03, rlt0⟩ := bx0
    refine bodyPost_ret ?_ rfl ⟨rfl, hbW⟩
    simp [results, Try.results24, go_sem, rc00, rc01, rc02, rc03]
  · have he' : expE x t = 2 := by unfold expE at he ⊢; split <;> rename_i hh <;> simp [hh] at he ⊢
    have hv : expV x t = 0 := by
      unfold expE at he
      unfold expV
      split
      · rfl
      · rename_i hh; rw [if_neg hh] at he; exact absurd rfl he
    rw [seV, seE, if_neg he, if_neg he, lim_zero, lim_zero, lim_zero, lim_zero]
    rw [hv, he'] at HE
    rw [he']
    clear b0 b1 hA he he' hv
    go_enter Try.func24, Try.ntmps24
    go_wp2_with fail
    refine (HE.out _).mono ?_
    rintro e w1 ⟨rfl, hb1⟩
    have hs1 := hb1.size
    try simp only [World.size_alloc, World.size_setCell, World.size_drew, size_drewN] at hs1
    have hc1_0 : ∀ o, w1.cell? ⟨w.heap.size, o, none⟩ = _ := fun o => hb1.cell (p := ⟨w.heap.size, o, none⟩) (by ((try simp only [World.size_alloc, World.size_setCell, World.size_drew, size_drewN]); omega))
    have hf1_0 : ∀ o, w1.frozen? ⟨w.heap.size, o, none⟩ = _ := fun o => hb1.frozen (p := ⟨w.heap.size, o, none⟩) (by ((try simp only [World.size_alloc, World.size_setCell, World.size_drew, size_drewN]); omega))
    have z1_0 : w.heap.size < w1.heap.size := (by omega)
    have hc1_1 : ∀ o, w1.cell? ⟨w.heap.size + 1, o, none⟩ = _ := fun o => hb1.cell (p := ⟨w.heap.size + 1, o, none⟩) (by ((try simp only [World.size_alloc, World.size_setCell, World.size_drew, size_drewN]); omega))
    have hf1_1 : ∀ o, w1.frozen? ⟨w.heap.size + 1, o, none⟩ = _ := fun o => hb1.frozen (p := ⟨w.heap.size + 1, o, none⟩) (by ((try simp only [World.size_alloc, World.size_setCell, World.size_drew, size_drewN]); omega))
    have z1_1 : w.heap.size + 1 < w1.heap.size := (by omega)
    go_wp2
    refine cutW (fun W => Box W (w.heap.size + 1) (0) (0) (0) (0) ∧ Below w.heap.size w W) ?_ ?_
    · refine ⟨?_, (by (repeat' (first | (with_reducible exact Below.refl _ _) | (with_reducible assumption) | (with_reducible refine Below.alloc ?_ ?_ _) | (with_reducible refine Below.drew ?_) | (with_reducible refine below_drewN ?_ _) | (with_reducible refine Below.setCell ?_ ?_ _) | (with_reducible refine below_step (by with_reducible assumption) ?_ ?_) | (first | (with_reducible exact Nat.le_refl _) | (with_reducible assumption) | omega | (simp only [World.size_alloc, World.size_setCell, World.size_drew, size_drewN]; omega) | (simp; omega) | (simp; done)))))⟩ <;> (constructor <;> (first | (simp only [World.size_alloc, World.size_setCell, World.size_drew, size_drewN]; omega) | (simp (maxDischargeDepth := 16) [go_sem, *, World.cell?_alloc_some, World.cell?_setCell_far]; done)))
    rintro W ⟨bx0, hbW⟩
    obtain ⟨rc00, rc01, rc02, rc03, rf00, rf01, rf02, rf03, rlt0⟩ := bx0
    refine bodyPost_ret ?_ rfl ⟨rfl, hbW⟩
    simp [results, Try.results24, go_sem, rc00, rc01, rc02, rc03]
/-- The exponent of a backlog. -/
def xqV (b : Int) (P : Nat → Int) : Int := min (drn b (P 0) (P 1) * 10000 / (P 2 * P 0)) 200000
def xV (b : Int) (P : Nat → Int) : Int := if fiV P = 0 then xqV b P else 0
def xE (P : Nat → Int) : Int := if fiV P = 0 then 0 else 15
def feV (b : Int) (P : Nat → Int) : Nat := if fiV P = 0 then seV (getN P 4) (xqV b P) 10 else 0
def feE (b : Int) (P : Nat → Int) : Int := if fiV P = 0 then seE (getN P 4) (xqV b P) 10 else 15
theorem val_one {n : Nat → Int} (h0 : 0 ≤ n 0) (h1 : n 1 = 0) (h2 : n 2 = 0) (h3 : n 3 = 0) : (valL n : Int) = n 0 := by
  unfold valL
  rw [h1, h2, h3]
  omega
/-- What is known of valid parameters. -/
theorem valid_rg {P : Nat → Int} (hP : PW P) (h : fiV P = 0) : 1 ≤ P 0 ∧ P 0 ≤ 1099511627776 ∧ P 1 ≤ 1048576 ∧ 1 ≤ P 2 ∧ P 2 ≤ 1048576 ∧ 1 ≤ getN P 4 ∧ getN P 4 < 18446744073709551616 ∧ 1 ≤ P 7 ∧ P 7 ≤ 1099511627776 := by
  have hh := fi_zero.1 h
  have g (k : Int) (h0 : getL P k 1 = 0) (h1 : getL P k 2 = 0) (h2 : getL P k 3 = 0) : (getN P k : Int) = getL P k 0 := val_one (getL_w hP k 0).1 h0 h1 h2
  have k1 := hh 1 (by omega) (by omega)
  have k2 := hh 2 (by omega) (by omega)
  have k3 := hh 3 (by omega) (by omega)
  have k4 := hh 4 (by omega) (by omega)
  have k5 := hh 5 (by omega) (by omega)
  unfold okP at k1 k2 k3 k4 k5
  rw [g 1 rfl rfl rfl] at k1
  rw [g 2 rfl rfl rfl] at k2
  rw [g 3 rfl rfl rfl] at k3
  rw [g 5 rfl rfl rfl] at k5
  have e1 : getL P 1 0 = P 0 := rfl
  have e2 : getL P 2 0 = P 1 := rfl
  have e3 : getL P 3 0 = P 2 := rfl
  have e5 : getL P 5 0 = P 7 := rfl
  have b1 : bndL P 1 = 1 ∧ bndM 1 = 1099511627776 := ⟨rfl, rfl⟩
  have b2 : bndL P 2 = 0 ∧ bndM 2 = 1048576 := ⟨rfl, rfl⟩
  have b3 : bndL P 3 = 1 ∧ bndM 3 = 1048576 := ⟨rfl, rfl⟩
  have b4 : bndL P 4 = 1 ∧ bndM 4 = 18446744073709551615 := ⟨rfl, rfl⟩
  have b5 : bndL P 5 = 1 ∧ bndM 5 = 1099511627776 := ⟨rfl, rfl⟩
  omega
/-- The steps of the exponent. -/
theorem xq_facts {P : Nat → Int} (hP : PW P) (h : fiV P = 0) {b : Int} (b0 : 0 ≤ b) (b1 : b < 18446744073709551616) :
    ∃ D by' hi lo q : Int, drn b (P 0) (P 1) = D ∧ 0 ≤ D ∧ D < 18446744073709551616 ∧ P 2 * P 0 = by' ∧ IntKind.u64.wrap by' = by' ∧ 1 ≤ by' ∧ by' < 18446744073709551616 ∧ D * 10000 / 18446744073709551616 = hi ∧ D * 10000 % 18446744073709551616 = lo ∧ 0 ≤ hi ∧ 0 ≤ lo ∧ lo < 18446744073709551616 ∧ (hi * 18446744073709551616 + lo) / by' = q ∧ 0 ≤ q ∧ xqV b P = min q 200000 ∧ (by' ≤ hi → 200000 ≤ q) ∧ (hi < by' → q < 18446744073709551616) := by
  obtain ⟨r0, r1, r2, r3, r4, _⟩ := valid_rg hP h
  have h0 := hP 0; have h1 := hP 1; have h2 := hP 2
  obtain ⟨d0, d1⟩ := drn_rg (b := b) (s := P 0) (t := P 1) b0 b1 h0.1 h1.1
  have hb1 : P 2 * P 0 ≤ 1048576 * 1099511627776 := Int.mul_le_mul r4 r1 h0.1 (by omega)
  have hb0 : 1 * 1 ≤ P 2 * P 0 := Int.mul_le_mul r3 r0 (by omega) (by omega)
  obtain ⟨D, hD⟩ : ∃ D, drn b (P 0) (P 1) = D := ⟨_, rfl⟩
  obtain ⟨y, hy⟩ : ∃ y, P 2 * P 0 = y := ⟨_, rfl⟩
  rw [hD] at d0 d1
  rw [hy] at hb0 hb1
  have e : D * 10000 / 18446744073709551616 * 18446744073709551616 + D * 10000 % 18446744073709551616 = D * 10000 := by omega
  refine ⟨D, y, _, _, _, hD, d0, by omega, hy, by rw [wrap_mod]; omega, by omega, by omega, rfl, rfl, by omega, by omega, by omega, rfl, ?_, ?_, ?_, ?_⟩
  all_goals try rw [e]
  · exact Int.ediv_nonneg (by omega) (by omega)
  · unfold xqV; rw [hD, hy]
  · intro hh
    refine Int.le_ediv_of_mul_le (by omega) ?_
    omega
  · intro hh
    refine Int.ediv_lt_of_lt_mul (by omega) ?_
    omega
set_option maxRecDepth 20000 in
set_option maxHeartbeats 8000000 in
theorem exponent_c (P : Nat → Int) (hP : PW P) {b : Int} (b0 : 0 ≤ b) (b1 : b < 18446744073709551616) (w : World) :
    Calls Try.prog 23 #[.int .u64 b, .agg (pC P)] w fun e w' => e = .returned (.tuple #[.int .u64 (xV b P), .int .i64 (xE P)]) ∧ Below w.heap.size w w' := by
  have HV := hide (fun w => validP_c P hP w)
  have HP0 := hide (PBlk.new w P)
  by_cases hv : fiV P = 0
  · rw [xV, xE, if_pos hv, if_pos hv]
    rw [hv] at HV
    obtain ⟨D, by', hi, lo, q, eD, D0, D1, ey, ewy, y0, y1, ehi, elo, hi0, lo0, lo1, eq, q0, exq, f1, f2⟩ := xq_facts hP hv b0 b1
    have HX := hide (fun w => exc_c (b := b) (s := P 0) (t := P 1) b0 b1 (hP 0).1 (hP 0).2 (hP 1).1 (hP 1).2 w)
    rw [eD] at HX
    have HM := hide (fun w => mul64_c (x := D) (y := 10000) D0 D1 (by omega) (by omega) w)
    rw [ehi, elo] at HM
    have HD := hide (fun h w => div64_c (h := hi) (y := by') (l := lo) hi0 h y1 lo0 lo1 w)
    rw [eq] at HD
    rw [exq]
    clear eD ehi elo eq hv
    have HC0 := hide (HP0.out.cell (i := 0) (by omega))
    have HC1 := hide (HP0.out.cell (i := 1) (by omega))
    have HC2 := hide (HP0.out.cell (i := 2) (by omega))
    have HB := hide (show Below w.heap.size w (w.alloc (.cells (pC P) 27)) from (Below.refl _ _).alloc (Nat.le_refl _) _)
    rcases Int.lt_or_le hi by' with hlt | hge
    · replace f2 := f2 hlt
      replace HD := hide (HD.out hlt)
      clear f1
      go_enter Try.func23, Try.ntmps23
      go_wp2_with (refine wpList_load_row26 rfl (.tmp 3) rfl (g := w.heap.size) rfl HP0.out ?_)
      refine (HV.out _).mono ?_
      rintro e w1 ⟨rfl, hb1⟩
      have hs1 : w.heap.size + 1 ≤ w1.heap.size := by have := hb1.size; simpa using this
      have hB1 := hide (HB.out.trans (hb1.mono (by simp)))
      have hc0 := (hb1.cell (p := ⟨w.heap.size, 0, none⟩) (by simp)).trans HC0.out
      have hc1 := (hb1.cell (p := ⟨w.heap.size, 1, none⟩) (by simp)).trans HC1.out
      have hc2 := (hb1.cell (p := ⟨w.heap.size, 2, none⟩) (by simp)).trans HC2.out
      clear hb1
      go_wp2_with (first | (go_at_call 29; refine (HX.out _).mono ?_; rintro e w2 ⟨rfl, rfl⟩) | (go_at_call 28; refine (HM.out _).mono ?_; rintro e w3 ⟨rfl, rfl⟩) | (go_at_call 30; refine (HD.out _).mono ?_; rintro e w4 ⟨rfl, hb4⟩))
      go_ret2
      exact ⟨rfl, hB1.out.trans (hb4.mono (by omega))⟩
    · rw [Int.min_eq_right (f1 hge)]
      clear f1 f2 HD
      go_enter Try.func23, Try.ntmps23
      go_wp2_with (refine wpList_load_row26 rfl (.tmp 3) rfl (g := w.heap.size) rfl HP0.out ?_)
      refine (HV.out _).mono ?_
      rintro e w1 ⟨rfl, hb1⟩
      have hs1 : w.heap.size + 1 ≤ w1.heap.size := by have := hb1.size; simpa using this
      have hB1 := hide (HB.out.trans (hb1.mono (by simp)))
      have hc0 := (hb1.cell (p := ⟨w.heap.size, 0, none⟩) (by simp)).trans HC0.out
      have hc1 := (hb1.cell (p := ⟨w.heap.size, 1, none⟩) (by simp)).trans HC1.out
      have hc2 := (hb1.cell (p := ⟨w.heap.size, 2, none⟩) (by simp)).trans HC2.out
      clear hb1
      go_wp2_with (first | (go_at_call 29; refine (HX.out _).mono ?_; rintro e w2 ⟨rfl, rfl⟩) | (go_at_call 28; refine (HM.out _).mono ?_; rintro e w3 ⟨rfl, rfl⟩) | (go_at_call 30; refine (HD.out _).mono ?_; rintro e w4 ⟨rfl, hb4⟩))
      go_ret2
      exact ⟨rfl, hB1.out⟩
  · rw [xV, xE, if_neg hv, if_neg hv]
    have hv' : (fiV P == 0) = false := by simpa using hv
    rw [hv'] at HV
    have HB := hide (show Below w.heap.size w (w.alloc (.cells (pC P) 27)) from (Below.refl _ _).alloc (Nat.le_refl _) _)
    clear hv hv'
    go_enter Try.func23, Try.ntmps23
    go_wp2_with (refine wpList_load_row26 rfl (.tmp 3) rfl (g := w.heap.size) rfl HP0.out ?_)
    refine (HV.out _).mono ?_
    rintro e w1 ⟨rfl, hb1⟩
    have hB1 := hide (HB.out.trans (hb1.mono (by simp)))
    clear hb1
    go_wp2
    go_ret2
    exact ⟨rfl, hB1.out⟩
end Go.Proofs.Ytkneiobohhhcpaa
