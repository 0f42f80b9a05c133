/- Chapter 5: ScaleExp against the reference, walked. -/
import Derived.WalkKit
import Derived.KernelRfl
import Derived.RowKit3
import Derived.Deep.LoopGhost
import Derived.Deep.QuietTactic
import Derived.BigQuiet
import Derived.WideLaws
import Derived.Laws.Rows
import Derived.Below
import Derived.Deep.Draws
import Derived.Outline
import Derived.LoopN
import Derived.Handy
import Derived.Laws.Externs
import Derived.Laws.BitsAllLaws
import Derived.Laws.BitsLemmas
import Derived.Deep.DeepCutAuto
import Derived.Deep.CutBlock
import Derived.Deep.RegionHeld3
import Derived.Test.YteehlkdhgjdpaaaR18
namespace Go.Proofs.Yteehlkdhgjdpaaa
open Go.RowKit
set_option linter.unusedVariables false
set_option linter.unusedSimpArgs false
theorem ix2i (a b : Int) : (∀ W : World, (Instr.index 34 (.agg #[.int .i64 a, .int .i64 b]) (.int .i64 0)).run Try.prog W = .ok (.int .i64 a) W) ∧ (∀ W : World, (Instr.index 34 (.agg #[.int .i64 a, .int .i64 b]) (.int .i64 1)).run Try.prog W = .ok (.int .i64 b) W) := by
  refine ⟨fun W => ?_, fun W => ?_⟩ <;> simp [Instr.index, run_underlying Try.underlying34, asIntOf, go_sem]
def seV (A : Nat) (x t : Int) : Nat := if expE x t = 0 then mdV A (expV x t).toNat 10000 else 0
def seE (A : Nat) (x t : Int) : Int := if expE x t = 0 then mdE A (expV x t).toNat 10000 else expE x t
set_option maxHeartbeats 8000000 in
theorem sexp_c {A : Nat} {x t : Int} (hA : A < M256) (x0 : 0 ≤ x) (x1 : x < 18446744073709551616) (w : World) :
    Calls Try.prog 12 #[.agg #[.int .u64 (lim A 0), .int .u64 (lim A 1), .int .u64 (lim A 2), .int .u64 (lim A 3)], .int .u64 x, .int .i64 t] w fun e w' => e = .returned (.tuple #[.agg #[.int .u64 (lim (seV A x t) 0), .int .u64 (lim (seV A x t) 1), .int .u64 (lim (seV A x t) 2), .int .u64 (lim (seV A x t) 3)], .int .i64 (seE A x t)]) ∧ Below w.heap.size w w' := by
  have HE := hide (fun w => exp_c (x := x) (t := t) x0 x1 w)
  obtain ⟨b0, b1⟩ := expV_lt x t x0
  have HS := hide (fun w => scale_c (isU_lim hA) (b := expV x t) b0 (by omega) w)
  by_cases he : expE x t = 0
  · rw [seV, seE, if_pos he, if_pos he]
    clear b0 b1 hA
    go_enter Try.func12, Try.ntmps12
    go_wp2_with fail
    refine (HE.out _).mono ?_
    rintro e w1 ⟨rfl, hb1⟩
    have hs1 := hb1.size
    try simp only [World.size_alloc, World.size_setCell, World.size_drew, size_drewN] at hs1
    have hc1_0 : ∀ o, w1.cell? ⟨w.heap.size, o, none⟩ = _ := fun o => hb1.cell (p := ⟨w.heap.size, o, none⟩) (by ((try simp only [World.size_alloc, World.size_setCell, World.size_drew, size_drewN]); omega))
    have hf1_0 : ∀ o, w1.frozen? ⟨w.heap.size, o, none⟩ = _ := fun o => hb1.frozen (p := ⟨w.heap.size, o, none⟩) (by ((try simp only [World.size_alloc, World.size_setCell, World.size_drew, size_drewN]); omega))
    have z1_0 : w.heap.size < w1.heap.size := (by omega)
    have hc1_1 : ∀ o, w1.cell? ⟨w.heap.size + 1, o, none⟩ = _ := fun o => hb1.cell (p := ⟨w.heap.size + 1, o, none⟩) (by ((try simp only [World.size_alloc, World.size_setCell, World.size_drew, size_drewN]); omega))
    have hf1_1 : ∀ o, w1.frozen? ⟨w.heap.size + 1, o, none⟩ = _ := fun o => hb1.frozen (p := ⟨w.heap.size + 1, o, none⟩) (by ((try simp only [World.size_alloc, World.size_setCell, World.size_drew, size_drewN]); omega))
    have z1_1 : w.heap.size + 1 < w1.heap.size := (by omega)
    go_wp2_with fail
    refine (HS.out _).mono ?_
    rintro e w2 ⟨rfl, hb2⟩
    have hs2 := hb2.size
    try simp only [World.size_alloc, World.size_setCell, World.size_drew, size_drewN] at hs2
    have hc2_0 : ∀ o, w2.cell? ⟨w.heap.size, o, none⟩ = _ := fun o => hb2.cell (p := ⟨w.heap.size, o, none⟩) (by ((try simp only [World.size_alloc, World.size_setCell, World.size_drew, size_drewN]); omega))
    have hf2_0 : ∀ o, w2.frozen? ⟨w.heap.size, o, none⟩ = _ := fun o => hb2.frozen (p := ⟨w.heap.size, o, none⟩) (by ((try simp only [World.size_alloc, World.size_setCell, World.size_drew, size_drewN]); omega))
    have z2_0 : w.heap.size < w2.heap.size := (by omega)
    have hc2_1 : ∀ o, w2.cell? ⟨w.heap.size + 1, o, none⟩ = _ := fun o => hb2.cell (p := ⟨w.heap.size + 1, o, none⟩) (by ((try simp only [World.size_alloc, World.size_setCell, World.size_drew, size_drewN]); omega))
    have hf2_1 : ∀ o, w2.frozen? ⟨w.heap.size + 1, o, none⟩ = _ := fun o => hb2.frozen (p := ⟨w.heap.size + 1, o, none⟩) (by ((try simp only [World.size_alloc, World.size_setCell, World.size_drew, size_drewN]); omega))
    have z2_1 : w.heap.size + 1 < w2.heap.size := (by omega)
    go_wp2
    refine cutW (fun W => Box W (w.heap.size + 1) (lim (mdV A (expV x t).toNat 10000) 0) (lim (mdV A (expV x t).toNat 10000) 1) (lim (mdV A (expV x t).toNat 10000) 2) (lim (mdV A (expV x t).toNat 10000) 3) ∧ Below w.heap.size w W) ?_ ?_
    · refine ⟨?_, (by (repeat' (first | (with_reducible exact Below.refl _ _) | (with_reducible assumption) | (with_reducible refine Below.alloc ?_ ?_ _) | (with_reducible refine Below.drew ?_) | (with_reducible refine below_drewN ?_ _) | (with_reducible refine Below.setCell ?_ ?_ _) | (with_reducible refine below_step (by with_reducible assumption) ?_ ?_) | (first | (with_reducible exact Nat.le_refl _) | (with_reducible assumption) | omega | (simp only [World.size_alloc, World.size_setCell, World.size_drew, size_drewN]; omega) | (simp; omega) | (simp; done)))))⟩ <;> (constructor <;> (first | (simp only [World.size_alloc, World.size_setCell, World.size_drew, size_drewN]; omega) | (simp (maxDischargeDepth := 16) [go_sem, *, World.cell?_alloc_some, World.cell?_setCell_far]; done)))
    rintro W ⟨bx0, hbW⟩
    obtain ⟨rc00, rc01, rc02, rc03, rf00, rf01, rf02, rf03, rlt0⟩ := bx0
    refine bodyPost_ret ?_ rfl ⟨rfl, hbW⟩
    simp [results, Try.results12, go_sem, rc00, rc01, rc02, rc03]
  · have he' : expE x t = 2 := by unfold expE at he ⊢; split <;> rename_i hh <;> simp [hh] at he ⊢
    have hv : expV x t = 0 := by
      unfold expE at he
      unfold expV
      split
      · rfl
      · rename_i hh; rw [if_neg hh] at he; exact absurd rfl he
    rw [seV, seE, if_neg he, if_neg he, lim_zero, lim_zero, lim_zero, lim_zero]
    rw [hv, he'] at HE
    rw [he']
    clear b0 b1 hA he he' hv
    go_enter Try.func12, Try.ntmps12
    go_wp2_with fail
    refine (HE.out _).mono ?_
    rintro e w1 ⟨rfl, hb1⟩
    have hs1 := hb1.size
    try simp only [World.size_alloc, World.size_setCell, World.size_drew, size_drewN] at hs1
    have hc1_0 : ∀ o, w1.cell? ⟨w.heap.size, o, none⟩ = _ := fun o => hb1.cell (p := ⟨w.heap.size, o, none⟩) (by ((try simp only [World.size_alloc, World.size_setCell, World.size_drew, size_drewN]); omega))
    have hf1_0 : ∀ o, w1.frozen? ⟨w.heap.size, o, none⟩ = _ := fun o => hb1.frozen (p := ⟨w.heap.size, o, none⟩) (by ((try simp only [World.size_alloc, World.size_setCell, World.size_drew, size_drewN]); omega))
    have z1_0 : w.heap.size < w1.heap.size := (by omega)
    have hc1_1 : ∀ o, w1.cell? ⟨w.heap.size + 1, o, none⟩ = _ := fun o => hb1.cell (p := ⟨w.heap.size + 1, o, none⟩) (by ((try simp only [World.size_alloc, World.size_setCell, World.size_drew, size_drewN]); omega))
    have hf1_1 : ∀ o, w1.frozen? ⟨w.heap.size + 1, o, none⟩ = _ := fun o => hb1.frozen (p := ⟨w.heap.size + 1, o, none⟩) (by ((try simp only [World.size_alloc, World.size_setCell, World.size_drew, size_drewN]); omega))
    have z1_1 : w.heap.size + 1 < w1.heap.size := (by omega)
    go_wp2
    refine cutW (fun W => Box W (w.heap.size + 1) (0) (0) (0) (0) ∧ Below w.heap.size w W) ?_ ?_
    · refine ⟨?_, (by (repeat' (first | (with_reducible exact Below.refl _ _) | (with_reducible assumption) | (with_reducible refine Below.alloc ?_ ?_ _) | (with_reducible refine Below.drew ?_) | (with_reducible refine below_drewN ?_ _) | (with_reducible refine Below.setCell ?_ ?_ _) | (with_reducible refine below_step (by with_reducible assumption) ?_ ?_) | (first | (with_reducible exact Nat.le_refl _) | (with_reducible assumption) | omega | (simp only [World.size_alloc, World.size_setCell, World.size_drew, size_drewN]; omega) | (simp; omega) | (simp; done)))))⟩ <;> (constructor <;> (first | (simp only [World.size_alloc, World.size_setCell, World.size_drew, size_drewN]; omega) | (simp (maxDischargeDepth := 16) [go_sem, *, World.cell?_alloc_some, World.cell?_setCell_far]; done)))
    rintro W ⟨bx0, hbW⟩
    obtain ⟨rc00, rc01, rc02, rc03, rf00, rf01, rf02, rf03, rlt0⟩ := bx0
    refine bodyPost_ret ?_ rfl ⟨rfl, hbW⟩
    simp [results, Try.results12, go_sem, rc00, rc01, rc02, rc03]
set_option maxHeartbeats 8000000 in
theorem rsexp_c {A : Nat} {x t : Int} (hA : A < M256) (x0 : 0 ≤ x) (x1 : x < 18446744073709551616) (w : World) :
    Calls Try.prog 13 #[.agg #[.int .u64 (lim A 0), .int .u64 (lim A 1), .int .u64 (lim A 2), .int .u64 (lim A 3)], .int .u64 x, .int .i64 t] w fun e w' => e = .returned (.tuple #[.agg #[.int .u64 (lim (seV A x t) 0), .int .u64 (lim (seV A x t) 1), .int .u64 (lim (seV A x t) 2), .int .u64 (lim (seV A x t) 3)], .int .i64 (seE A x t)]) ∧ Below w.heap.size w w' := by
  have HE := hide (fun w => rexp_c (x := x) (t := t) x0 x1 w)
  obtain ⟨b0, b1⟩ := expV_lt x t x0
  have HS := hide (fun w => rscale_c hA (b := expV x t) b0 (by omega) w)
  by_cases he : expE x t = 0
  · rw [seV, seE, if_pos he, if_pos he]
    clear b0 b1 hA
    go_enter Try.func13, Try.ntmps13
    go_wp2_with fail
    refine (HE.out _).mono ?_
    rintro e w1 ⟨rfl, hb1⟩
    have hs1 := hb1.size
    try simp only [World.size_alloc, World.size_setCell, World.size_drew, size_drewN] at hs1
    have hc1_0 : ∀ o, w1.cell? ⟨w.heap.size, o, none⟩ = _ := fun o => hb1.cell (p := ⟨w.heap.size, o, none⟩) (by ((try simp only [World.size_alloc, World.size_setCell, World.size_drew, size_drewN]); omega))
    have hf1_0 : ∀ o, w1.frozen? ⟨w.heap.size, o, none⟩ = _ := fun o => hb1.frozen (p := ⟨w.heap.size, o, none⟩) (by ((try simp only [World.size_alloc, World.size_setCell, World.size_drew, size_drewN]); omega))
    have z1_0 : w.heap.size < w1.heap.size := (by omega)
    have hc1_1 : ∀ o, w1.cell? ⟨w.heap.size + 1, o, none⟩ = _ := fun o => hb1.cell (p := ⟨w.heap.size + 1, o, none⟩) (by ((try simp only [World.size_alloc, World.size_setCell, World.size_drew, size_drewN]); omega))
    have hf1_1 : ∀ o, w1.frozen? ⟨w.heap.size + 1, o, none⟩ = _ := fun o => hb1.frozen (p := ⟨w.heap.size + 1, o, none⟩) (by ((try simp only [World.size_alloc, World.size_setCell, World.size_drew, size_drewN]); omega))
    have z1_1 : w.heap.size + 1 < w1.heap.size := (by omega)
    go_wp2_with fail
    refine (HS.out _).mono ?_
    rintro e w2 ⟨rfl, hb2⟩
    have hs2 := hb2.size
    try simp only [World.size_alloc, World.size_setCell, World.size_drew, size_drewN] at hs2
    have hc2_0 : ∀ o, w2.cell? ⟨w.heap.size, o, none⟩ = _ := fun o => hb2.cell (p := ⟨w.heap.size, o, none⟩) (by ((try simp only [World.size_alloc, World.size_setCell, World.size_drew, size_drewN]); omega))
    have hf2_0 : ∀ o, w2.frozen? ⟨w.heap.size, o, none⟩ = _ := fun o => hb2.frozen (p := ⟨w.heap.size, o, none⟩) (by ((try simp only [World.size_alloc, World.size_setCell, World.size_drew, size_drewN]); omega))
    have z2_0 : w.heap.size < w2.heap.size := (by omega)
    have hc2_1 : ∀ o, w2.cell? ⟨w.heap.size + 1, o, none⟩ = _ := fun o => hb2.cell (p := ⟨w.heap.size + 1, o, none⟩) (by ((try simp only [World.size_alloc, World.size_setCell, World.size_drew, size_drewN]); omega))
    have hf2_1 : ∀ o, w2.frozen? ⟨w.heap.size + 1, o, none⟩ = _ := fun o => hb2.frozen (p := ⟨w.heap.size + 1, o, none⟩) (by ((try simp only [World.size_alloc, World.size_setCell, World.size_drew, size_drewN]); omega))
    have z2_1 : w.heap.size + 1 < w2.heap.size := (by omega)
    go_wp2
    refine cutW (fun W => Box W (w.heap.size + 1) (lim (mdV A (expV x t).toNat 10000) 0) (lim (mdV A (expV x t).toNat 10000) 1) (lim (mdV A (expV x t).toNat 10000) 2) (lim (mdV A (expV x t).toNat 10000) 3) ∧ Below w.heap.size w W) ?_ ?_
    · refine ⟨?_, (by (repeat' (first | (with_reducible exact Below.refl _ _) | (with_reducible assumption) | (with_reducible refine Below.alloc ?_ ?_ _) | (with_reducible refine Below.drew ?_) | (with_reducible refine below_drewN ?_ _) | (with_reducible refine Below.setCell ?_ ?_ _) | (with_reducible refine below_step (by with_reducible assumption) ?_ ?_) | (first | (with_reducible exact Nat.le_refl _) | (with_reducible assumption) | omega | (simp only [World.size_alloc, World.size_setCell, World.size_drew, size_drewN]; omega) | (simp; omega) | (simp; done)))))⟩ <;> (constructor <;> (first | (simp only [World.size_alloc, World.size_setCell, World.size_drew, size_drewN]; omega) | (simp (maxDischargeDepth := 16) [go_sem, *, World.cell?_alloc_some, World.cell?_setCell_far]; done)))
    rintro W ⟨bx0, hbW⟩
    obtain ⟨rc00, rc01, rc02, rc03, rf00, rf01, rf02, rf03, rlt0⟩ := bx0
    refine bodyPost_ret ?_ rfl ⟨rfl, hbW⟩
    simp [results, Try.results13, go_sem, rc00, rc01, rc02, rc03]
  · have he' : expE x t = 2 := by unfold expE at he ⊢; split <;> rename_i hh <;> simp [hh] at he ⊢
    have hv : expV x t = 0 := by
      unfold expE at he
      unfold expV
      split
      · rfl
      · rename_i hh; rw [if_neg hh] at he; exact absurd rfl he
    rw [seV, seE, if_neg he, if_neg he, lim_zero, lim_zero, lim_zero, lim_zero]
    rw [hv, he'] at HE
    rw [he']
    clear b0 b1 hA he he' hv
    go_enter Try.func13, Try.ntmps13
    go_wp2_with fail
    refine (HE.out _).mono ?_
    rintro e w1 ⟨rfl, hb1⟩
    have hs1 := hb1.size
    try simp only [World.size_alloc, World.size_setCell, World.size_drew, size_drewN] at hs1
    have hc1_0 : ∀ o, w1.cell? ⟨w.heap.size, o, none⟩ = _ := fun o => hb1.cell (p := ⟨w.heap.size, o, none⟩) (by ((try simp only [World.size_alloc, World.size_setCell, World.size_drew, size_drewN]); omega))
    have hf1_0 : ∀ o, w1.frozen? ⟨w.heap.size, o, none⟩ = _ := fun o => hb1.frozen (p := ⟨w.heap.size, o, none⟩) (by ((try simp only [World.size_alloc, World.size_setCell, World.size_drew, size_drewN]); omega))
    have z1_0 : w.heap.size < w1.heap.size := (by omega)
    have hc1_1 : ∀ o, w1.cell? ⟨w.heap.size + 1, o, none⟩ = _ := fun o => hb1.cell (p := ⟨w.heap.size + 1, o, none⟩) (by ((try simp only [World.size_alloc, World.size_setCell, World.size_drew, size_drewN]); omega))
    have hf1_1 : ∀ o, w1.frozen? ⟨w.heap.size + 1, o, none⟩ = _ := fun o => hb1.frozen (p := ⟨w.heap.size + 1, o, none⟩) (by ((try simp only [World.size_alloc, World.size_setCell, World.size_drew, size_drewN]); omega))
    have z1_1 : w.heap.size + 1 < w1.heap.size := (by omega)
    go_wp2
    refine cutW (fun W => Box W (w.heap.size + 1) (0) (0) (0) (0) ∧ Below w.heap.size w W) ?_ ?_
    · refine ⟨?_, (by (repeat' (first | (with_reducible exact Below.refl _ _) | (with_reducible assumption) | (with_reducible refine Below.alloc ?_ ?_ _) | (with_reducible refine Below.drew ?_) | (with_reducible refine below_drewN ?_ _) | (with_reducible refine Below.setCell ?_ ?_ _) | (with_reducible refine below_step (by with_reducible assumption) ?_ ?_) | (first | (with_reducible exact Nat.le_refl _) | (with_reducible assumption) | omega | (simp only [World.size_alloc, World.size_setCell, World.size_drew, size_drewN]; omega) | (simp; omega) | (simp; done)))))⟩ <;> (constructor <;> (first | (simp only [World.size_alloc, World.size_setCell, World.size_drew, size_drewN]; omega) | (simp (maxDischargeDepth := 16) [go_sem, *, World.cell?_alloc_some, World.cell?_setCell_far]; done)))
    rintro W ⟨bx0, hbW⟩
    obtain ⟨rc00, rc01, rc02, rc03, rf00, rf01, rf02, rf03, rlt0⟩ := bx0
    refine bodyPost_ret ?_ rfl ⟨rfl, hbW⟩
    simp [results, Try.results13, go_sem, rc00, rc01, rc02, rc03]
set_option maxHeartbeats 8000000 in
theorem BipsScaleExp_walk (a0 a1 a2 a3 few x t : Int) (w0 : (Lit.int .u64 a0).wf = true) (w1 : (Lit.int .u64 a1).wf = true) (w2 : (Lit.int .u64 a2).wf = true) (w3 : (Lit.int .u64 a3).wf = true) (w4 : (Lit.int .u64 few).wf = true) (w5 : (Lit.int .u64 x).wf = true) (w6 : (Lit.int .i64 t).wf = true) (w : World) :
    Calls Try.prog 5 #[.agg #[.int .u64 a0, .int .u64 a1, .int .u64 a2, .int .u64 a3], .int .u64 few, .int .u64 x, .int .i64 t] w fun e w' => e = .returned (.bool true) ∧ Below w.heap.size w w' := by
  obtain ⟨A, hA, rfl, rfl, rfl, rfl⟩ := isU_wf w0 w1 w2 w3
  obtain ⟨p1, q1⟩ := bounds_u64 w4
  obtain ⟨p2, q2⟩ := bounds_u64 w5
  clear w0 w1 w2 w3 w4 w5 w6
  have HX := hide (isU_one p1 (show few < 18446744073709551616 by omega))
  have hxl := HX.out.lt
  have hx4 := HX.out.lims
  have e0 : lim few.toNat 0 = few := hx4.1.symm
  have e1 : lim few.toNat 1 = 0 := hx4.2.1.symm
  have e2 : lim few.toNat 2 = 0 := hx4.2.2.1.symm
  have e3 : lim few.toNat 3 = 0 := hx4.2.2.2.symm
  obtain ⟨X, ex, x0, x1⟩ := tmod_ex (x := x) (K := 200002) p2 (by omega)
  have hm := modV_w (x := t) (n := 20) (by omega)
  obtain ⟨T, eT⟩ : ∃ T, 1 + modV t 20 = T := ⟨_, rfl⟩
  have fT : IntKind.i64.wrap T = T := by rw [IntKind.wrap_i64]; omega
  have HM := hide (fun w => mod_c (x := t) (n := 20) (by omega) (by omega) w)
  obtain ⟨i1, i2⟩ := ix2i t T
  have P0 := hide (fun w => sexp_c (A := A) (x := X) (t := t) hA (by omega) (by omega) w)
  have R0 := hide (fun w => rsexp_c (A := A) (x := X) (t := t) hA (by omega) (by omega) w)
  have S0 := hide (fun w => sexp_c (A := few.toNat) (x := X) (t := t) hxl (by omega) (by omega) w)
  have U0 := hide (fun w => rsexp_c (A := few.toNat) (x := X) (t := t) hxl (by omega) (by omega) w)
  rw [e0, e1, e2, e3] at S0 U0
  have P1 := hide (fun w => sexp_c (A := A) (x := X) (t := T) hA (by omega) (by omega) w)
  have R1 := hide (fun w => rsexp_c (A := A) (x := X) (t := T) hA (by omega) (by omega) w)
  have S1 := hide (fun w => sexp_c (A := few.toNat) (x := X) (t := T) hxl (by omega) (by omega) w)
  have U1 := hide (fun w => rsexp_c (A := few.toNat) (x := X) (t := T) hxl (by omega) (by omega) w)
  rw [e0, e1, e2, e3] at S1 U1
  clear hA hxl hx4 p1 p2 q1 q2 e0 e1 e2 e3 x0 x1 hm
  go_enter Try.func5, Try.ntmps5
  go_wp2_with fail
  refine (HM.out _).mono ?_
  rintro e v ⟨rfl, rfl⟩
  go_wp2
  refine wp_loop_rounds 3 ?_
  rw [rounds_succ]
  go_wp2_with fail
  refine (P0.out _).mono ?_
  rintro e w1 ⟨rfl, hb1⟩
  have hs1 := hb1.size
  try simp only [World.size_alloc, World.size_setCell, World.size_drew, size_drewN] at hs1
  have hc1_0 : ∀ o, w1.cell? ⟨w.heap.size, o, none⟩ = _ := fun o => hb1.cell (p := ⟨w.heap.size, o, none⟩) (by ((try simp only [World.size_alloc, World.size_setCell, World.size_drew, size_drewN]); omega))
  have hf1_0 : ∀ o, w1.frozen? ⟨w.heap.size, o, none⟩ = _ := fun o => hb1.frozen (p := ⟨w.heap.size, o, none⟩) (by ((try simp only [World.size_alloc, World.size_setCell, World.size_drew, size_drewN]); omega))
  have z1_0 : w.heap.size < w1.heap.size := (by omega)
  go_wp2_with fail
  refine (R0.out _).mono ?_
  rintro e w2 ⟨rfl, hb2⟩
  have hs2 := hb2.size
  try simp only [World.size_alloc, World.size_setCell, World.size_drew, size_drewN] at hs2
  have hc2_0 : ∀ o, w2.cell? ⟨w.heap.size, o, none⟩ = _ := fun o => hb2.cell (p := ⟨w.heap.size, o, none⟩) (by ((try simp only [World.size_alloc, World.size_setCell, World.size_drew, size_drewN]); omega))
  have hf2_0 : ∀ o, w2.frozen? ⟨w.heap.size, o, none⟩ = _ := fun o => hb2.frozen (p := ⟨w.heap.size, o, none⟩) (by ((try simp only [World.size_alloc, World.size_setCell, World.size_drew, size_drewN]); omega))
  have z2_0 : w.heap.size < w2.heap.size := (by omega)
  have hc2_1 : ∀ o, w2.cell? ⟨w1.heap.size, o, none⟩ = _ := fun o => hb2.cell (p := ⟨w1.heap.size, o, none⟩) (by ((try simp only [World.size_alloc, World.size_setCell, World.size_drew, size_drewN]); omega))
  have hf2_1 : ∀ o, w2.frozen? ⟨w1.heap.size, o, none⟩ = _ := fun o => hb2.frozen (p := ⟨w1.heap.size, o, none⟩) (by ((try simp only [World.size_alloc, World.size_setCell, World.size_drew, size_drewN]); omega))
  have z2_1 : w1.heap.size < w2.heap.size := (by omega)
  go_wp2_with fail
  refine (S0.out _).mono ?_
  rintro e w3 ⟨rfl, hb3⟩
  have hs3 := hb3.size
  try simp only [World.size_alloc, World.size_setCell, World.size_drew, size_drewN] at hs3
  have hc3_0 : ∀ o, w3.cell? ⟨w.heap.size, o, none⟩ = _ := fun o => hb3.cell (p := ⟨w.heap.size, o, none⟩) (by ((try simp only [World.size_alloc, World.size_setCell, World.size_drew, size_drewN]); omega))
  have hf3_0 : ∀ o, w3.frozen? ⟨w.heap.size, o, none⟩ = _ := fun o => hb3.frozen (p := ⟨w.heap.size, o, none⟩) (by ((try simp only [World.size_alloc, World.size_setCell, World.size_drew, size_drewN]); omega))
  have z3_0 : w.heap.size < w3.heap.size := (by omega)
  have hc3_1 : ∀ o, w3.cell? ⟨w1.heap.size, o, none⟩ = _ := fun o => hb3.cell (p := ⟨w1.heap.size, o, none⟩) (by ((try simp only [World.size_alloc, World.size_setCell, World.size_drew, size_drewN]); omega))
  have hf3_1 : ∀ o, w3.frozen? ⟨w1.heap.size, o, none⟩ = _ := fun o => hb3.frozen (p := ⟨w1.heap.size, o, none⟩) (by ((try simp only [World.size_alloc, World.size_setCell, World.size_drew, size_drewN]); omega))
  have z3_1 : w1.heap.size < w3.heap.size := (by omega)
  have hc3_2 : ∀ o, w3.cell? ⟨w2.heap.size, o, none⟩ = _ := fun o => hb3.cell (p := ⟨w2.heap.size, o, none⟩) (by ((try simp only [World.size_alloc, World.size_setCell, World.size_drew, size_drewN]); omega))
  have hf3_2 : ∀ o, w3.frozen? ⟨w2.heap.size, o, none⟩ = _ := fun o => hb3.frozen (p := ⟨w2.heap.size, o, none⟩) (by ((try simp only [World.size_alloc, World.size_setCell, World.size_drew, size_drewN]); omega))
  have z3_2 : w2.heap.size < w3.heap.size := (by omega)
  go_wp2_with fail
  refine (U0.out _).mono ?_
  rintro e w4 ⟨rfl, hb4⟩
  have hs4 := hb4.size
  try simp only [World.size_alloc, World.size_setCell, World.size_drew, size_drewN] at hs4
  have hc4_0 : ∀ o, w4.cell? ⟨w.heap.size, o, none⟩ = _ := fun o => hb4.cell (p := ⟨w.heap.size, o, none⟩) (by ((try simp only [World.size_alloc, World.size_setCell, World.size_drew, size_drewN]); omega))
  have hf4_0 : ∀ o, w4.frozen? ⟨w.heap.size, o, none⟩ = _ := fun o => hb4.frozen (p := ⟨w.heap.size, o, none⟩) (by ((try simp only [World.size_alloc, World.size_setCell, World.size_drew, size_drewN]); omega))
  have z4_0 : w.heap.size < w4.heap.size := (by omega)
  have hc4_1 : ∀ o, w4.cell? ⟨w1.heap.size, o, none⟩ = _ := fun o => hb4.cell (p := ⟨w1.heap.size, o, none⟩) (by ((try simp only [World.size_alloc, World.size_setCell, World.size_drew, size_drewN]); omega))
  have hf4_1 : ∀ o, w4.frozen? ⟨w1.heap.size, o, none⟩ = _ := fun o => hb4.frozen (p := ⟨w1.heap.size, o, none⟩) (by ((try simp only [World.size_alloc, World.size_setCell, World.size_drew, size_drewN]); omega))
  have z4_1 : w1.heap.size < w4.heap.size := (by omega)
  have hc4_2 : ∀ o, w4.cell? ⟨w2.heap.size, o, none⟩ = _ := fun o => hb4.cell (p := ⟨w2.heap.size, o, none⟩) (by ((try simp only [World.size_alloc, World.size_setCell, World.size_drew, size_drewN]); omega))
  have hf4_2 : ∀ o, w4.frozen? ⟨w2.heap.size, o, none⟩ = _ := fun o => hb4.frozen (p := ⟨w2.heap.size, o, none⟩) (by ((try simp only [World.size_alloc, World.size_setCell, World.size_drew, size_drewN]); omega))
  have z4_2 : w2.heap.size < w4.heap.size := (by omega)
  have hc4_3 : ∀ o, w4.cell? ⟨w3.heap.size, o, none⟩ = _ := fun o => hb4.cell (p := ⟨w3.heap.size, o, none⟩) (by ((try simp only [World.size_alloc, World.size_setCell, World.size_drew, size_drewN]); omega))
  have hf4_3 : ∀ o, w4.frozen? ⟨w3.heap.size, o, none⟩ = _ := fun o => hb4.frozen (p := ⟨w3.heap.size, o, none⟩) (by ((try simp only [World.size_alloc, World.size_setCell, World.size_drew, size_drewN]); omega))
  have z4_3 : w3.heap.size < w4.heap.size := (by omega)
  go_wp2
  rw [rounds_succ]
  go_wp2_with fail
  refine (P1.out _).mono ?_
  rintro e w5 ⟨rfl, hb5⟩
  have hs5 := hb5.size
  try simp only [World.size_alloc, World.size_setCell, World.size_drew, size_drewN] at hs5
  have hc5_0 : ∀ o, w5.cell? ⟨w.heap.size, o, none⟩ = _ := fun o => hb5.cell (p := ⟨w.heap.size, o, none⟩) (by ((try simp only [World.size_alloc, World.size_setCell, World.size_drew, size_drewN]); omega))
  have hf5_0 : ∀ o, w5.frozen? ⟨w.heap.size, o, none⟩ = _ := fun o => hb5.frozen (p := ⟨w.heap.size, o, none⟩) (by ((try simp only [World.size_alloc, World.size_setCell, World.size_drew, size_drewN]); omega))
  have z5_0 : w.heap.size < w5.heap.size := (by omega)
  have hc5_1 : ∀ o, w5.cell? ⟨w1.heap.size, o, none⟩ = _ := fun o => hb5.cell (p := ⟨w1.heap.size, o, none⟩) (by ((try simp only [World.size_alloc, World.size_setCell, World.size_drew, size_drewN]); omega))
  have hf5_1 : ∀ o, w5.frozen? ⟨w1.heap.size, o, none⟩ = _ := fun o => hb5.frozen (p := ⟨w1.heap.size, o, none⟩) (by ((try simp only [World.size_alloc, World.size_setCell, World.size_drew, size_drewN]); omega))
  have z5_1 : w1.heap.size < w5.heap.size := (by omega)
  have hc5_2 : ∀ o, w5.cell? ⟨w2.heap.size, o, none⟩ = _ := fun o => hb5.cell (p := ⟨w2.heap.size, o, none⟩) (by ((try simp only [World.size_alloc, World.size_setCell, World.size_drew, size_drewN]); omega))
  have hf5_2 : ∀ o, w5.frozen? ⟨w2.heap.size, o, none⟩ = _ := fun o => hb5.frozen (p := ⟨w2.heap.size, o, none⟩) (by ((try simp only [World.size_alloc, World.size_setCell, World.size_drew, size_drewN]); omega))
  have z5_2 : w2.heap.size < w5.heap.size := (by omega)
  have hc5_3 : ∀ o, w5.cell? ⟨w3.heap.size, o, none⟩ = _ := fun o => hb5.cell (p := ⟨w3.heap.size, o, none⟩) (by ((try simp only [World.size_alloc, World.size_setCell, World.size_drew, size_drewN]); omega))
  have hf5_3 : ∀ o, w5.frozen? ⟨w3.heap.size, o, none⟩ = _ := fun o => hb5.frozen (p := ⟨w3.heap.size, o, none⟩) (by ((try simp only [World.size_alloc, World.size_setCell, World.size_drew, size_drewN]); omega))
  have z5_3 : w3.heap.size < w5.heap.size := (by omega)
  have hc5_4 : ∀ o, w5.cell? ⟨w4.heap.size, o, none⟩ = _ := fun o => hb5.cell (p := ⟨w4.heap.size, o, none⟩) (by ((try simp only [World.size_alloc, World.size_setCell, World.size_drew, size_drewN]); omega))
  have hf5_4 : ∀ o, w5.frozen? ⟨w4.heap.size, o, none⟩ = _ := fun o => hb5.frozen (p := ⟨w4.heap.size, o, none⟩) (by ((try simp only [World.size_alloc, World.size_setCell, World.size_drew, size_drewN]); omega))
  have z5_4 : w4.heap.size < w5.heap.size := (by omega)
  go_wp2_with fail
  refine (R1.out _).mono ?_
  rintro e w6 ⟨rfl, hb6⟩
  have hs6 := hb6.size
  try simp only [World.size_alloc, World.size_setCell, World.size_drew, size_drewN] at hs6
  have hc6_0 : ∀ o, w6.cell? ⟨w.heap.size, o, none⟩ = _ := fun o => hb6.cell (p := ⟨w.heap.size, o, none⟩) (by ((try simp only [World.size_alloc, World.size_setCell, World.size_drew, size_drewN]); omega))
  have hf6_0 : ∀ o, w6.frozen? ⟨w.heap.size, o, none⟩ = _ := fun o => hb6.frozen (p := ⟨w.heap.size, o, none⟩) (by ((try simp only [World.size_alloc, World.size_setCell, World.size_drew, size_drewN]); omega))
  have z6_0 : w.heap.size < w6.heap.size := (by omega)
  have hc6_1 : ∀ o, w6.cell? ⟨w1.heap.size, o, none⟩ = _ := fun o => hb6.cell (p := ⟨w1.heap.size, o, none⟩) (by ((try simp only [World.size_alloc, World.size_setCell, World.size_drew, size_drewN]); omega))
  have hf6_1 : ∀ o, w6.frozen? ⟨w1.heap.size, o, none⟩ = _ := fun o => hb6.frozen (p := ⟨w1.heap.size, o, none⟩) (by ((try simp only [World.size_alloc, World.size_setCell, World.size_drew, size_drewN]); omega))
  have z6_1 : w1.heap.size < w6.heap.size := (by omega)
  have hc6_2 : ∀ o, w6.cell? ⟨w2.heap.size, o, none⟩ = _ := fun o => hb6.cell (p := ⟨w2.heap.size, o, none⟩) (by ((try simp only [World.size_alloc, World.size_setCell, World.size_drew, size_drewN]); omega))
  have hf6_2 : ∀ o, w6.frozen? ⟨w2.heap.size, o, none⟩ = _ := fun o => hb6.frozen (p := ⟨w2.heap.size, o, none⟩) (by ((try simp only [World.size_alloc, World.size_setCell, World.size_drew, size_drewN]); omega))
  have z6_2 : w2.heap.size < w6.heap.size := (by omega)
  have hc6_3 : ∀ o, w6.cell? ⟨w3.heap.size, o, none⟩ = _ := fun o => hb6.cell (p := ⟨w3.heap.size, o, none⟩) (by ((try simp only [World.size_alloc, World.size_setCell, World.size_drew, size_drewN]); omega))
  have hf6_3 : ∀ o, w6.frozen? ⟨w3.heap.size, o, none⟩ = _ := fun o => hb6.frozen (p := ⟨w3.heap.size, o, none⟩) (by ((try simp only [World.size_alloc, World.size_setCell, World.size_drew, size_drewN]); omega))
  have z6_3 : w3.heap.size < w6.heap.size := (by omega)
  have hc6_4 : ∀ o, w6.cell? ⟨w4.heap.size, o, none⟩ = _ := fun o => hb6.cell (p := ⟨w4.heap.size, o, none⟩) (by ((try simp only [World.size_alloc, World.size_setCell, World.size_drew, size_drewN]); omega))
  have hf6_4 : ∀ o, w6.frozen? ⟨w4.heap.size, o, none⟩ = _ := fun o => hb6.frozen (p := ⟨w4.heap.size, o, none⟩) (by ((try simp only [World.size_alloc, World.size_setCell, World.size_drew, size_drewN]); omega))
  have z6_4 : w4.heap.size < w6.heap.size := (by omega)
  have hc6_5 : ∀ o, w6.cell? ⟨w5.heap.size, o, none⟩ = _ := fun o => hb6.cell (p := ⟨w5.heap.size, o, none⟩) (by ((try simp only [World.size_alloc, World.size_setCell, World.size_drew, size_drewN]); omega))
  have hf6_5 : ∀ o, w6.frozen? ⟨w5.heap.size, o, none⟩ = _ := fun o => hb6.frozen (p := ⟨w5.heap.size, o, none⟩) (by ((try simp only [World.size_alloc, World.size_setCell, World.size_drew, size_drewN]); omega))
  have z6_5 : w5.heap.size < w6.heap.size := (by omega)
  go_wp2_with fail
  refine (S1.out _).mono ?_
  rintro e w7 ⟨rfl, hb7⟩
  have hs7 := hb7.size
  try simp only [World.size_alloc, World.size_setCell, World.size_drew, size_drewN] at hs7
  have hc7_0 : ∀ o, w7.cell? ⟨w.heap.size, o, none⟩ = _ := fun o => hb7.cell (p := ⟨w.heap.size, o, none⟩) (by ((try simp only [World.size_alloc, World.size_setCell, World.size_drew, size_drewN]); omega))
  have hf7_0 : ∀ o, w7.frozen? ⟨w.heap.size, o, none⟩ = _ := fun o => hb7.frozen (p := ⟨w.heap.size, o, none⟩) (by ((try simp only [World.size_alloc, World.size_setCell, World.size_drew, size_drewN]); omega))
  have z7_0 : w.heap.size < w7.heap.size := (by omega)
  have hc7_1 : ∀ o, w7.cell? ⟨w1.heap.size, o, none⟩ = _ := fun o => hb7.cell (p := ⟨w1.heap.size, o, none⟩) (by ((try simp only [World.size_alloc, World.size_setCell, World.size_drew, size_drewN]); omega))
  have hf7_1 : ∀ o, w7.frozen? ⟨w1.heap.size, o, none⟩ = _ := fun o => hb7.frozen (p := ⟨w1.heap.size, o, none⟩) (by ((try simp only [World.size_alloc, World.size_setCell, World.size_drew, size_drewN]); omega))
  have z7_1 : w1.heap.size < w7.heap.size := (by omega)
  have hc7_2 : ∀ o, w7.cell? ⟨w2.heap.size, o, none⟩ = _ := fun o => hb7.cell (p := ⟨w2.heap.size, o, none⟩) (by ((try simp only [World.size_alloc, World.size_setCell, World.size_drew, size_drewN]); omega))
  have hf7_2 : ∀ o, w7.frozen? ⟨w2.heap.size, o, none⟩ = _ := fun o => hb7.frozen (p := ⟨w2.heap.size, o, none⟩) (by ((try simp only [World.size_alloc, World.size_setCell, World.size_drew, size_drewN]); omega))
  have z7_2 : w2.heap.size < w7.heap.size := (by omega)
  have hc7_3 : ∀ o, w7.cell? ⟨w3.heap.size, o, none⟩ = _ := fun o => hb7.cell (p := ⟨w3.heap.size, o, none⟩) (by ((try simp only [World.size_alloc, World.size_setCell, World.size_drew, size_drewN]); omega))
  have hf7_3 : ∀ o, w7.frozen? ⟨w3.heap.size, o, none⟩ = _ := fun o => hb7.frozen (p := ⟨w3.heap.size, o, none⟩) (by ((try simp only [World.size_alloc, World.size_setCell, World.size_drew, size_drewN]); omega))
  have z7_3 : w3.heap.size < w7.heap.size := (by omega)
  have hc7_4 : ∀ o, w7.cell? ⟨w4.heap.size, o, none⟩ = _ := fun o => hb7.cell (p := ⟨w4.heap.size, o, none⟩) (by ((try simp only [World.size_alloc, World.size_setCell, World.size_drew, size_drewN]); omega))
  have hf7_4 : ∀ o, w7.frozen? ⟨w4.heap.size, o, none⟩ = _ := fun o => hb7.frozen (p := ⟨w4.heap.size, o, none⟩) (by ((try simp only [World.size_alloc, World.size_setCell, World.size_drew, size_drewN]); omega))
  have z7_4 : w4.heap.size < w7.heap.size := (by omega)
  have hc7_5 : ∀ o, w7.cell? ⟨w5.heap.size, o, none⟩ = _ := fun o => hb7.cell (p := ⟨w5.heap.size, o, none⟩) (by ((try simp only [World.size_alloc, World.size_setCell, World.size_drew, size_drewN]); omega))
  have hf7_5 : ∀ o, w7.frozen? ⟨w5.heap.size, o, none⟩ = _ := fun o => hb7.frozen (p := ⟨w5.heap.size, o, none⟩) (by ((try simp only [World.size_alloc, World.size_setCell, World.size_drew, size_drewN]); omega))
  have z7_5 : w5.heap.size < w7.heap.size := (by omega)
  have hc7_6 : ∀ o, w7.cell? ⟨w6.heap.size, o, none⟩ = _ := fun o => hb7.cell (p := ⟨w6.heap.size, o, none⟩) (by ((try simp only [World.size_alloc, World.size_setCell, World.size_drew, size_drewN]); omega))
  have hf7_6 : ∀ o, w7.frozen? ⟨w6.heap.size, o, none⟩ = _ := fun o => hb7.frozen (p := ⟨w6.heap.size, o, none⟩) (by ((try simp only [World.size_alloc, World.size_setCell, World.size_drew, size_drewN]); omega))
  have z7_6 : w6.heap.size < w7.heap.size := (by omega)
  go_wp2_with fail
  refine (U1.out _).mono ?_
  rintro e w8 ⟨rfl, hb8⟩
  have hs8 := hb8.size
  try simp only [World.size_alloc, World.size_setCell, World.size_drew, size_drewN] at hs8
  have hc8_0 : ∀ o, w8.cell? ⟨w.heap.size, o, none⟩ = _ := fun o => hb8.cell (p := ⟨w.heap.size, o, none⟩) (by ((try simp only [World.size_alloc, World.size_setCell, World.size_drew, size_drewN]); omega))
  have hf8_0 : ∀ o, w8.frozen? ⟨w.heap.size, o, none⟩ = _ := fun o => hb8.frozen (p := ⟨w.heap.size, o, none⟩) (by ((try simp only [World.size_alloc, World.size_setCell, World.size_drew, size_drewN]); omega))
  have z8_0 : w.heap.size < w8.heap.size := (by omega)
  have hc8_1 : ∀ o, w8.cell? ⟨w1.heap.size, o, none⟩ = _ := fun o => hb8.cell (p := ⟨w1.heap.size, o, none⟩) (by ((try simp only [World.size_alloc, World.size_setCell, World.size_drew, size_drewN]); omega))
  have hf8_1 : ∀ o, w8.frozen? ⟨w1.heap.size, o, none⟩ = _ := fun o => hb8.frozen (p := ⟨w1.heap.size, o, none⟩) (by ((try simp only [World.size_alloc, World.size_setCell, World.size_drew, size_drewN]); omega))
  have z8_1 : w1.heap.size < w8.heap.size := (by omega)
  have hc8_2 : ∀ o, w8.cell? ⟨w2.heap.size, o, none⟩ = _ := fun o => hb8.cell (p := ⟨w2.heap.size, o, none⟩) (by ((try simp only [World.size_alloc, World.size_setCell, World.size_drew, size_drewN]); omega))
  have hf8_2 : ∀ o, w8.frozen? ⟨w2.heap.size, o, none⟩ = _ := fun o => hb8.frozen (p := ⟨w2.heap.size, o, none⟩) (by ((try simp only [World.size_alloc, World.size_setCell, World.size_drew, size_drewN]); omega))
  have z8_2 : w2.heap.size < w8.heap.size := (by omega)
  have hc8_3 : ∀ o, w8.cell? ⟨w3.heap.size, o, none⟩ = _ := fun o => hb8.cell (p := ⟨w3.heap.size, o, none⟩) (by ((try simp only [World.size_alloc, World.size_setCell, World.size_drew, size_drewN]); omega))
  have hf8_3 : ∀ o, w8.frozen? ⟨w3.heap.size, o, none⟩ = _ := fun o => hb8.frozen (p := ⟨w3.heap.size, o, none⟩) (by ((try simp only [World.size_alloc, World.size_setCell, World.size_drew, size_drewN]); omega))
  have z8_3 : w3.heap.size < w8.heap.size := (by omega)
  have hc8_4 : ∀ o, w8.cell? ⟨w4.heap.size, o, none⟩ = _ := fun o => hb8.cell (p := ⟨w4.heap.size, o, none⟩) (by ((try simp only [World.size_alloc, World.size_setCell, World.size_drew, size_drewN]); omega))
  have hf8_4 : ∀ o, w8.frozen? ⟨w4.heap.size, o, none⟩ = _ := fun o => hb8.frozen (p := ⟨w4.heap.size, o, none⟩) (by ((try simp only [World.size_alloc, World.size_setCell, World.size_drew, size_drewN]); omega))
  have z8_4 : w4.heap.size < w8.heap.size := (by omega)
  have hc8_5 : ∀ o, w8.cell? ⟨w5.heap.size, o, none⟩ = _ := fun o => hb8.cell (p := ⟨w5.heap.size, o, none⟩) (by ((try simp only [World.size_alloc, World.size_setCell, World.size_drew, size_drewN]); omega))
  have hf8_5 : ∀ o, w8.frozen? ⟨w5.heap.size, o, none⟩ = _ := fun o => hb8.frozen (p := ⟨w5.heap.size, o, none⟩) (by ((try simp only [World.size_alloc, World.size_setCell, World.size_drew, size_drewN]); omega))
  have z8_5 : w5.heap.size < w8.heap.size := (by omega)
  have hc8_6 : ∀ o, w8.cell? ⟨w6.heap.size, o, none⟩ = _ := fun o => hb8.cell (p := ⟨w6.heap.size, o, none⟩) (by ((try simp only [World.size_alloc, World.size_setCell, World.size_drew, size_drewN]); omega))
  have hf8_6 : ∀ o, w8.frozen? ⟨w6.heap.size, o, none⟩ = _ := fun o => hb8.frozen (p := ⟨w6.heap.size, o, none⟩) (by ((try simp only [World.size_alloc, World.size_setCell, World.size_drew, size_drewN]); omega))
  have z8_6 : w6.heap.size < w8.heap.size := (by omega)
  have hc8_7 : ∀ o, w8.cell? ⟨w7.heap.size, o, none⟩ = _ := fun o => hb8.cell (p := ⟨w7.heap.size, o, none⟩) (by ((try simp only [World.size_alloc, World.size_setCell, World.size_drew, size_drewN]); omega))
  have hf8_7 : ∀ o, w8.frozen? ⟨w7.heap.size, o, none⟩ = _ := fun o => hb8.frozen (p := ⟨w7.heap.size, o, none⟩) (by ((try simp only [World.size_alloc, World.size_setCell, World.size_drew, size_drewN]); omega))
  have z8_7 : w7.heap.size < w8.heap.size := (by omega)
  go_wp2
  rw [rounds_succ]
  go_wp2_with fail
  refine (awake5_c _).mono ?_
  rintro e w9 ⟨rfl, hb9⟩
  have hs9 := hb9.size
  try simp only [World.size_alloc, World.size_setCell, World.size_drew, size_drewN] at hs9
  have hc9_0 : ∀ o, w9.cell? ⟨w.heap.size, o, none⟩ = _ := fun o => hb9.cell (p := ⟨w.heap.size, o, none⟩) (by ((try simp only [World.size_alloc, World.size_setCell, World.size_drew, size_drewN]); omega))
  have hf9_0 : ∀ o, w9.frozen? ⟨w.heap.size, o, none⟩ = _ := fun o => hb9.frozen (p := ⟨w.heap.size, o, none⟩) (by ((try simp only [World.size_alloc, World.size_setCell, World.size_drew, size_drewN]); omega))
  have z9_0 : w.heap.size < w9.heap.size := (by omega)
  have hc9_1 : ∀ o, w9.cell? ⟨w1.heap.size, o, none⟩ = _ := fun o => hb9.cell (p := ⟨w1.heap.size, o, none⟩) (by ((try simp only [World.size_alloc, World.size_setCell, World.size_drew, size_drewN]); omega))
  have hf9_1 : ∀ o, w9.frozen? ⟨w1.heap.size, o, none⟩ = _ := fun o => hb9.frozen (p := ⟨w1.heap.size, o, none⟩) (by ((try simp only [World.size_alloc, World.size_setCell, World.size_drew, size_drewN]); omega))
  have z9_1 : w1.heap.size < w9.heap.size := (by omega)
  have hc9_2 : ∀ o, w9.cell? ⟨w2.heap.size, o, none⟩ = _ := fun o => hb9.cell (p := ⟨w2.heap.size, o, none⟩) (by ((try simp only [World.size_alloc, World.size_setCell, World.size_drew, size_drewN]); omega))
  have hf9_2 : ∀ o, w9.frozen? ⟨w2.heap.size, o, none⟩ = _ := fun o => hb9.frozen (p := ⟨w2.heap.size, o, none⟩) (by ((try simp only [World.size_alloc, World.size_setCell, World.size_drew, size_drewN]); omega))
  have z9_2 : w2.heap.size < w9.heap.size := (by omega)
  have hc9_3 : ∀ o, w9.cell? ⟨w3.heap.size, o, none⟩ = _ := fun o => hb9.cell (p := ⟨w3.heap.size, o, none⟩) (by ((try simp only [World.size_alloc, World.size_setCell, World.size_drew, size_drewN]); omega))
  have hf9_3 : ∀ o, w9.frozen? ⟨w3.heap.size, o, none⟩ = _ := fun o => hb9.frozen (p := ⟨w3.heap.size, o, none⟩) (by ((try simp only [World.size_alloc, World.size_setCell, World.size_drew, size_drewN]); omega))
  have z9_3 : w3.heap.size < w9.heap.size := (by omega)
  have hc9_4 : ∀ o, w9.cell? ⟨w4.heap.size, o, none⟩ = _ := fun o => hb9.cell (p := ⟨w4.heap.size, o, none⟩) (by ((try simp only [World.size_alloc, World.size_setCell, World.size_drew, size_drewN]); omega))
  have hf9_4 : ∀ o, w9.frozen? ⟨w4.heap.size, o, none⟩ = _ := fun o => hb9.frozen (p := ⟨w4.heap.size, o, none⟩) (by ((try simp only [World.size_alloc, World.size_setCell, World.size_drew, size_drewN]); omega))
  have z9_4 : w4.heap.size < w9.heap.size := (by omega)
  have hc9_5 : ∀ o, w9.cell? ⟨w5.heap.size, o, none⟩ = _ := fun o => hb9.cell (p := ⟨w5.heap.size, o, none⟩) (by ((try simp only [World.size_alloc, World.size_setCell, World.size_drew, size_drewN]); omega))
  have hf9_5 : ∀ o, w9.frozen? ⟨w5.heap.size, o, none⟩ = _ := fun o => hb9.frozen (p := ⟨w5.heap.size, o, none⟩) (by ((try simp only [World.size_alloc, World.size_setCell, World.size_drew, size_drewN]); omega))
  have z9_5 : w5.heap.size < w9.heap.size := (by omega)
  have hc9_6 : ∀ o, w9.cell? ⟨w6.heap.size, o, none⟩ = _ := fun o => hb9.cell (p := ⟨w6.heap.size, o, none⟩) (by ((try simp only [World.size_alloc, World.size_setCell, World.size_drew, size_drewN]); omega))
  have hf9_6 : ∀ o, w9.frozen? ⟨w6.heap.size, o, none⟩ = _ := fun o => hb9.frozen (p := ⟨w6.heap.size, o, none⟩) (by ((try simp only [World.size_alloc, World.size_setCell, World.size_drew, size_drewN]); omega))
  have z9_6 : w6.heap.size < w9.heap.size := (by omega)
  have hc9_7 : ∀ o, w9.cell? ⟨w7.heap.size, o, none⟩ = _ := fun o => hb9.cell (p := ⟨w7.heap.size, o, none⟩) (by ((try simp only [World.size_alloc, World.size_setCell, World.size_drew, size_drewN]); omega))
  have hf9_7 : ∀ o, w9.frozen? ⟨w7.heap.size, o, none⟩ = _ := fun o => hb9.frozen (p := ⟨w7.heap.size, o, none⟩) (by ((try simp only [World.size_alloc, World.size_setCell, World.size_drew, size_drewN]); omega))
  have z9_7 : w7.heap.size < w9.heap.size := (by omega)
  have hc9_8 : ∀ o, w9.cell? ⟨w8.heap.size, o, none⟩ = _ := fun o => hb9.cell (p := ⟨w8.heap.size, o, none⟩) (by ((try simp only [World.size_alloc, World.size_setCell, World.size_drew, size_drewN]); omega))
  have hf9_8 : ∀ o, w9.frozen? ⟨w8.heap.size, o, none⟩ = _ := fun o => hb9.frozen (p := ⟨w8.heap.size, o, none⟩) (by ((try simp only [World.size_alloc, World.size_setCell, World.size_drew, size_drewN]); omega))
  have z9_8 : w8.heap.size < w9.heap.size := (by omega)
  go_wp2
  go_ret
  exact ⟨rfl, (by (repeat' (first | (with_reducible exact Below.refl _ _) | (with_reducible assumption) | (with_reducible refine Below.alloc ?_ ?_ _) | (with_reducible refine Below.drew ?_) | (with_reducible refine below_drewN ?_ _) | (with_reducible refine Below.setCell ?_ ?_ _) | (with_reducible refine below_step (by with_reducible assumption) ?_ ?_) | (first | (with_reducible exact Nat.le_refl _) | (with_reducible assumption) | omega | (simp only [World.size_alloc, World.size_setCell, World.size_drew, size_drewN]; omega) | (simp; omega) | (simp; done)))))⟩
end Go.Proofs.Yteehlkdhgjdpaaa
