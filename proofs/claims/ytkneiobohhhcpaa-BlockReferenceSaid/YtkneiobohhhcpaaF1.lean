/- basefee: Fee. -/
import Derived.WalkKit
import Derived.KernelRfl
import Derived.RowKit3
import Derived.Deep.LoopGhost
import Derived.Deep.QuietTactic
import Derived.BigQuiet
import Derived.WideLaws
import Derived.Laws.Rows
import Derived.Below
import Derived.Deep.Draws
import Derived.Outline
import Derived.LoopN
import Derived.Handy
import Derived.Laws.Externs
import Derived.Laws.BitsAllLaws
import Derived.Laws.BitsLemmas
import Derived.Deep.DeepCutAuto
import Derived.Deep.CutBlock
import Derived.Deep.RegionHeld3
import Derived.Test.YtkneiobohhhcpaaF0
namespace Go.Proofs.Ytkneiobohhhcpaa
open Go.RowKit
set_option linter.unusedVariables false
set_option linter.unusedSimpArgs false
theorem xqV_rg {P : Nat → Int} (hP : PW P) (h : fiV P = 0) {b : Int} (b0 : 0 ≤ b) (b1 : b < 18446744073709551616) : 0 ≤ xqV b P ∧ xqV b P ≤ 200000 := by
  obtain ⟨D, by', hi, lo, q, eD, D0, D1, ey, ewy, y0, y1, ehi, elo, hi0, lo0, lo1, eq, q0, exq, f1, f2⟩ := xq_facts hP h b0 b1
  omega
/-- The field of the least base fee. -/
theorem PBlk.fee {w : World} {g : Nat} {P : Nat → Int} (h : PBlk w g P) : w.cell? ⟨g, 3, none⟩ = some (.int .u64 (P 3)) ∧ w.cell? ⟨g, 4, none⟩ = some (.int .u64 (P 4)) ∧ w.cell? ⟨g, 5, none⟩ = some (.int .u64 (P 5)) ∧ w.cell? ⟨g, 6, none⟩ = some (.int .u64 (P 6)) :=
  ⟨h.cell (by omega), h.cell (by omega), h.cell (by omega), h.cell (by omega)⟩
theorem feeU {P : Nat → Int} (hP : PW P) : isU (getN P 4) (P 3) (P 4) (P 5) (P 6) := getU hP 4
set_option maxRecDepth 20000 in
set_option maxHeartbeats 8000000 in
theorem fee_c (P : Nat → Int) (hP : PW P) {b : Int} (b0 : 0 ≤ b) (b1 : b < 18446744073709551616) (w : World) :
    Calls Try.prog 16 #[.int .u64 b, .agg (pC P)] w fun e w' => e = .returned (.tuple #[.agg #[.int .u64 (lim (feV b P) 0), .int .u64 (lim (feV b P) 1), .int .u64 (lim (feV b P) 2), .int .u64 (lim (feV b P) 3)], .int .i64 (feE b P)]) ∧ Below w.heap.size w w' := by
  have HX := hide (fun w => exponent_c P hP b0 b1 w)
  have HP0 := hide ((PBlk.new w P).alloc (.cells #[.int .u64 0, .int .u64 0, .int .u64 0, .int .u64 0] 25))
  by_cases hv : fiV P = 0
  · have hx := xqV_rg hP hv b0 b1
    have HS := hide (fun w => sexpU_c (feeU hP) (x := xqV b P) (t := 10) hx.1 (by omega) w)
    rw [feV, feE, if_pos hv, if_pos hv]
    rw [xV, xE, if_pos hv, if_pos hv] at HX
    obtain ⟨X, eX⟩ : ∃ X, xqV b P = X := ⟨_, rfl⟩
    rw [eX] at HS HX ⊢
    clear eX hx hv
    go_enter Try.func16, Try.ntmps16
    go_wp2_with (refine wpList_load_row26 rfl (.tmp 3) rfl (g := w.heap.size) rfl HP0.out ?_)
    refine (HX.out _).mono ?_
    rintro e w1 ⟨rfl, hb1⟩
    have hs1 := hb1.size
    try simp only [World.size_alloc, World.size_setCell, World.size_drew, size_drewN] at hs1
    have hc1_0 : ∀ o, w1.cell? ⟨w.heap.size + 1, o, none⟩ = _ := fun o => hb1.cell (p := ⟨w.heap.size + 1, o, none⟩) (by ((try simp only [World.size_alloc, World.size_setCell, World.size_drew, size_drewN]); omega))
    have hf1_0 : ∀ o, w1.frozen? ⟨w.heap.size + 1, o, none⟩ = _ := fun o => hb1.frozen (p := ⟨w.heap.size + 1, o, none⟩) (by ((try simp only [World.size_alloc, World.size_setCell, World.size_drew, size_drewN]); omega))
    have z1_0 : w.heap.size + 1 < w1.heap.size := (by omega)
    have HP1 := hide (HP0.out.below hb1 HP0.out.lt)
    obtain ⟨c3, c4, c5, c6⟩ := HP1.out.fee
    clear HX
    go_wp2_with fail
    refine (HS.out _).mono ?_
    rintro e w2 ⟨rfl, hb2⟩
    have hs2 := hb2.size
    try simp only [World.size_alloc, World.size_setCell, World.size_drew, size_drewN] at hs2
    have hc2_0 : ∀ o, w2.cell? ⟨w.heap.size + 1, o, none⟩ = _ := fun o => hb2.cell (p := ⟨w.heap.size + 1, o, none⟩) (by ((try simp only [World.size_alloc, World.size_setCell, World.size_drew, size_drewN]); omega))
    have hf2_0 : ∀ o, w2.frozen? ⟨w.heap.size + 1, o, none⟩ = _ := fun o => hb2.frozen (p := ⟨w.heap.size + 1, o, none⟩) (by ((try simp only [World.size_alloc, World.size_setCell, World.size_drew, size_drewN]); omega))
    have z2_0 : w.heap.size + 1 < w2.heap.size := (by omega)
    go_wp2
    refine cutW (fun W => Box W (w.heap.size + 1) (lim (seV (getN P 4) X 10) 0) (lim (seV (getN P 4) X 10) 1) (lim (seV (getN P 4) X 10) 2) (lim (seV (getN P 4) X 10) 3) ∧ Below w.heap.size w W) ?_ ?_
    · refine ⟨?_, (by (repeat' (first | (with_reducible exact Below.refl _ _) | (with_reducible assumption) | (with_reducible refine Below.alloc ?_ ?_ _) | (with_reducible refine Below.drew ?_) | (with_reducible refine below_drewN ?_ _) | (with_reducible refine Below.setCell ?_ ?_ _) | (with_reducible refine below_step (by with_reducible assumption) ?_ ?_) | (first | (with_reducible exact Nat.le_refl _) | (with_reducible assumption) | omega | (simp only [World.size_alloc, World.size_setCell, World.size_drew, size_drewN]; omega) | (simp; omega) | (simp; done)))))⟩ <;> (constructor <;> (first | (simp only [World.size_alloc, World.size_setCell, World.size_drew, size_drewN]; omega) | (simp (maxDischargeDepth := 16) [go_sem, *, World.cell?_alloc_some, World.cell?_setCell_far]; done)))
    rintro W ⟨bx0, hbW⟩
    obtain ⟨rc00, rc01, rc02, rc03, rf00, rf01, rf02, rf03, rlt0⟩ := bx0
    refine bodyPost_ret ?_ rfl ⟨rfl, hbW⟩
    simp [results, Try.results16, go_sem, rc00, rc01, rc02, rc03]
  · rw [feV, feE, if_neg hv, if_neg hv, lim_zero, lim_zero, lim_zero, lim_zero]
    rw [xV, xE, if_neg hv, if_neg hv] at HX
    clear hv
    go_enter Try.func16, Try.ntmps16
    go_wp2_with (refine wpList_load_row26 rfl (.tmp 3) rfl (g := w.heap.size) rfl HP0.out ?_)
    refine (HX.out _).mono ?_
    rintro e w1 ⟨rfl, hb1⟩
    have hs1 := hb1.size
    try simp only [World.size_alloc, World.size_setCell, World.size_drew, size_drewN] at hs1
    have hc1_0 : ∀ o, w1.cell? ⟨w.heap.size + 1, o, none⟩ = _ := fun o => hb1.cell (p := ⟨w.heap.size + 1, o, none⟩) (by ((try simp only [World.size_alloc, World.size_setCell, World.size_drew, size_drewN]); omega))
    have hf1_0 : ∀ o, w1.frozen? ⟨w.heap.size + 1, o, none⟩ = _ := fun o => hb1.frozen (p := ⟨w.heap.size + 1, o, none⟩) (by ((try simp only [World.size_alloc, World.size_setCell, World.size_drew, size_drewN]); omega))
    have z1_0 : w.heap.size + 1 < w1.heap.size := (by omega)
    go_wp2
    refine cutW (fun W => Box W (w.heap.size + 1) (0) (0) (0) (0) ∧ Below w.heap.size w W) ?_ ?_
    · refine ⟨?_, (by (repeat' (first | (with_reducible exact Below.refl _ _) | (with_reducible assumption) | (with_reducible refine Below.alloc ?_ ?_ _) | (with_reducible refine Below.drew ?_) | (with_reducible refine below_drewN ?_ _) | (with_reducible refine Below.setCell ?_ ?_ _) | (with_reducible refine below_step (by with_reducible assumption) ?_ ?_) | (first | (with_reducible exact Nat.le_refl _) | (with_reducible assumption) | omega | (simp only [World.size_alloc, World.size_setCell, World.size_drew, size_drewN]; omega) | (simp; omega) | (simp; done)))))⟩ <;> (constructor <;> (first | (simp only [World.size_alloc, World.size_setCell, World.size_drew, size_drewN]; omega) | (simp (maxDischargeDepth := 16) [go_sem, *, World.cell?_alloc_some, World.cell?_setCell_far]; done)))
    rintro W ⟨bx0, hbW⟩
    obtain ⟨rc00, rc01, rc02, rc03, rf00, rf01, rf02, rf03, rlt0⟩ := bx0
    refine bodyPost_ret ?_ rfl ⟨rfl, hbW⟩
    simp [results, Try.results16, go_sem, rc00, rc01, rc02, rc03]
end Go.Proofs.Ytkneiobohhhcpaa
