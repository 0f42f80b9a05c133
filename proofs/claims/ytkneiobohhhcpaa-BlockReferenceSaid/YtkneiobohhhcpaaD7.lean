/- muldiv.MulDivFloor. -/
import Derived.WalkKit
import Derived.KernelRfl
import Derived.RowKit3
import Derived.Deep.LoopGhost
import Derived.Deep.QuietTactic
import Derived.BigQuiet
import Derived.WideLaws
import Derived.Laws.Rows
import Derived.Below
import Derived.Deep.Draws
import Derived.Outline
import Derived.LoopN
import Derived.Handy
import Derived.Laws.Externs
import Derived.Laws.BitsAllLaws
import Derived.Laws.BitsLemmas
import Derived.Deep.DeepCutAuto
import Derived.Deep.CutBlock
import Derived.Deep.RegionHeld3
import Derived.Test.YtkneiobohhhcpaaD3
namespace Go.Proofs.Ytkneiobohhhcpaa
open Go.RowKit
set_option linter.unusedVariables false
set_option linter.unusedSimpArgs false
/-- a * b / c rounded down; the error. -/
def mdV (A B C : Nat) : Nat := divQ (loV A B) (hiV A B) C
def mdR (A B C : Nat) : Nat := divR (loV A B) (hiV A B) C
def mdE (A B C : Nat) : Int := divE (hiV A B) C
theorem mdV_lt (A B C : Nat) : mdV A B C < M256 := divQ_lt (loV_lt A B)
set_option maxHeartbeats 4000000 in
theorem floor_c {A B C : Nat} {a0 a1 a2 a3 b0 b1 b2 b3 c0 c1 c2 c3 : Int} (uA : isU A a0 a1 a2 a3) (uB : isU B b0 b1 b2 b3) (uC : isU C c0 c1 c2 c3) (w : World) :
    Calls Try.prog 47 #[.agg #[.int .u64 a0, .int .u64 a1, .int .u64 a2, .int .u64 a3], .agg #[.int .u64 b0, .int .u64 b1, .int .u64 b2, .int .u64 b3], .agg #[.int .u64 c0, .int .u64 c1, .int .u64 c2, .int .u64 c3]] w fun e w' => e = .returned (.tuple #[.agg #[.int .u64 (lim (mdV A B C) 0), .int .u64 (lim (mdV A B C) 1), .int .u64 (lim (mdV A B C) 2), .int .u64 (lim (mdV A B C) 3)], .int .i64 (mdE A B C)]) ∧ Below w.heap.size w w' := by
  have HA := hide uA
  have HB := hide uB
  have HC := hide uC
  have HLo := hide (isU_lim (loV_lt A B))
  have HHi := hide (isU_lim (hiV_lt uA.lt uB.lt))
  clear uA uB uC
  rw [mdV, mdE]
  go_enter Try.func47, Try.ntmps47
  go_wp2_with fail
  refine (mdmul_c HA.out HB.out _).mono ?_
  rintro e w1 ⟨rfl, hb1⟩
  have hs1 := hb1.size
  try simp only [World.size_alloc, World.size_setCell, World.size_drew, size_drewN] at hs1
  have hc1_0 : ∀ o, w1.cell? ⟨w.heap.size, o, none⟩ = _ := fun o => hb1.cell (p := ⟨w.heap.size, o, none⟩) (by ((try simp only [World.size_alloc, World.size_setCell, World.size_drew, size_drewN]); omega))
  have hf1_0 : ∀ o, w1.frozen? ⟨w.heap.size, o, none⟩ = _ := fun o => hb1.frozen (p := ⟨w.heap.size, o, none⟩) (by ((try simp only [World.size_alloc, World.size_setCell, World.size_drew, size_drewN]); omega))
  have z1_0 : w.heap.size < w1.heap.size := (by omega)
  have hc1_1 : ∀ o, w1.cell? ⟨w.heap.size + 1, o, none⟩ = _ := fun o => hb1.cell (p := ⟨w.heap.size + 1, o, none⟩) (by ((try simp only [World.size_alloc, World.size_setCell, World.size_drew, size_drewN]); omega))
  have hf1_1 : ∀ o, w1.frozen? ⟨w.heap.size + 1, o, none⟩ = _ := fun o => hb1.frozen (p := ⟨w.heap.size + 1, o, none⟩) (by ((try simp only [World.size_alloc, World.size_setCell, World.size_drew, size_drewN]); omega))
  have z1_1 : w.heap.size + 1 < w1.heap.size := (by omega)
  have hc1_2 : ∀ o, w1.cell? ⟨w.heap.size + 1 + 1, o, none⟩ = _ := fun o => hb1.cell (p := ⟨w.heap.size + 1 + 1, o, none⟩) (by ((try simp only [World.size_alloc, World.size_setCell, World.size_drew, size_drewN]); omega))
  have hf1_2 : ∀ o, w1.frozen? ⟨w.heap.size + 1 + 1, o, none⟩ = _ := fun o => hb1.frozen (p := ⟨w.heap.size + 1 + 1, o, none⟩) (by ((try simp only [World.size_alloc, World.size_setCell, World.size_drew, size_drewN]); omega))
  have z1_2 : w.heap.size + 1 + 1 < w1.heap.size := (by omega)
  have hc1_3 : ∀ o, w1.cell? ⟨w.heap.size + 1 + 1 + 1, o, none⟩ = _ := fun o => hb1.cell (p := ⟨w.heap.size + 1 + 1 + 1, o, none⟩) (by ((try simp only [World.size_alloc, World.size_setCell, World.size_drew, size_drewN]); omega))
  have hf1_3 : ∀ o, w1.frozen? ⟨w.heap.size + 1 + 1 + 1, o, none⟩ = _ := fun o => hb1.frozen (p := ⟨w.heap.size + 1 + 1 + 1, o, none⟩) (by ((try simp only [World.size_alloc, World.size_setCell, World.size_drew, size_drewN]); omega))
  have z1_3 : w.heap.size + 1 + 1 + 1 < w1.heap.size := (by omega)
  go_wp2_with fail
  refine (div512_c HLo.out HHi.out HC.out _).mono ?_
  rintro e w2 ⟨rfl, hb2⟩
  have hs2 := hb2.size
  try simp only [World.size_alloc, World.size_setCell, World.size_drew, size_drewN] at hs2
  have hc2_0 : ∀ o, w2.cell? ⟨w.heap.size, o, none⟩ = _ := fun o => hb2.cell (p := ⟨w.heap.size, o, none⟩) (by ((try simp only [World.size_alloc, World.size_setCell, World.size_drew, size_drewN]); omega))
  have hf2_0 : ∀ o, w2.frozen? ⟨w.heap.size, o, none⟩ = _ := fun o => hb2.frozen (p := ⟨w.heap.size, o, none⟩) (by ((try simp only [World.size_alloc, World.size_setCell, World.size_drew, size_drewN]); omega))
  have z2_0 : w.heap.size < w2.heap.size := (by omega)
  have hc2_1 : ∀ o, w2.cell? ⟨w.heap.size + 1, o, none⟩ = _ := fun o => hb2.cell (p := ⟨w.heap.size + 1, o, none⟩) (by ((try simp only [World.size_alloc, World.size_setCell, World.size_drew, size_drewN]); omega))
  have hf2_1 : ∀ o, w2.frozen? ⟨w.heap.size + 1, o, none⟩ = _ := fun o => hb2.frozen (p := ⟨w.heap.size + 1, o, none⟩) (by ((try simp only [World.size_alloc, World.size_setCell, World.size_drew, size_drewN]); omega))
  have z2_1 : w.heap.size + 1 < w2.heap.size := (by omega)
  have hc2_2 : ∀ o, w2.cell? ⟨w.heap.size + 1 + 1, o, none⟩ = _ := fun o => hb2.cell (p := ⟨w.heap.size + 1 + 1, o, none⟩) (by ((try simp only [World.size_alloc, World.size_setCell, World.size_drew, size_drewN]); omega))
  have hf2_2 : ∀ o, w2.frozen? ⟨w.heap.size + 1 + 1, o, none⟩ = _ := fun o => hb2.frozen (p := ⟨w.heap.size + 1 + 1, o, none⟩) (by ((try simp only [World.size_alloc, World.size_setCell, World.size_drew, size_drewN]); omega))
  have z2_2 : w.heap.size + 1 + 1 < w2.heap.size := (by omega)
  have hc2_3 : ∀ o, w2.cell? ⟨w.heap.size + 1 + 1 + 1, o, none⟩ = _ := fun o => hb2.cell (p := ⟨w.heap.size + 1 + 1 + 1, o, none⟩) (by ((try simp only [World.size_alloc, World.size_setCell, World.size_drew, size_drewN]); omega))
  have hf2_3 : ∀ o, w2.frozen? ⟨w.heap.size + 1 + 1 + 1, o, none⟩ = _ := fun o => hb2.frozen (p := ⟨w.heap.size + 1 + 1 + 1, o, none⟩) (by ((try simp only [World.size_alloc, World.size_setCell, World.size_drew, size_drewN]); omega))
  have z2_3 : w.heap.size + 1 + 1 + 1 < w2.heap.size := (by omega)
  have hc2_4 : ∀ o, w2.cell? ⟨w1.heap.size, o, none⟩ = _ := fun o => hb2.cell (p := ⟨w1.heap.size, o, none⟩) (by ((try simp only [World.size_alloc, World.size_setCell, World.size_drew, size_drewN]); omega))
  have hf2_4 : ∀ o, w2.frozen? ⟨w1.heap.size, o, none⟩ = _ := fun o => hb2.frozen (p := ⟨w1.heap.size, o, none⟩) (by ((try simp only [World.size_alloc, World.size_setCell, World.size_drew, size_drewN]); omega))
  have z2_4 : w1.heap.size < w2.heap.size := (by omega)
  have hc2_5 : ∀ o, w2.cell? ⟨w1.heap.size + 1, o, none⟩ = _ := fun o => hb2.cell (p := ⟨w1.heap.size + 1, o, none⟩) (by ((try simp only [World.size_alloc, World.size_setCell, World.size_drew, size_drewN]); omega))
  have hf2_5 : ∀ o, w2.frozen? ⟨w1.heap.size + 1, o, none⟩ = _ := fun o => hb2.frozen (p := ⟨w1.heap.size + 1, o, none⟩) (by ((try simp only [World.size_alloc, World.size_setCell, World.size_drew, size_drewN]); omega))
  have z2_5 : w1.heap.size + 1 < w2.heap.size := (by omega)
  go_wp2
  refine cutW (fun W => Box W (w.heap.size + 1 + 1 + 1) (lim (divQ (loV A B) (hiV A B) C) 0) (lim (divQ (loV A B) (hiV A B) C) 1) (lim (divQ (loV A B) (hiV A B) C) 2) (lim (divQ (loV A B) (hiV A B) C) 3) ∧ Below w.heap.size w W) ?_ ?_
  · refine ⟨?_, (by (repeat' (first | (with_reducible exact Below.refl _ _) | (with_reducible assumption) | (with_reducible refine Below.alloc ?_ ?_ _) | (with_reducible refine Below.drew ?_) | (with_reducible refine below_drewN ?_ _) | (with_reducible refine Below.setCell ?_ ?_ _) | (with_reducible refine below_step (by with_reducible assumption) ?_ ?_) | (first | (with_reducible exact Nat.le_refl _) | (with_reducible assumption) | omega | (simp only [World.size_alloc, World.size_setCell, World.size_drew, size_drewN]; omega) | (simp; omega) | (simp; done)))))⟩ <;> (constructor <;> (first | (simp only [World.size_alloc, World.size_setCell, World.size_drew, size_drewN]; omega) | (simp (maxDischargeDepth := 16) [go_sem, *, World.cell?_alloc_some, World.cell?_setCell_far]; done)))
  rintro W ⟨bx0, hbW⟩
  obtain ⟨rc00, rc01, rc02, rc03, rf00, rf01, rf02, rf03, rlt0⟩ := bx0
  refine bodyPost_ret ?_ rfl ⟨rfl, hbW⟩
  simp [results, Try.results47, go_sem, rc00, rc01, rc02, rc03]
end Go.Proofs.Ytkneiobohhhcpaa
