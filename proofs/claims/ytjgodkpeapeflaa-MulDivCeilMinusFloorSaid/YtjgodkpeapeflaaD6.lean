/- muldiv.DivMod. -/
import Derived.WalkKit
import Derived.KernelRfl
import Derived.RowKit3
import Derived.Deep.LoopGhost
import Derived.Deep.QuietTactic
import Derived.BigQuiet
import Derived.WideLaws
import Derived.Laws.Rows
import Derived.Below
import Derived.Deep.Draws
import Derived.Outline
import Derived.LoopN
import Derived.Handy
import Derived.Laws.Externs
import Derived.Laws.BitsAllLaws
import Derived.Laws.BitsLemmas
import Derived.Deep.DeepCutAuto
import Derived.Deep.CutBlock
import Derived.Deep.RegionHeld3
import Derived.Test.YtjgodkpeapeflaaD3
namespace Go.Proofs.Ytjgodkpeapeflaa
open Go.RowKit
set_option linter.unusedVariables false
set_option linter.unusedSimpArgs false
set_option maxHeartbeats 4000000 in
theorem divmod_c {L C : Nat} {l0 l1 l2 l3 c0 c1 c2 c3 : Int} (uL : isU L l0 l1 l2 l3) (uC : isU C c0 c1 c2 c3) (w : World) :
    Calls Try.prog 15 #[.agg #[.int .u64 l0, .int .u64 l1, .int .u64 l2, .int .u64 l3], .agg #[.int .u64 c0, .int .u64 c1, .int .u64 c2, .int .u64 c3]] w fun e w' => e = .returned (.tuple #[.agg #[.int .u64 (lim (divQ L 0 C) 0), .int .u64 (lim (divQ L 0 C) 1), .int .u64 (lim (divQ L 0 C) 2), .int .u64 (lim (divQ L 0 C) 3)], .agg #[.int .u64 (lim (divR L 0 C) 0), .int .u64 (lim (divR L 0 C) 1), .int .u64 (lim (divR L 0 C) 2), .int .u64 (lim (divR L 0 C) 3)], .int .i64 (divE 0 C)]) ∧ Below w.heap.size w w' := by
  have hz : isU 0 0 0 0 0 := by constructor <;> omega
  have HL := hide uL
  have HC := hide uC
  have HZ := hide hz
  clear uL uC hz
  go_enter Try.func15, Try.ntmps15
  go_wp2_with fail
  refine (div512_c HL.out HZ.out HC.out _).mono ?_
  rintro e w1 ⟨rfl, hb1⟩
  have hs1 := hb1.size
  try simp only [World.size_alloc, World.size_setCell, World.size_drew, size_drewN] at hs1
  have hc1_0 : ∀ o, w1.cell? ⟨w.heap.size, o, none⟩ = _ := fun o => hb1.cell (p := ⟨w.heap.size, o, none⟩) (by ((try simp only [World.size_alloc, World.size_setCell, World.size_drew, size_drewN]); omega))
  have hf1_0 : ∀ o, w1.frozen? ⟨w.heap.size, o, none⟩ = _ := fun o => hb1.frozen (p := ⟨w.heap.size, o, none⟩) (by ((try simp only [World.size_alloc, World.size_setCell, World.size_drew, size_drewN]); omega))
  have z1_0 : w.heap.size < w1.heap.size := (by omega)
  have hc1_1 : ∀ o, w1.cell? ⟨w.heap.size + 1, o, none⟩ = _ := fun o => hb1.cell (p := ⟨w.heap.size + 1, o, none⟩) (by ((try simp only [World.size_alloc, World.size_setCell, World.size_drew, size_drewN]); omega))
  have hf1_1 : ∀ o, w1.frozen? ⟨w.heap.size + 1, o, none⟩ = _ := fun o => hb1.frozen (p := ⟨w.heap.size + 1, o, none⟩) (by ((try simp only [World.size_alloc, World.size_setCell, World.size_drew, size_drewN]); omega))
  have z1_1 : w.heap.size + 1 < w1.heap.size := (by omega)
  have hc1_2 : ∀ o, w1.cell? ⟨w.heap.size + 1 + 1, o, none⟩ = _ := fun o => hb1.cell (p := ⟨w.heap.size + 1 + 1, o, none⟩) (by ((try simp only [World.size_alloc, World.size_setCell, World.size_drew, size_drewN]); omega))
  have hf1_2 : ∀ o, w1.frozen? ⟨w.heap.size + 1 + 1, o, none⟩ = _ := fun o => hb1.frozen (p := ⟨w.heap.size + 1 + 1, o, none⟩) (by ((try simp only [World.size_alloc, World.size_setCell, World.size_drew, size_drewN]); omega))
  have z1_2 : w.heap.size + 1 + 1 < w1.heap.size := (by omega)
  have hc1_3 : ∀ o, w1.cell? ⟨w.heap.size + 1 + 1 + 1, o, none⟩ = _ := fun o => hb1.cell (p := ⟨w.heap.size + 1 + 1 + 1, o, none⟩) (by ((try simp only [World.size_alloc, World.size_setCell, World.size_drew, size_drewN]); omega))
  have hf1_3 : ∀ o, w1.frozen? ⟨w.heap.size + 1 + 1 + 1, o, none⟩ = _ := fun o => hb1.frozen (p := ⟨w.heap.size + 1 + 1 + 1, o, none⟩) (by ((try simp only [World.size_alloc, World.size_setCell, World.size_drew, size_drewN]); omega))
  have z1_3 : w.heap.size + 1 + 1 + 1 < w1.heap.size := (by omega)
  go_wp2
  refine cutW (fun W => Box W (w.heap.size + 1 + 1) (lim (divQ L 0 C) 0) (lim (divQ L 0 C) 1) (lim (divQ L 0 C) 2) (lim (divQ L 0 C) 3) ∧ Box W (w.heap.size + 1 + 1 + 1) (lim (divR L 0 C) 0) (lim (divR L 0 C) 1) (lim (divR L 0 C) 2) (lim (divR L 0 C) 3) ∧ Below w.heap.size w W) ?_ ?_
  · refine ⟨?_, ?_, (by (repeat' (first | (with_reducible exact Below.refl _ _) | (with_reducible assumption) | (with_reducible refine Below.alloc ?_ ?_ _) | (with_reducible refine Below.drew ?_) | (with_reducible refine below_drewN ?_ _) | (with_reducible refine Below.setCell ?_ ?_ _) | (with_reducible refine below_step (by with_reducible assumption) ?_ ?_) | (first | (with_reducible exact Nat.le_refl _) | (with_reducible assumption) | omega | (simp only [World.size_alloc, World.size_setCell, World.size_drew, size_drewN]; omega) | (simp; omega) | (simp; done)))))⟩ <;> (constructor <;> (first | (simp only [World.size_alloc, World.size_setCell, World.size_drew, size_drewN]; omega) | (simp (maxDischargeDepth := 16) [go_sem, *, World.cell?_alloc_some, World.cell?_setCell_far]; done)))
  rintro W ⟨bx0, bx1, hbW⟩
  obtain ⟨rc00, rc01, rc02, rc03, rf00, rf01, rf02, rf03, rlt0⟩ := bx0
  obtain ⟨rc10, rc11, rc12, rc13, rf10, rf11, rf12, rf13, rlt1⟩ := bx1
  refine bodyPost_ret ?_ rfl ⟨rfl, hbW⟩
  simp [results, Try.results15, go_sem, rc00, rc01, rc02, rc03, rc10, rc11, rc12, rc13]
end Go.Proofs.Ytjgodkpeapeflaa
