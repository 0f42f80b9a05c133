/- Chapter 2: the product against the reference, walked. -/
import Derived.WalkKit
import Derived.KernelRfl
import Derived.RowKit3
import Derived.Deep.LoopGhost
import Derived.Deep.QuietTactic
import Derived.BigQuiet
import Derived.WideLaws
import Derived.Laws.Rows
import Derived.Below
import Derived.Deep.Draws
import Derived.Outline
import Derived.LoopN
import Derived.Handy
import Derived.Laws.Externs
import Derived.Laws.BitsAllLaws
import Derived.Laws.BitsLemmas
import Derived.Deep.DeepCutAuto
import Derived.Deep.CutBlock
import Derived.Deep.RegionHeld3
import Derived.Test.YtjgodkpeapeflaaR19
namespace Go.Proofs.Ytjgodkpeapeflaa
open Go.RowKit
set_option linter.unusedVariables false
set_option linter.unusedSimpArgs false
set_option maxHeartbeats 8000000 in
theorem MulDivProduct_walk (a0 a1 a2 a3 b0 b1 b2 b3 : Int) (wa0 : (Lit.int .u64 a0).wf = true) (wa1 : (Lit.int .u64 a1).wf = true) (wa2 : (Lit.int .u64 a2).wf = true) (wa3 : (Lit.int .u64 a3).wf = true) (wb0 : (Lit.int .u64 b0).wf = true) (wb1 : (Lit.int .u64 b1).wf = true) (wb2 : (Lit.int .u64 b2).wf = true) (wb3 : (Lit.int .u64 b3).wf = true) (w : World) :
    Calls Try.prog 3 #[.agg #[.int .u64 a0, .int .u64 a1, .int .u64 a2, .int .u64 a3], .agg #[.int .u64 b0, .int .u64 b1, .int .u64 b2, .int .u64 b3]] w fun e w' => e = .returned (.bool true) ∧ Below w.heap.size w w' := by
  obtain ⟨A, hA, rfl, rfl, rfl, rfl⟩ := isU_wf wa0 wa1 wa2 wa3
  obtain ⟨B, hB, rfl, rfl, rfl, rfl⟩ := isU_wf wb0 wb1 wb2 wb3
  clear wa0 wa1 wa2 wa3 wb0 wb1 wb2 wb3
  have HM := hide (fun w => mdmul_c (isU_lim hA) (isU_lim hB) w)
  have HR := hide (fun w => rmul2_c hA hB w)
  clear hA hB
  go_enter Try.func3, Try.ntmps3
  go_wp2_with fail
  refine (HM.out _).mono ?_
  rintro e w1 ⟨rfl, hb1⟩
  have hs1 := hb1.size
  try simp only [World.size_alloc, World.size_setCell, World.size_drew, size_drewN] at hs1
  have hc1_0 : ∀ o, w1.cell? ⟨w.heap.size, o, none⟩ = _ := fun o => hb1.cell (p := ⟨w.heap.size, o, none⟩) (by ((try simp only [World.size_alloc, World.size_setCell, World.size_drew, size_drewN]); omega))
  have hf1_0 : ∀ o, w1.frozen? ⟨w.heap.size, o, none⟩ = _ := fun o => hb1.frozen (p := ⟨w.heap.size, o, none⟩) (by ((try simp only [World.size_alloc, World.size_setCell, World.size_drew, size_drewN]); omega))
  have z1_0 : w.heap.size < w1.heap.size := (by omega)
  have hc1_1 : ∀ o, w1.cell? ⟨w.heap.size + 1, o, none⟩ = _ := fun o => hb1.cell (p := ⟨w.heap.size + 1, o, none⟩) (by ((try simp only [World.size_alloc, World.size_setCell, World.size_drew, size_drewN]); omega))
  have hf1_1 : ∀ o, w1.frozen? ⟨w.heap.size + 1, o, none⟩ = _ := fun o => hb1.frozen (p := ⟨w.heap.size + 1, o, none⟩) (by ((try simp only [World.size_alloc, World.size_setCell, World.size_drew, size_drewN]); omega))
  have z1_1 : w.heap.size + 1 < w1.heap.size := (by omega)
  go_wp2_with fail
  refine (HR.out _).mono ?_
  rintro e w2 ⟨rfl, hb2⟩
  have hs2 := hb2.size
  try simp only [World.size_alloc, World.size_setCell, World.size_drew, size_drewN] at hs2
  have hc2_0 : ∀ o, w2.cell? ⟨w.heap.size, o, none⟩ = _ := fun o => hb2.cell (p := ⟨w.heap.size, o, none⟩) (by ((try simp only [World.size_alloc, World.size_setCell, World.size_drew, size_drewN]); omega))
  have hf2_0 : ∀ o, w2.frozen? ⟨w.heap.size, o, none⟩ = _ := fun o => hb2.frozen (p := ⟨w.heap.size, o, none⟩) (by ((try simp only [World.size_alloc, World.size_setCell, World.size_drew, size_drewN]); omega))
  have z2_0 : w.heap.size < w2.heap.size := (by omega)
  have hc2_1 : ∀ o, w2.cell? ⟨w.heap.size + 1, o, none⟩ = _ := fun o => hb2.cell (p := ⟨w.heap.size + 1, o, none⟩) (by ((try simp only [World.size_alloc, World.size_setCell, World.size_drew, size_drewN]); omega))
  have hf2_1 : ∀ o, w2.frozen? ⟨w.heap.size + 1, o, none⟩ = _ := fun o => hb2.frozen (p := ⟨w.heap.size + 1, o, none⟩) (by ((try simp only [World.size_alloc, World.size_setCell, World.size_drew, size_drewN]); omega))
  have z2_1 : w.heap.size + 1 < w2.heap.size := (by omega)
  have hc2_2 : ∀ o, w2.cell? ⟨w1.heap.size, o, none⟩ = _ := fun o => hb2.cell (p := ⟨w1.heap.size, o, none⟩) (by ((try simp only [World.size_alloc, World.size_setCell, World.size_drew, size_drewN]); omega))
  have hf2_2 : ∀ o, w2.frozen? ⟨w1.heap.size, o, none⟩ = _ := fun o => hb2.frozen (p := ⟨w1.heap.size, o, none⟩) (by ((try simp only [World.size_alloc, World.size_setCell, World.size_drew, size_drewN]); omega))
  have z2_2 : w1.heap.size < w2.heap.size := (by omega)
  have hc2_3 : ∀ o, w2.cell? ⟨w1.heap.size + 1, o, none⟩ = _ := fun o => hb2.cell (p := ⟨w1.heap.size + 1, o, none⟩) (by ((try simp only [World.size_alloc, World.size_setCell, World.size_drew, size_drewN]); omega))
  have hf2_3 : ∀ o, w2.frozen? ⟨w1.heap.size + 1, o, none⟩ = _ := fun o => hb2.frozen (p := ⟨w1.heap.size + 1, o, none⟩) (by ((try simp only [World.size_alloc, World.size_setCell, World.size_drew, size_drewN]); omega))
  have z2_3 : w1.heap.size + 1 < w2.heap.size := (by omega)
  go_wp2_with fail
  refine (awake2_c _).mono ?_
  rintro e w3 ⟨rfl, hb3⟩
  have hs3 := hb3.size
  try simp only [World.size_alloc, World.size_setCell, World.size_drew, size_drewN] at hs3
  have hc3_0 : ∀ o, w3.cell? ⟨w.heap.size, o, none⟩ = _ := fun o => hb3.cell (p := ⟨w.heap.size, o, none⟩) (by ((try simp only [World.size_alloc, World.size_setCell, World.size_drew, size_drewN]); omega))
  have hf3_0 : ∀ o, w3.frozen? ⟨w.heap.size, o, none⟩ = _ := fun o => hb3.frozen (p := ⟨w.heap.size, o, none⟩) (by ((try simp only [World.size_alloc, World.size_setCell, World.size_drew, size_drewN]); omega))
  have z3_0 : w.heap.size < w3.heap.size := (by omega)
  have hc3_1 : ∀ o, w3.cell? ⟨w.heap.size + 1, o, none⟩ = _ := fun o => hb3.cell (p := ⟨w.heap.size + 1, o, none⟩) (by ((try simp only [World.size_alloc, World.size_setCell, World.size_drew, size_drewN]); omega))
  have hf3_1 : ∀ o, w3.frozen? ⟨w.heap.size + 1, o, none⟩ = _ := fun o => hb3.frozen (p := ⟨w.heap.size + 1, o, none⟩) (by ((try simp only [World.size_alloc, World.size_setCell, World.size_drew, size_drewN]); omega))
  have z3_1 : w.heap.size + 1 < w3.heap.size := (by omega)
  have hc3_2 : ∀ o, w3.cell? ⟨w1.heap.size, o, none⟩ = _ := fun o => hb3.cell (p := ⟨w1.heap.size, o, none⟩) (by ((try simp only [World.size_alloc, World.size_setCell, World.size_drew, size_drewN]); omega))
  have hf3_2 : ∀ o, w3.frozen? ⟨w1.heap.size, o, none⟩ = _ := fun o => hb3.frozen (p := ⟨w1.heap.size, o, none⟩) (by ((try simp only [World.size_alloc, World.size_setCell, World.size_drew, size_drewN]); omega))
  have z3_2 : w1.heap.size < w3.heap.size := (by omega)
  have hc3_3 : ∀ o, w3.cell? ⟨w1.heap.size + 1, o, none⟩ = _ := fun o => hb3.cell (p := ⟨w1.heap.size + 1, o, none⟩) (by ((try simp only [World.size_alloc, World.size_setCell, World.size_drew, size_drewN]); omega))
  have hf3_3 : ∀ o, w3.frozen? ⟨w1.heap.size + 1, o, none⟩ = _ := fun o => hb3.frozen (p := ⟨w1.heap.size + 1, o, none⟩) (by ((try simp only [World.size_alloc, World.size_setCell, World.size_drew, size_drewN]); omega))
  have z3_3 : w1.heap.size + 1 < w3.heap.size := (by omega)
  have hc3_4 : ∀ o, w3.cell? ⟨w2.heap.size, o, none⟩ = _ := fun o => hb3.cell (p := ⟨w2.heap.size, o, none⟩) (by ((try simp only [World.size_alloc, World.size_setCell, World.size_drew, size_drewN]); omega))
  have hf3_4 : ∀ o, w3.frozen? ⟨w2.heap.size, o, none⟩ = _ := fun o => hb3.frozen (p := ⟨w2.heap.size, o, none⟩) (by ((try simp only [World.size_alloc, World.size_setCell, World.size_drew, size_drewN]); omega))
  have z3_4 : w2.heap.size < w3.heap.size := (by omega)
  have hc3_5 : ∀ o, w3.cell? ⟨w2.heap.size + 1, o, none⟩ = _ := fun o => hb3.cell (p := ⟨w2.heap.size + 1, o, none⟩) (by ((try simp only [World.size_alloc, World.size_setCell, World.size_drew, size_drewN]); omega))
  have hf3_5 : ∀ o, w3.frozen? ⟨w2.heap.size + 1, o, none⟩ = _ := fun o => hb3.frozen (p := ⟨w2.heap.size + 1, o, none⟩) (by ((try simp only [World.size_alloc, World.size_setCell, World.size_drew, size_drewN]); omega))
  have z3_5 : w2.heap.size + 1 < w3.heap.size := (by omega)
  go_wp2
  go_ret
  exact ⟨rfl, (by (repeat' (first | (with_reducible exact Below.refl _ _) | (with_reducible assumption) | (with_reducible refine Below.alloc ?_ ?_ _) | (with_reducible refine Below.drew ?_) | (with_reducible refine below_drewN ?_ _) | (with_reducible refine Below.setCell ?_ ?_ _) | (with_reducible refine below_step (by with_reducible assumption) ?_ ?_) | (first | (with_reducible exact Nat.le_refl _) | (with_reducible assumption) | omega | (simp only [World.size_alloc, World.size_setCell, World.size_drew, size_drewN]; omega) | (simp; omega) | (simp; done)))))⟩
end Go.Proofs.Ytjgodkpeapeflaa
