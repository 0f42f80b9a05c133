/- Chapter 9: the examples. -/
import Derived.WalkKit
import Derived.KernelRfl
import Derived.RowKit3
import Derived.Deep.LoopGhost
import Derived.Deep.QuietTactic
import Derived.BigQuiet
import Derived.WideLaws
import Derived.Laws.Rows
import Derived.Below
import Derived.Deep.Draws
import Derived.Outline
import Derived.LoopN
import Derived.Handy
import Derived.Laws.Externs
import Derived.Laws.BitsAllLaws
import Derived.Laws.BitsLemmas
import Derived.Deep.DeepCutAuto
import Derived.Deep.CutBlock
import Derived.Deep.RegionHeld3
import Derived.Test.YtkdbgkjckoklcaaZ7
import Derived.Lib.SlBytesConst
import Derived.Lib.SmallJoins
namespace Go.Proofs.Ytkdbgkjckoklcaa
open Go.RowKit
set_option linter.unusedVariables false
set_option linter.unusedSimpArgs false
theorem heap_new_at {w : World} {o : Obj} {g : Nat} (hg : g = w.heap.size) : (w.alloc o).heap[g]? = some o := by subst hg; exact heap_alloc_new w o
theorem BRow.lit {W : World} {g : Nat} {C : Array Value} {t : TypeId} {fr : Nat × Nat} {l : List UInt8} (h : W.heap[g]? = some (.cells C t fr)) (hC : C = (l.map bv).toArray) : BRow W (some ⟨g, 0, none⟩) l := by
  intro hl
  refine ⟨g, 0, rfl, fun i hi => ?_⟩
  rw [Nat.zero_add, cell_of_row W g i C t fr h, hC, gb, List.getD_eq_getElem?_getD, List.getElem?_eq_getElem hi]
  simp [bv, List.getElem?_eq_getElem hi]
theorem BRow.to {w w' : World} {ad : Option Addr} {l : List UInt8} (h : BRow w ad l) (hb : Below w.heap.size w w') : BRow w' ad l := h.below hb (Nat.le_refl _)
set_option maxRecDepth 20000 in
set_option maxHeartbeats 4000000 in
theorem awake9_c (w : World) : Calls Try.prog 11 #[] w fun e w' => e = .returned (.bool true) ∧ Below w.heap.size w w' := by
  have kc := fun (w : World) (C : Array Value) (n c g : Nat) (hg : g = w.heap.size) => Joins.run_convert_bytes_const_at (P := Try.prog) w 22 5 C n c g hg Try.underlying22 Try.underlying5
  go_enter Try.func11, Try.ntmps11
  go_wp2_with fail
  refine (comp_c (l := [97, 98, 99, 100]) _ 4 4 (hide rfl) (by omega) (by omega) _ (hide (BRow.lit (heap_alloc_new _ _) rfl))).mono ?_
  rintro e w1 ⟨v1, rfl, HO1, hb1⟩
  obtain ⟨A1, c1, rfl, hc1, hr1⟩ := HO1.out.shape
  rw [ex_comp1] at hc1 hr1
  rw [ex_comp1]
  replace hr1 := hide hr1
  have hs1 := hb1.size
  simp only [World.size_alloc] at hs1
  clear HO1
  go_wp2_with fail
  refine (comp_c (l := [97, 97, 97, 97, 97, 97]) _ 6 6 (hide rfl) (by omega) (by omega) _ (hide (BRow.lit (heap_alloc_new _ _) rfl))).mono ?_
  rintro e w2 ⟨v2, rfl, HO2, hb2⟩
  obtain ⟨A2, c2, rfl, hc2, hr2⟩ := HO2.out.shape
  rw [ex_comp2] at hc2 hr2
  rw [ex_comp2]
  replace hr2 := hide hr2
  have hs2 := hb2.size
  simp only [World.size_alloc] at hs2
  clear HO2
  go_wp2_with fail
  refine (dec_c (l := [0]) _ 1 1 (hide rfl) (by omega) (by omega) _ (hide (BRow.lit (heap_alloc_new _ _) rfl))).mono ?_
  rintro e w3 ⟨v3, rfl, HO3, hb3⟩
  rw [ex_dec]
  have hs3 := hb3.size
  simp only [World.size_alloc] at hs3
  clear HO3
  go_wp2_with fail
  refine (eqb_c (l := [4, 97, 98, 99, 100]) _ _ _ _ _ _ (hide rfl) (hide rfl) _ (hide (hr1.out.to (by (repeat' (first | (with_reducible exact Below.refl _ _) | (with_reducible assumption) | (with_reducible refine Below.alloc ?_ ?_ _) | (with_reducible refine Below.drew ?_) | (with_reducible refine below_drewN ?_ _) | (with_reducible refine Below.setCell ?_ ?_ _) | (with_reducible refine below_step (by with_reducible assumption) ?_ ?_) | (first | (with_reducible exact Nat.le_refl _) | (with_reducible assumption) | omega | (simp only [World.size_alloc, World.size_setCell, World.size_drew, size_drewN]; omega) | (simp; omega) | (simp; done))))))) (hide (BRow.lit (heap_alloc_new _ _) rfl))).mono ?_
  rintro e w4 ⟨rfl, rfl⟩
  go_wp2_with fail
  refine (eqb_c (l := [1, 97, 129, 0, 0]) _ _ _ _ _ _ (hide rfl) (hide rfl) _ (hide (hr2.out.to (by (repeat' (first | (with_reducible exact Below.refl _ _) | (with_reducible assumption) | (with_reducible refine Below.alloc ?_ ?_ _) | (with_reducible refine Below.drew ?_) | (with_reducible refine below_drewN ?_ _) | (with_reducible refine Below.setCell ?_ ?_ _) | (with_reducible refine below_step (by with_reducible assumption) ?_ ?_) | (first | (with_reducible exact Nat.le_refl _) | (with_reducible assumption) | omega | (simp only [World.size_alloc, World.size_setCell, World.size_drew, size_drewN]; omega) | (simp; omega) | (simp; done))))))) (hide (BRow.lit (heap_new_at (by simp)) rfl))).mono ?_
  rintro e w5 ⟨rfl, rfl⟩
  go_wp2
  go_ret
  exact ⟨rfl, (by (repeat' (first | (with_reducible exact Below.refl _ _) | (with_reducible assumption) | (with_reducible refine Below.alloc ?_ ?_ _) | (with_reducible refine Below.drew ?_) | (with_reducible refine below_drewN ?_ _) | (with_reducible refine Below.setCell ?_ ?_ _) | (with_reducible refine below_step (by with_reducible assumption) ?_ ?_) | (first | (with_reducible exact Nat.le_refl _) | (with_reducible assumption) | omega | (simp only [World.size_alloc, World.size_setCell, World.size_drew, size_drewN]; omega) | (simp; omega) | (simp; done)))))⟩
end Go.Proofs.Ytkdbgkjckoklcaa
