/- pontageref12: Genesis, all, Get. -/
import Derived.WalkKit
import Derived.KernelRfl
import Derived.RowKit3
import Derived.Deep.LoopGhost
import Derived.Deep.QuietTactic
import Derived.BigQuiet
import Derived.WideLaws
import Derived.Laws.Rows
import Derived.Below
import Derived.Deep.Draws
import Derived.Outline
import Derived.LoopN
import Derived.Handy
import Derived.Laws.Externs
import Derived.Laws.BitsAllLaws
import Derived.Laws.BitsLemmas
import Derived.Deep.DeepCutAuto
import Derived.Deep.CutBlock
import Derived.Deep.RegionHeld3
import Derived.Test.YtbnpgecpanfpiaaP6
import Derived.Test.YtbnpgecpanfpiaaRB
namespace Go.Proofs.Ytbnpgecpanfpiaa
open Go.RowKit
set_option linter.unusedVariables false
set_option linter.unusedSimpArgs false
set_option maxHeartbeats 4000000 in
theorem rgen_c (w : World) : Calls Try.prog 15 #[] w fun e w' => e = .returned (.agg (pC Gen)) ∧ Below w.heap.size w w' := by
  have HZ := hide (PBlk.new w (fun _ => 0))
  have HB := hide (show Below w.heap.size w (w.alloc (.cells (pC fun _ => 0) 26)) from (Below.refl _ _).alloc (Nat.le_refl _) _)
  go_enter Try.func15, Try.ntmps15
  go_wp2_with (refine wpList_store_row26 rfl (.tmp 0) (.tmp 4) rfl (g := w.heap.size) Gen rfl rfl HZ.out ?_; intro wz HG hBz _; replace HG := hide HG; replace hBz := hide (hBz w.heap.size w (Nat.le_refl _) HB.out))
  exact bodyPost_ret (results_row1 rfl rfl HG.out isRowP sizeP) rfl ⟨rfl, hBz.out⟩
def allC (P : Nat → Int) : Array Value := #[.int .u64 (getL P 1 0), .int .u64 (getL P 1 1), .int .u64 (getL P 1 2), .int .u64 (getL P 1 3), .int .u64 (getL P 2 0), .int .u64 (getL P 2 1), .int .u64 (getL P 2 2), .int .u64 (getL P 2 3), .int .u64 (getL P 3 0), .int .u64 (getL P 3 1), .int .u64 (getL P 3 2), .int .u64 (getL P 3 3), .int .u64 (getL P 4 0), .int .u64 (getL P 4 1), .int .u64 (getL P 4 2), .int .u64 (getL P 4 3), .int .u64 (getL P 5 0), .int .u64 (getL P 5 1), .int .u64 (getL P 5 2), .int .u64 (getL P 5 3), .int .u64 (getL P 6 0), .int .u64 (getL P 6 1), .int .u64 (getL P 6 2), .int .u64 (getL P 6 3), .int .u64 (getL P 7 0), .int .u64 (getL P 7 1), .int .u64 (getL P 7 2), .int .u64 (getL P 7 3), .int .u64 (getL P 8 0), .int .u64 (getL P 8 1), .int .u64 (getL P 8 2), .int .u64 (getL P 8 3), .int .u64 (getL P 9 0), .int .u64 (getL P 9 1), .int .u64 (getL P 9 2), .int .u64 (getL P 9 3), .int .u64 (getL P 10 0), .int .u64 (getL P 10 1), .int .u64 (getL P 10 2), .int .u64 (getL P 10 3), .int .u64 (getL P 11 0), .int .u64 (getL P 11 1), .int .u64 (getL P 11 2), .int .u64 (getL P 11 3), .int .u64 (getL P 12 0), .int .u64 (getL P 12 1), .int .u64 (getL P 12 2), .int .u64 (getL P 12 3)]
def Z48 : Array Value := #[.int .u64 0, .int .u64 0, .int .u64 0, .int .u64 0, .int .u64 0, .int .u64 0, .int .u64 0, .int .u64 0, .int .u64 0, .int .u64 0, .int .u64 0, .int .u64 0, .int .u64 0, .int .u64 0, .int .u64 0, .int .u64 0, .int .u64 0, .int .u64 0, .int .u64 0, .int .u64 0, .int .u64 0, .int .u64 0, .int .u64 0, .int .u64 0, .int .u64 0, .int .u64 0, .int .u64 0, .int .u64 0, .int .u64 0, .int .u64 0, .int .u64 0, .int .u64 0, .int .u64 0, .int .u64 0, .int .u64 0, .int .u64 0, .int .u64 0, .int .u64 0, .int .u64 0, .int .u64 0, .int .u64 0, .int .u64 0, .int .u64 0, .int .u64 0, .int .u64 0, .int .u64 0, .int .u64 0, .int .u64 0]
theorem allC_one (P : Nat → Int) : (allC P).all (·.oneCell') = true := by simp [allC, Value.oneCell']
theorem size54 : (Try.prog.info? 54).map (·.size) = some 48 := by kernel_rfl
theorem cutA {f : World → Prop} {W w : World} {g b : Nat} {P : Nat → Int} {cs : Array Value} {T : TypeId} (hb : Below w.heap.size w W) (h : PBlk W g P) (z : RBlk W b cs T) (k : ∀ W', Hid (Below w.heap.size w W') → Hid (PBlk W' g P) → Hid (RBlk W' b cs T) → f W') : f W := k W hb h z
set_option maxRecDepth 20000 in
set_option maxHeartbeats 8000000 in
theorem rall_c (P : Nat → Int) (w : World) : Calls Try.prog 25 #[.agg (pC P)] w fun e w' => e = .returned (.agg (allC P)) ∧ Below w.heap.size w w' := by
  have hP0 := hide ((PBlk.new w P).alloc (.cells Z48 54))
  have hZ0 := hide (RBlk.new (w.alloc (.cells (pC P) 26)) Z48 54)
  simp only [World.size_alloc] at hZ0
  have hB0 := hide (show Below w.heap.size w ((w.alloc (.cells (pC P) 26)).alloc (.cells Z48 54)) from ((Below.refl _ _).alloc (Nat.le_refl _) _).alloc (by simp) _)
  go_enter Try.func25, Try.ntmps25
  go_upto_region 1 with fail
  refine cutA hB0.out hP0.out hZ0.out ?_
  clear hB0 hP0 hZ0
  intro w0 hB HP HZ
  have c0 := HP.out.cell (i := 0) (by omega)
  have c1 := HP.out.cell (i := 1) (by omega)
  have c2 := HP.out.cell (i := 2) (by omega)
  have c3 := HP.out.cell (i := 3) (by omega)
  have c4 := HP.out.cell (i := 4) (by omega)
  have c5 := HP.out.cell (i := 5) (by omega)
  have c6 := HP.out.cell (i := 6) (by omega)
  have c7 := HP.out.cell (i := 7) (by omega)
  have c8 := HP.out.cell (i := 8) (by omega)
  have c9 := HP.out.cell (i := 9) (by omega)
  have c10 := HP.out.cell (i := 10) (by omega)
  have c11 := HP.out.cell (i := 11) (by omega)
  have c12 := HP.out.cell (i := 12) (by omega)
  have c13 := HP.out.cell (i := 13) (by omega)
  have c14 := HP.out.cell (i := 14) (by omega)
  have c15 := HP.out.cell (i := 15) (by omega)
  have c16 := HP.out.cell (i := 16) (by omega)
  have c17 := HP.out.cell (i := 17) (by omega)
  have c18 := HP.out.cell (i := 18) (by omega)
  have c19 := HP.out.cell (i := 19) (by omega)
  have c20 := HP.out.cell (i := 20) (by omega)
  go_wp2_with (refine wpList_store_rowR (by rfl) (.tmp 2) (.tmp 36) rfl (ds := allC P) rfl (by rfl) HZ.out rfl size54 (allC_one P) ?_; intro wz HZz hSz; replace HZz := hide HZz; have hBz := hide (hSz.1 w.heap.size w (by omega) hB.out); clear hSz)
  exact bodyPost_ret (results_rowR1 rfl rfl HZz.out Try.underlying54 rfl size54) rfl ⟨rfl, hBz.out⟩
theorem idx54 (P : Nat → Int) : (∀ w, (Instr.index 54 (.agg (allC P)) (.int .i64 0)).run Try.prog w = .ok (.agg #[.int .u64 (getL P 1 0), .int .u64 (getL P 1 1), .int .u64 (getL P 1 2), .int .u64 (getL P 1 3)]) w) ∧ (∀ w, (Instr.index 54 (.agg (allC P)) (.int .i64 1)).run Try.prog w = .ok (.agg #[.int .u64 (getL P 2 0), .int .u64 (getL P 2 1), .int .u64 (getL P 2 2), .int .u64 (getL P 2 3)]) w) ∧ (∀ w, (Instr.index 54 (.agg (allC P)) (.int .i64 2)).run Try.prog w = .ok (.agg #[.int .u64 (getL P 3 0), .int .u64 (getL P 3 1), .int .u64 (getL P 3 2), .int .u64 (getL P 3 3)]) w) ∧ (∀ w, (Instr.index 54 (.agg (allC P)) (.int .i64 3)).run Try.prog w = .ok (.agg #[.int .u64 (getL P 4 0), .int .u64 (getL P 4 1), .int .u64 (getL P 4 2), .int .u64 (getL P 4 3)]) w) ∧ (∀ w, (Instr.index 54 (.agg (allC P)) (.int .i64 4)).run Try.prog w = .ok (.agg #[.int .u64 (getL P 5 0), .int .u64 (getL P 5 1), .int .u64 (getL P 5 2), .int .u64 (getL P 5 3)]) w) ∧ (∀ w, (Instr.index 54 (.agg (allC P)) (.int .i64 5)).run Try.prog w = .ok (.agg #[.int .u64 (getL P 6 0), .int .u64 (getL P 6 1), .int .u64 (getL P 6 2), .int .u64 (getL P 6 3)]) w) ∧ (∀ w, (Instr.index 54 (.agg (allC P)) (.int .i64 6)).run Try.prog w = .ok (.agg #[.int .u64 (getL P 7 0), .int .u64 (getL P 7 1), .int .u64 (getL P 7 2), .int .u64 (getL P 7 3)]) w) ∧ (∀ w, (Instr.index 54 (.agg (allC P)) (.int .i64 7)).run Try.prog w = .ok (.agg #[.int .u64 (getL P 8 0), .int .u64 (getL P 8 1), .int .u64 (getL P 8 2), .int .u64 (getL P 8 3)]) w) ∧ (∀ w, (Instr.index 54 (.agg (allC P)) (.int .i64 8)).run Try.prog w = .ok (.agg #[.int .u64 (getL P 9 0), .int .u64 (getL P 9 1), .int .u64 (getL P 9 2), .int .u64 (getL P 9 3)]) w) ∧ (∀ w, (Instr.index 54 (.agg (allC P)) (.int .i64 9)).run Try.prog w = .ok (.agg #[.int .u64 (getL P 10 0), .int .u64 (getL P 10 1), .int .u64 (getL P 10 2), .int .u64 (getL P 10 3)]) w) ∧ (∀ w, (Instr.index 54 (.agg (allC P)) (.int .i64 10)).run Try.prog w = .ok (.agg #[.int .u64 (getL P 11 0), .int .u64 (getL P 11 1), .int .u64 (getL P 11 2), .int .u64 (getL P 11 3)]) w) ∧ (∀ w, (Instr.index 54 (.agg (allC P)) (.int .i64 11)).run Try.prog w = .ok (.agg #[.int .u64 (getL P 12 0), .int .u64 (getL P 12 1), .int .u64 (getL P 12 2), .int .u64 (getL P 12 3)]) w) := by
  refine ⟨?_, ?_, ?_, ?_, ?_, ?_, ?_, ?_, ?_, ?_, ?_, ?_⟩ <;> intro w <;> kernel_rfl
end Go.Proofs.Ytbnpgecpanfpiaa
