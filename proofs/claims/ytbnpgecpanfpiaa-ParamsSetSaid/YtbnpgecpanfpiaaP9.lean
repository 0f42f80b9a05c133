/- chapter 12: the examples. -/
import Derived.WalkKit
import Derived.KernelRfl
import Derived.RowKit3
import Derived.Deep.LoopGhost
import Derived.Deep.QuietTactic
import Derived.BigQuiet
import Derived.WideLaws
import Derived.Laws.Rows
import Derived.Below
import Derived.Deep.Draws
import Derived.Outline
import Derived.LoopN
import Derived.Handy
import Derived.Laws.Externs
import Derived.Laws.BitsAllLaws
import Derived.Laws.BitsLemmas
import Derived.Deep.DeepCutAuto
import Derived.Deep.CutBlock
import Derived.Deep.RegionHeld3
import Derived.Test.YtbnpgecpanfpiaaP5
namespace Go.Proofs.Ytbnpgecpanfpiaa
open Go.RowKit
set_option linter.unusedVariables false
set_option linter.unusedSimpArgs false
def oneN (x : Int) : Nat → Int := fun j => if j = 0 then x else 0
theorem oneN_w {x : Int} (h0 : 0 ≤ x) (h1 : x < 18446744073709551616) (j : Nat) : 0 ≤ oneN x j ∧ oneN x j < 18446744073709551616 := by
  unfold oneN
  split <;> omega
theorem ex_set : setE Gen 7 (oneN 10001) = 15 := by decide
theorem field_gen (w : World) : (Instr.field 26 (.agg (pC Gen)) 11).run Try.prog w = .ok (.int .u64 65536) w := by kernel_rfl
set_option maxRecDepth 20000 in
set_option maxHeartbeats 4000000 in
theorem awake12_c (w : World) : Calls Try.prog 16 #[] w fun e w' => e = .returned (.bool true) ∧ Below w.heap.size w w' := by
  have HS := fun w => set_c Gen Gen_w (oneN 10001) (oneN_w (by omega) (by omega)) 7 w
  rw [ex_set, setR_zero (by rw [ex_set]; decide)] at HS
  have e0 : oneN 10001 0 = 10001 := rfl
  have e1 : oneN 10001 1 = 0 := rfl
  have e2 : oneN 10001 2 = 0 := rfl
  have e3 : oneN 10001 3 = 0 := rfl
  rw [e0, e1, e2, e3] at HS
  replace HS := hide HS
  have HF := fun w => fiP_c (fun _ => 0) (fun i => ⟨Int.le_refl 0, show (0 : Int) < 18446744073709551616 by decide⟩) w
  rw [zero_fi] at HF
  replace HF := hide HF
  have HV := fun w => validP_c Gen Gen_w w
  rw [Gen_ok] at HV
  replace HV := hide HV
  clear e0 e1 e2 e3
  have hfld := field_gen
  go_enter Try.func16, Try.ntmps16
  go_wp2_with fail
  refine (genesis_c _).mono ?_
  rintro e w1 ⟨rfl, hb1⟩
  have hs1 := hb1.size
  go_wp2_with fail
  refine (HS.out _).mono ?_
  rintro e w2 ⟨rfl, hb2⟩
  have hs2 := hb2.size
  have HZ := hide (PBlk.new w2 (fun _ => 0))
  go_wp2_with (refine wpList_store_row26 rfl (.tmp 1) (.tmp 7) rfl (g := w2.heap.size) (fun _ => 0) rfl rfl HZ.out ?_; intro w3 HZ3 hB3 _; have hB3' := hide (hB3 w.heap.size w (by omega) (((hb1.trans (hb2.mono (by omega))).alloc (by omega) _))); clear hB3 HZ3)
  have hs3 := hB3'.out.size
  refine (HF.out _).mono ?_
  rintro e w4 ⟨rfl, hb4⟩
  have hs4 := hb4.size
  go_wp2_with fail
  refine (genesis_c _).mono ?_
  rintro e w5 ⟨rfl, hb5⟩
  have hs5 := hb5.size
  go_wp2_with fail
  refine (HV.out _).mono ?_
  rintro e w6 ⟨rfl, hb6⟩
  have hs6 := hb6.size
  go_wp2_with fail
  refine (genesis_c _).mono ?_
  rintro e w7 ⟨rfl, hb7⟩
  have hs7 := hb7.size
  have hfin : Below w.heap.size w w7 := (((hB3'.out.trans (hb4.mono (by omega))).trans (hb5.mono (by omega))).trans (hb6.mono (by omega))).trans (hb7.mono (by omega))
  replace hfin := hide hfin
  go_wp2
  go_ret
  exact ⟨rfl, hfin.out⟩
end Go.Proofs.Ytbnpgecpanfpiaa
