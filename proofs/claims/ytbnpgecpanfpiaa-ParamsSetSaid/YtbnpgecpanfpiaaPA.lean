/- params: two equal values of type api.Params compare equal. -/
import Derived.WalkKit
import Derived.KernelRfl
import Derived.RowKit3
import Derived.Deep.LoopGhost
import Derived.Deep.QuietTactic
import Derived.BigQuiet
import Derived.WideLaws
import Derived.Laws.Rows
import Derived.Below
import Derived.Deep.Draws
import Derived.Outline
import Derived.LoopN
import Derived.Handy
import Derived.Laws.Externs
import Derived.Laws.BitsAllLaws
import Derived.Laws.BitsLemmas
import Derived.Deep.DeepCutAuto
import Derived.Deep.CutBlock
import Derived.Deep.RegionHeld3
import Derived.Test.YtbnpgecpanfpiaaP9
import Derived.Test.YtbnpgecpanfpiaaEQ
namespace Go.Proofs.Ytbnpgecpanfpiaa
open Go.RowKit
set_option linter.unusedVariables false
set_option linter.unusedSimpArgs false
theorem fieldsP : (Try.prog.fieldsOf 26).toList.all (fun f => (f.type == 22 && decide (f.offset < 21)) || (f.type == 24 && decide (f.offset + 4 ≤ 21))) = true := by kernel_rfl
theorem stoodP : Try.prog.stoodInHeld 26 = false := by kernel_rfl
theorem partP_1 (P : Nat → Int) {o : Nat} (h : o < 21) (w : World) : (part 22 (pC P) o).run Try.prog w = .ok (.int .u64 (P o)) w := by
  simp [part, isAgg, run_underlying Try.underlying22, pC_get P o h]
theorem ext4 (P : Nat → Int) {o : Nat} (h : o + 4 ≤ 21) : (pC P).extract o (o + 4) = #[.int .u64 (P o), .int .u64 (P (o + 1)), .int .u64 (P (o + 2)), .int .u64 (P (o + 3))] := by
  obtain rfl | rfl | rfl | rfl | rfl | rfl | rfl | rfl | rfl | rfl | rfl | rfl | rfl | rfl | rfl | rfl | rfl | rfl : o = 0 ∨ o = 1 ∨ o = 2 ∨ o = 3 ∨ o = 4 ∨ o = 5 ∨ o = 6 ∨ o = 7 ∨ o = 8 ∨ o = 9 ∨ o = 10 ∨ o = 11 ∨ o = 12 ∨ o = 13 ∨ o = 14 ∨ o = 15 ∨ o = 16 ∨ o = 17 := by omega
  all_goals rfl
theorem partP_4 (P : Nat → Int) {o : Nat} (h : o + 4 ≤ 21) (w : World) : (part 24 (pC P) o).run Try.prog w = .ok (.agg #[.int .u64 (P o), .int .u64 (P (o + 1)), .int .u64 (P (o + 2)), .int .u64 (P (o + 3))]) w := by
  rw [← ext4 P h]
  simp [part, isAgg, run_underlying Try.underlying24, cellsU4, pC_size]
theorem eqP_law (P : Nat → Int) (w : World) : (Op.equalIn 10000 26 (.agg (pC P)) (.agg (pC P))).run Try.prog w = .ok true w := by
  rw [run_equalIn_struct w 9999 26 _ _ (by kernel_rfl) stoodP]
  refine fields_same _ ?_
  intro f hf
  have := List.all_eq_true.1 fieldsP f hf
  simp only [Bool.or_eq_true, Bool.and_eq_true, beq_iff_eq, decide_eq_true_eq] at this
  rcases this with ⟨ht, ho⟩ | ⟨ht, ho⟩
  · rw [ht]
    exact ⟨_, partP_1 P ho w, by rw [run_equalIn_int w 9998 _ .u64 .u64 _ _ Try.underlying22]; simp⟩
  · rw [ht]
    exact ⟨_, partP_4 P ho w, eqU_same 9997 _ _ _ _ w⟩
end Go.Proofs.Ytbnpgecpanfpiaa
