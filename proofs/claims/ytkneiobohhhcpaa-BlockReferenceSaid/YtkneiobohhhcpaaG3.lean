/- chapter 15: two equal blocks compare equal. -/
import Derived.WalkKit
import Derived.KernelRfl
import Derived.RowKit3
import Derived.Deep.LoopGhost
import Derived.Deep.QuietTactic
import Derived.BigQuiet
import Derived.WideLaws
import Derived.Laws.Rows
import Derived.Below
import Derived.Deep.Draws
import Derived.Outline
import Derived.LoopN
import Derived.Handy
import Derived.Laws.Externs
import Derived.Laws.BitsAllLaws
import Derived.Laws.BitsLemmas
import Derived.Deep.DeepCutAuto
import Derived.Deep.CutBlock
import Derived.Deep.RegionHeld3
import Derived.Test.YtkneiobohhhcpaaG2
import Derived.Test.YtkneiobohhhcpaaEQ
namespace Go.Proofs.Ytkneiobohhhcpaa
open Go.RowKit
set_option linter.unusedVariables false
set_option linter.unusedSimpArgs false
theorem fieldsB : (Try.prog.fieldsOf 30).toList.all (fun f => (f.type == 22 && decide (f.offset < 3)) || (f.type == 25 && decide (f.offset = 3))) = true := by kernel_rfl
theorem stoodB : Try.prog.stoodInHeld 30 = false := by kernel_rfl
theorem eqB_law (x0 x1 x2 x3 x4 x5 x6 : Int) (w : World) : (Op.equalIn 10000 30 (.agg #[.int .u64 x0, .int .u64 x1, .int .u64 x2, .int .u64 x3, .int .u64 x4, .int .u64 x5, .int .u64 x6]) (.agg #[.int .u64 x0, .int .u64 x1, .int .u64 x2, .int .u64 x3, .int .u64 x4, .int .u64 x5, .int .u64 x6])).run Try.prog w = .ok true w := by
  rw [run_equalIn_struct w 9999 30 _ _ (by kernel_rfl) stoodB]
  refine fields_same _ ?_
  intro f hf
  have := List.all_eq_true.1 fieldsB f hf
  simp only [Bool.or_eq_true, Bool.and_eq_true, beq_iff_eq, decide_eq_true_eq] at this
  rcases this with ⟨ht, ho⟩ | ⟨ht, ho⟩
  · rw [ht]
    obtain ⟨a, ha⟩ : ∃ a : Int, (#[Value.int .u64 x0, .int .u64 x1, .int .u64 x2, .int .u64 x3, .int .u64 x4, .int .u64 x5, .int .u64 x6] : Array Value)[f.offset]? = some (.int .u64 a) := by
      have : f.offset = 0 ∨ f.offset = 1 ∨ f.offset = 2 := by omega
      rcases this with h | h | h
      all_goals rw [h]; exact ⟨_, rfl⟩
    refine ⟨.int .u64 a, ?_, by rw [run_equalIn_int w 9998 _ .u64 .u64 _ _ Try.underlying22]; simp⟩
    simp [part, isAgg, run_underlying Try.underlying22, ha]
  · rw [ht, ho]
    refine ⟨.agg #[.int .u64 x3, .int .u64 x4, .int .u64 x5, .int .u64 x6], ?_, eqU_same 9997 _ _ _ _ w⟩
    have e : (#[Value.int .u64 x0, .int .u64 x1, .int .u64 x2, .int .u64 x3, .int .u64 x4, .int .u64 x5, .int .u64 x6] : Array Value).extract 3 7 = #[.int .u64 x3, .int .u64 x4, .int .u64 x5, .int .u64 x6] := rfl
    simp [part, isAgg, run_underlying Try.underlying25, cellsU4, e]
end Go.Proofs.Ytkneiobohhhcpaa
