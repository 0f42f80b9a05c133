/- Equal values compare equal: fields, items. -/
import Derived.WalkKit
import Derived.KernelRfl
import Derived.RowKit3
import Derived.Deep.LoopGhost
import Derived.Deep.QuietTactic
import Derived.BigQuiet
import Derived.WideLaws
import Derived.Laws.Rows
import Derived.Below
import Derived.Deep.Draws
import Derived.Outline
import Derived.LoopN
import Derived.Handy
import Derived.Laws.Externs
import Derived.Laws.BitsAllLaws
import Derived.Laws.BitsLemmas
import Derived.Deep.DeepCutAuto
import Derived.Deep.CutBlock
import Derived.Deep.RegionHeld3
import Derived.Test.YthikkajjnfeigaaU
namespace Go.Proofs.Ythikkajjnfeigaa
open Go.RowKit
set_option linter.unusedVariables false
set_option linter.unusedSimpArgs false
theorem fields_same {P : Program} {d : Nat} {xs : Array Value} {w : World} : ∀ (fs : List Field), (∀ f ∈ fs, ∃ v, (part f.type xs f.offset).run P w = .ok v w ∧ (Op.equalIn d f.type v v).run P w = .ok true w) → (Op.eqFields d xs xs fs).run P w = .ok true w
  | [], _ => by simp [Op.eqFields]
  | f :: fs, h => by
    obtain ⟨v, h1, h2⟩ := h f (by simp)
    have ih := fields_same fs (fun g hg => h g (by simp [hg]))
    simp only [Op.eqFields]
    split
    · simp only [Sem.run_bind, h1, h2, Result.andThen_ok]
      simpa using ih
    · exact ih
theorem items_same {P : Program} {e : TypeId} {d c : Nat} {xs : Array Value} {w : World} : ∀ (is : List Nat), (∀ i ∈ is, ∃ a : Int, (part e xs (i * c)).run P w = .ok (.int .u64 a) w) → P.underlying e = some (.int .u64) → (Op.eqItems (d + 1) e c xs xs is).run P w = .ok true w
  | [], _, _ => by simp [Op.eqItems]
  | i :: is, h, he => by
    obtain ⟨a, h1⟩ := h i (by simp)
    have := item_cons h1 h1 (item_law he a a w d) (items_same is (fun j hj => h j (by simp [hj])) he)
    simpa using this
theorem cellsU4 : Try.prog.cellsOf 24 = 4 := by kernel_rfl
theorem eqU_same (d : Nat) (a0 a1 a2 a3 : Int) (w : World) : (Op.equalIn (d + 1 + 1) 24 (.agg #[.int .u64 a0, .int .u64 a1, .int .u64 a2, .int .u64 a3]) (.agg #[.int .u64 a0, .int .u64 a1, .int .u64 a2, .int .u64 a3])).run Try.prog w = .ok true w := by
  obtain ⟨i0, hi, -, -, -⟩ := info_parts infoU
  rw [run_equalIn_array w (d + 1) _ _ Try.underlying24 hi, cellsU, show List.range 4 = [0, 1, 2, 3] from rfl]
  have hp : ∀ (xs : Array Value) (i : Nat) (v : Value) (w : World), xs[i]? = some v → (part 22 xs i).run Try.prog w = .ok v w := by
    intro xs i v w h
    simp [part, isAgg, run_underlying Try.underlying22, h]
  refine items_same _ ?_ Try.underlying22
  intro i hi
  simp only [List.mem_cons, List.mem_nil_iff, or_false] at hi
  rcases hi with rfl | rfl | rfl | rfl
  all_goals exact ⟨_, hp _ _ _ _ rfl⟩
end Go.Proofs.Ythikkajjnfeigaa
