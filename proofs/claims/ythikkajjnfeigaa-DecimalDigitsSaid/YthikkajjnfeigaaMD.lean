/- Mod, walked. -/
import Derived.WalkKit
import Derived.KernelRfl
import Derived.RowKit3
import Derived.Deep.LoopGhost
import Derived.Deep.QuietTactic
import Derived.BigQuiet
import Derived.WideLaws
import Derived.Laws.Rows
import Derived.Below
import Derived.Deep.Draws
import Derived.Outline
import Derived.LoopN
import Derived.Handy
import Derived.Laws.Externs
import Derived.Laws.BitsAllLaws
import Derived.Laws.BitsLemmas
import Derived.Deep.DeepCutAuto
import Derived.Deep.CutBlock
import Derived.Deep.RegionHeld3
import Derived.Test.YthikkajjnfeigaaB
import Derived.Test.YthikkajjnfeigaaProg
namespace Go.Proofs.Ythikkajjnfeigaa
open Go.RowKit
set_option linter.unusedVariables false
set_option linter.unusedSimpArgs false
theorem wrap_id {x : Int} (h0 : 0 ≤ x) (h1 : x < 18446744073709551616) : IntKind.u64.wrap x = x := by rw [IntKind.wrap_u64]; omega
def modV (x n : Int) : Int := x % 18446744073709551616 % n
theorem modV_lt (x : Int) {n : Int} (h : 0 < n) : 0 ≤ modV x n ∧ modV x n < n := ⟨Int.emod_nonneg _ (by omega), Int.emod_lt_of_pos _ h⟩
theorem mod_c {x n : Int} (n0 : 0 < n) (n1 : n < 4294967296) (w : World) :
    Calls Try.prog 10 #[.int .i64 x, .int .i64 n] w fun e w' => e = .returned (.int .i64 (modV x n)) ∧ w = w' := by
  have h1 : IntKind.u64.wrap x = x % 18446744073709551616 := IntKind.wrap_u64 x
  have h2 : IntKind.u64.wrap n = n := wrap_id (by omega) (by omega)
  have hx0 : 0 ≤ x % 18446744073709551616 := by omega
  have h3 : (x % 18446744073709551616).tmod n = modV x n := Int.tmod_eq_emod_of_nonneg hx0
  have hr0 : 0 ≤ modV x n := Int.emod_nonneg _ (by omega)
  have hr1 : modV x n < n := Int.emod_lt_of_pos _ n0
  have h4 : IntKind.i64.wrap (modV x n) = modV x n := by rw [IntKind.wrap_i64]; omega
  have h5 : IntKind.u64.wrap (modV x n) = modV x n := wrap_id hr0 (by omega)
  have hn : (n == 0) = false := by simp; omega
  have hn' : ¬ n = 0 := by omega
  go_enter Try.func10, Try.ntmps10
  go_wp2
  go_ret
  exact ⟨rfl, rfl⟩
end Go.Proofs.Ythikkajjnfeigaa
