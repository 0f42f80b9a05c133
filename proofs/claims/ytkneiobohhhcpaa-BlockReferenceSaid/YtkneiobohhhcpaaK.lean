/- Package backlog, walked. -/
import Derived.WalkKit
import Derived.KernelRfl
import Derived.RowKit3
import Derived.Deep.LoopGhost
import Derived.Deep.QuietTactic
import Derived.BigQuiet
import Derived.WideLaws
import Derived.Laws.Rows
import Derived.Below
import Derived.Deep.Draws
import Derived.Outline
import Derived.LoopN
import Derived.Handy
import Derived.Laws.Externs
import Derived.Laws.BitsAllLaws
import Derived.Laws.BitsLemmas
import Derived.Deep.DeepCutAuto
import Derived.Deep.CutBlock
import Derived.Deep.RegionHeld3
import Derived.Test.YtkneiobohhhcpaaProg
import Derived.Test.YtkneiobohhhcpaaB
import Derived.Test.YtkneiobohhhcpaaS
namespace Go.Proofs.Ytkneiobohhhcpaa
open Go.RowKit
set_option linter.unusedVariables false
set_option linter.unusedSimpArgs false
/-- What backlog.Add and backlog.Drain answer. -/
def badd (b g : Int) : Int := if b + g < 18446744073709551616 then b + g else 18446744073709551615
def drn (b s t : Int) : Int := if b < s * t then 0 else b - s * t
theorem badd_rg {b g : Int} (hb : 0 ≤ b) (hg : 0 ≤ g) : 0 ≤ badd b g ∧ badd b g < 18446744073709551616 := by unfold badd; split <;> omega
theorem drn_rg {b s t : Int} (hb : 0 ≤ b) (hb' : b < 18446744073709551616) (hs : 0 ≤ s) (ht : 0 ≤ t) : 0 ≤ drn b s t ∧ drn b s t ≤ b := by
  have := Int.mul_nonneg hs ht
  unfold drn; split <;> omega
theorem drn_c {b s t : Int} (hb : 0 ≤ b) (hb' : b < 18446744073709551616) (hs : 0 ≤ s) (hs' : s < 18446744073709551616) (ht : 0 ≤ t) (ht' : t < 18446744073709551616) (w : World) :
    Calls Try.prog 45 #[.int .u64 b, .int .u64 s, .int .u64 t] w fun e w' => e = .returned (.int .u64 (drn b s t)) ∧ w = w' := by
  have hm : 0 ≤ s * t := Int.mul_nonneg hs ht
  obtain ⟨hi, hhi⟩ : ∃ x : Int, x = s * t / 18446744073709551616 := ⟨_, rfl⟩
  obtain ⟨lo, hlo⟩ : ∃ x : Int, x = s * t % 18446744073709551616 := ⟨_, rfl⟩
  have C := mul64_c hs hs' ht ht'
  rw [← hhi, ← hlo] at C
  have r0 : 0 ≤ lo := by omega
  have r1 : lo < 18446744073709551616 := by omega
  have e : s * t = 18446744073709551616 * hi + lo := by omega
  have D : drn b s t = if b < 18446744073709551616 * hi + lo then 0 else b - (18446744073709551616 * hi + lo) := by unfold drn; rw [e]
  have r2 : 0 ≤ hi := by omega
  rw [D]
  have HC := hide C
  clear C D e hhi hlo hm
  go_enter Try.func45, Try.ntmps45
  go_wp2_with (go_at_call 28; refine (HC.out _).mono ?_; rintro e w1 ⟨rfl, rfl⟩)
  all_goals go_ret
  all_goals refine ⟨ret_int ?_, rfl⟩
  all_goals (first | rfl | omega | (exfalso; omega))
theorem exc_c {b s t : Int} (hb : 0 ≤ b) (hb' : b < 18446744073709551616) (hs : 0 ≤ s) (hs' : s < 18446744073709551616) (ht : 0 ≤ t) (ht' : t < 18446744073709551616) (w : World) :
    Calls Try.prog 29 #[.int .u64 b, .int .u64 s, .int .u64 t] w fun e w' => e = .returned (.int .u64 (drn b s t)) ∧ w = w' := by
  go_enter Try.func29, Try.ntmps29
  go_wp2_with (go_at_call 45; refine (drn_c hb hb' hs hs' ht ht' _).mono ?_; rintro e w1 ⟨rfl, rfl⟩)
  go_ret
  exact ⟨rfl, rfl⟩
end Go.Proofs.Ytkneiobohhhcpaa
