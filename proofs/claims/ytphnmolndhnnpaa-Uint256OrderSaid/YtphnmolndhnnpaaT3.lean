/- chapter 1: the law Uint256Order from its leaves. -/
import Derived.WalkKit
import Derived.KernelRfl
import Derived.RowKit3
import Derived.Deep.LoopGhost
import Derived.Deep.QuietTactic
import Derived.BigQuiet
import Derived.WideLaws
import Derived.Laws.Rows
import Derived.Below
import Derived.Deep.Draws
import Derived.Outline
import Derived.LoopN
import Derived.Handy
import Derived.Laws.Externs
import Derived.Laws.BitsAllLaws
import Derived.Laws.BitsLemmas
import Derived.Deep.DeepCutAuto
import Derived.Deep.CutBlock
import Derived.Deep.RegionHeld3
import Derived.Test.YtphnmolndhnnpaaT2
import Derived.Test.YtphnmolndhnnpaaOW
import Derived.Test.YtphnmolndhnnpaaW1
namespace Go.Proofs.Ytphnmolndhnnpaa
open Go.RowKit
set_option linter.unusedVariables false
theorem grow_u256 {W : World} {A : Option Addr} {n : Nat} (h : GRow [some .u64, some .u64, some .u64, some .u64] W A n) : ∃ L : List Nat, L.length = n ∧ (∀ x ∈ L, x < M256) ∧ ∀ i, i < L.length → ∃ b o, A = some ⟨b, o, none⟩ ∧ ∀ j, j < 4 → W.cell? ⟨b, o + i * 4 + j, none⟩ = some (.int .u64 (lim (L.getD i 0) j)) := by
  rcases Nat.eq_zero_or_pos n with rfl | hn
  · exact ⟨[], rfl, by simp, fun i hi => absurd hi (by simp)⟩
  · obtain ⟨b, o, rfl, hrow⟩ := h hn
    have hX : ∀ i : Nat, ∃ X : Nat, i < n → X < M256 ∧ ∀ j, j < 4 → W.cell? ⟨b, o + i * 4 + j, none⟩ = some (.int .u64 (lim X j)) := by
      intro i
      by_cases hi : i < n
      · obtain ⟨cs, hL, hcell⟩ := hrow i hi
        obtain ⟨x0, r0, rfl, w0, g0⟩ := leaf_int hL
        obtain ⟨x1, r1, rfl, w1, g1⟩ := leaf_int g0
        obtain ⟨x2, r2, rfl, w2, g2⟩ := leaf_int g1
        obtain ⟨x3, r3, rfl, w3, g3⟩ := leaf_int g2
        obtain rfl := g3
        obtain ⟨X, hXl, rfl, rfl, rfl, rfl⟩ := isU_wf w0 w1 w2 w3
        refine ⟨X, fun _ => ⟨hXl, fun j hj => (hcell j hj).trans ?_⟩⟩
        obtain rfl | rfl | rfl | rfl : j = 0 ∨ j = 1 ∨ j = 2 ∨ j = 3 := by omega
        all_goals rfl
      · exact ⟨0, fun h => absurd h hi⟩
    refine ⟨(List.range n).map fun i => Classical.choose (hX i), by simp, ?_, ?_⟩
    · intro x hx
      obtain ⟨i, hi, rfl⟩ := List.mem_map.mp hx
      exact (Classical.choose_spec (hX i) (List.mem_range.mp hi)).1
    · intro i hi
      have hi' : i < n := by simpa using hi
      refine ⟨b, o, rfl, fun j hj => ?_⟩
      rw [List.getD_eq_getElem?_getD, List.getElem?_eq_getElem hi]
      simp only [List.getElem_map, List.getElem_range, Option.getD_some]
      exact (Classical.choose_spec (hX i) hi').2 j hj
theorem Uint256Order_walk (a0 a1 a2 a3 b0 b1 b2 b3 n : Int) (ad : Option Addr) (k c : Nat)
    (h0 : (Lit.int .u64 a0).wf = true) (h1 : (Lit.int .u64 a1).wf = true) (h2 : (Lit.int .u64 a2).wf = true) (h3 : (Lit.int .u64 a3).wf = true)
    (g0 : (Lit.int .u64 b0).wf = true) (g1 : (Lit.int .u64 b1).wf = true) (g2 : (Lit.int .u64 b2).wf = true) (g3 : (Lit.int .u64 b3).wf = true)
    (hn : (Lit.int .u64 n).wf = true) (hc : k ≤ c) (hm : c ≤ Go.maxLen) (w : World) (hr : GRow [some .u64, some .u64, some .u64, some .u64] w ad k) :
    Calls Try.prog 3 #[.agg #[.int .u64 a0, .int .u64 a1, .int .u64 a2, .int .u64 a3], .agg #[.int .u64 b0, .int .u64 b1, .int .u64 b2, .int .u64 b3], .int .u64 n, .slice ad k c] w fun e w' => e = .returned (.bool true) ∧ Below w.heap.size w w' := by
  obtain ⟨A, hA, rfl, rfl, rfl, rfl⟩ := isU_wf h0 h1 h2 h3
  obtain ⟨B, hB, rfl, rfl, rfl, rfl⟩ := isU_wf g0 g1 g2 g3
  obtain ⟨L, rfl, hL, hrow⟩ := grow_u256 hr
  obtain ⟨n0, n1⟩ := bounds_u64 hn
  exact Order_in hA hB (by omega) (by omega) ad L hL c hc (by unfold Go.maxLen at hm; omega) w hrow
end Go.Proofs.Ytphnmolndhnnpaa
