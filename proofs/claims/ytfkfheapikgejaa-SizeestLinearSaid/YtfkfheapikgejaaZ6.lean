/- lz, walked: EqualBytes. -/
import Derived.WalkKit
import Derived.KernelRfl
import Derived.RowKit3
import Derived.Deep.LoopGhost
import Derived.Deep.QuietTactic
import Derived.BigQuiet
import Derived.WideLaws
import Derived.Laws.Rows
import Derived.Below
import Derived.Deep.Draws
import Derived.Outline
import Derived.LoopN
import Derived.Handy
import Derived.Laws.Externs
import Derived.Laws.BitsAllLaws
import Derived.Laws.BitsLemmas
import Derived.Deep.DeepCutAuto
import Derived.Deep.CutBlock
import Derived.Deep.RegionHeld3
import Derived.Test.YtfkfheapikgejaaZ5
import Derived.Laws.BytesArg
import Derived.Laws.IdiomStrings
namespace Go.Proofs.Ytfkfheapikgejaa
open Go.RowKit
set_option linter.unusedVariables false
set_option linter.unusedSimpArgs false
theorem conv_row {w : World} {ad : Option Addr} {n c : Nat} {l : List UInt8} (hn : n = l.length) (hrow : BRow w ad l) : (convert 22 9 (.slice ad n c)).run Try.prog w = .ok (.string ⟨l.toArray⟩) w := by
  subst hn
  by_cases hl : l = []
  · subst hl
    rcases ad with _ | ad
    · exact run_convert_bytes_nil (P := Try.prog) w 22 5 Try.underlying22 Try.underlying5 _ _ 9 Try.underlying9
    · exact run_convert_bytes_back (P := Try.prog) w 22 9 5 ad c [] Try.underlying22 Try.underlying5 Try.underlying9 (fun j hj => by simp at hj)
  · obtain ⟨b, o, rfl, hc⟩ := hrow hl
    refine run_convert_bytes_back (P := Try.prog) w 22 9 5 _ c l Try.underlying22 Try.underlying5 Try.underlying9 (fun j hj => ?_)
    have hadd : (⟨b, o, none⟩ : Addr).add j = ⟨b, o + j, none⟩ := by unfold Addr.add; split <;> simp_all
    rw [hadd, hc j hj, gb, List.getD_eq_getElem?_getD, List.getElem?_eq_getElem hj]
    rfl
theorem Owns.shape {w : World} {B : Nat} {v : Value} {o : List UInt8} (h : Owns w B v o) : ∃ A c, v = .slice A o.length c ∧ o.length ≤ c ∧ BRow w A o := by
  have h' : w.ownsRow B 5 1 v o.length (o.map bv) := h
  obtain ⟨hx, ⟨e1, e2⟩ | ⟨g, cap, cur, rfl, hg, hh, hc, hm, hs, ht⟩⟩ := h'
  · have : o = [] := List.eq_nil_of_length_eq_zero e2
    subst this
    exact ⟨none, 0, e1, Nat.le_refl _, fun hne => absurd rfl hne⟩
  · refine ⟨_, cap, rfl, hc, fun hne => ⟨g, 0, rfl, fun i hi => ?_⟩⟩
    have h2 : w.ownsRow B 5 1 (.slice (some ⟨g, 0, none⟩) o.length cap) o.length (o.map bv) := h
    rw [Nat.zero_add, h2.cellAt i (by omega), List.getElem?_map, List.getElem?_eq_getElem hi, gb, List.getD_eq_getElem?_getD, List.getElem?_eq_getElem hi]
    rfl
end Go.Proofs.Ytfkfheapikgejaa
