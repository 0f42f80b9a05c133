/- Opening an argument that is a slice whose elements are rows of plain cells (arrays, structs). -/
import Derived.Test.YtbnpgecpanfpiaaO
import Derived.Deep.Slices
import Derived.ChangeSlices
import Derived.ChangeSame
namespace Go.Proofs.Ytbnpgecpanfpiaa
open Go.ChangeShapes Go.WideShapes Go.ChangeAt Go.RowKit Go.Deep
set_option linter.unusedVariables false
/-- A slice of n elements, each a row of cells of these kinds. -/
def GRow (ks : List (Option IntKind)) (W : World) (A : Option Addr) (n : Nat) : Prop :=
  0 < n → ∃ b off, A = some ⟨b, off, none⟩ ∧ ∀ i, i < n → ∃ cs, Leaves ks cs ∧ ∀ j, j < ks.length → W.cell? ⟨b, off + i * ks.length + j, none⟩ = cs[j]?
theorem leaves_len : ∀ (ks : List (Option IntKind)) (cs : List Value), Leaves ks cs → cs.length = ks.length
  | [], cs, h => by rw [show cs = [] from h]; rfl
  | k :: ks, cs, h => by
    obtain ⟨c, cs', rfl, _, hr⟩ := h
    simp [leaves_len ks cs' hr]
section
variable {H : Type} {enc : TypeId × Value → H} {P : Program}
theorem open_rows {W : World} {r : Reach} {base : Nat} {t e : TypeId} {v : Value} {d : DataW H} {p : List MemPlace} {ks : List (Option IntKind)} (ht : P.underlying t = some (.slice e)) (he : Opens P e ks) (hc : P.cellsOf e = ks.length) (hpos : 0 < ks.length) (hv : Value.okWide P W r base t v)
    (h : DataW.Trod enc P W 0 (fun _ => true) true t v d p) : ∃ (A : Option Addr) (n c : Nat), v = .slice A n c ∧ n ≤ c ∧ c ≤ maxLen ∧ GRow ks W A n := by
  obtain ⟨a0, len, cap, rfl⟩ := okWide_slice ht hv
  obtain ⟨fuel, hf⟩ := h
  rcases Go.Deep.open_slice ht hf with ⟨hcs, hx⟩ | ⟨a, len', cap', m, n, D, Pl, hcs, _, hl, hm, hmm, hx, hi⟩
  · simp [Value.cells] at hcs
    obtain ⟨rfl, rfl, rfl⟩ := hcs
    exact ⟨none, 0, 0, rfl, Nat.le_refl _, by unfold maxLen; omega, fun h => absurd h (by omega)⟩
  · simp [Value.cells] at hcs
    obtain ⟨rfl, rfl, rfl⟩ := hcs
    simp only [if_true] at hmm
    refine ⟨some a, len, cap, rfl, hl, hm, fun hlen => ?_⟩
    obtain ⟨b, off, spot⟩ := a
    have hrow : ∀ i, i < len → ∃ cs, Leaves ks cs ∧ ∀ j, j < ks.length → W.cell? ((⟨b, off, spot⟩ : Addr).add (i * ks.length) |>.add j) = cs[j]? := by
      intro i hil
      obtain ⟨cs', hcc, htr⟩ := hi i (by omega)
      have hL := he _ _ _ _ _ _ _ _ _ htr
      rw [hc] at hcc
      obtain ⟨_, hcl, hat⟩ := World.cells?_some hcc
      exact ⟨cs', hL, fun j hj => hat j hj⟩
    have hspot : spot = none := by
      obtain ⟨cs, hL, hcell⟩ := hrow 0 hlen
      have h1 := hcell 0 hpos
      have hl := leaves_len _ _ hL
      rw [List.getElem?_eq_getElem (by omega)] at h1
      simpa [Addr.add] using World.cell?_spot h1
    subst hspot
    have hadd : ∀ x i, (⟨b, x, none⟩ : Addr).add i = ⟨b, x + i, none⟩ := fun x i => by unfold Addr.add; split <;> simp_all
    refine ⟨b, off, rfl, fun i hil => ?_⟩
    obtain ⟨cs, hL, hcell⟩ := hrow i hil
    refine ⟨cs, hL, fun j hj => ?_⟩
    have h1 := hcell j hj
    rw [hadd, hadd] at h1
    exact h1
end
end Go.Proofs.Ytbnpgecpanfpiaa
