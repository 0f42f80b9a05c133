/- Opening an argument that is a slice of bytes, or of numbers. -/
import Derived.Test.YthikkajjnfeigaaO
import Derived.Test.YthikkajjnfeigaaB
import Derived.ChangeSlices
import Derived.ChangeSame
import Derived.JoinedOf
import Derived.JoinedAt
namespace Go.Proofs.Ythikkajjnfeigaa
open Go.ChangeShapes Go.WideShapes Go.ChangeAt Go.RowKit
set_option linter.unusedVariables false
set_option linter.unusedSimpArgs false
def gb (l : List UInt8) (i : Nat) : UInt8 := l.getD i 0
def BRow (w : World) (ad : Option Addr) (l : List UInt8) : Prop := l ≠ [] → ∃ b o, ad = some ⟨b, o, none⟩ ∧ ∀ i, i < l.length → w.cell? ⟨b, o + i, none⟩ = some (.int .u8 ((gb l i).toNat : Int))
theorem BRow.below {w w' : World} {ad : Option Addr} {l : List UInt8} {B : Nat} (h : BRow w ad l) (hb : Below B w w') (hB : w.heap.size ≤ B) : BRow w' ad l := by
  intro hl
  obtain ⟨b, o, rfl, hc⟩ := h hl
  refine ⟨b, o, rfl, fun i hi => ?_⟩
  have hbl : b < w.heap.size := World.block_lt_of_cell? w _ (hc i hi)
  exact (hb.cell (p := ⟨b, o + i, none⟩) (by show b < B; omega)).trans (hc i hi)
def NRow (w : World) (ad : Option Addr) (n : Nat) : Prop := 0 < n → ∃ b o, ad = some ⟨b, o, none⟩ ∧ ∀ i, i < n → ∃ x : Int, w.cell? ⟨b, o + i, none⟩ = some (.int .i64 x)
theorem NRow.below {w w' : World} {ad : Option Addr} {n : Nat} {B : Nat} (h : NRow w ad n) (hb : Below B w w') (hB : w.heap.size ≤ B) : NRow w' ad n := by
  intro hl
  obtain ⟨b, o, rfl, hc⟩ := h hl
  refine ⟨b, o, rfl, fun i hi => ?_⟩
  obtain ⟨x, hx⟩ := hc i hi
  have hbl : b < w.heap.size := World.block_lt_of_cell? w _ hx
  exact ⟨x, (hb.cell (p := ⟨b, o + i, none⟩) (by show b < B; omega)).trans hx⟩
section
variable {H : Type} {enc : TypeId × Value → H} {P : Program}
theorem u8_wf {z : Int} (h : (Lit.int .u8 z).wf = true) : 0 ≤ z ∧ z < 256 := by
  simp [Lit.wf, IntKind.min, IntKind.max] at h
  simp [IntKind.bits, IntKind.signed] at h
  omega
theorem toNat_of {n : Nat} (h : n < 256) : (UInt8.ofNat n).toNat = n := by
  rw [UInt8.toNat_ofNat']; omega
theorem open_bytes {W : World} {r : Reach} {base : Nat} {t e : TypeId} {v : Value} {d : DataW H} {p : List MemPlace} (ht : P.underlying t = some (.slice e)) (he : P.underlying e = some (.int .u8)) (hc : P.cellsOf e = 1) (hv : Value.okWide P W r base t v)
    (h : DataW.Trod enc P W 0 (fun _ => true) true t v d p) : ∃ (A : Option Addr) (n c : Nat) (l : List UInt8), v = .slice A n c ∧ n = l.length ∧ n ≤ c ∧ c ≤ maxLen ∧ BRow W A l := by
  obtain ⟨a0, len, cap, rfl⟩ := okWide_slice ht hv
  obtain ⟨fuel, hf⟩ := h
  rcases open_ints ht he hc hf with ⟨hcs, hx⟩ | ⟨a, len', cap', zs, hcs, _, hl, hm, hz, hx, hcell, hwz⟩
  · simp [Value.cells] at hcs
    obtain ⟨rfl, rfl, rfl⟩ := hcs
    exact ⟨none, 0, 0, [], rfl, rfl, Nat.le_refl _, by unfold maxLen; omega, fun h => absurd rfl h⟩
  · simp [Value.cells] at hcs
    obtain ⟨rfl, rfl, rfl⟩ := hcs
    simp only [if_true] at hz
    have hlen : ((zs.take len).map fun z => UInt8.ofNat z.toNat).length = len := by rw [List.length_map, List.length_take]; omega
    refine ⟨some a, len, cap, (zs.take len).map fun z => UInt8.ofNat z.toNat, rfl, hlen.symm, hl, hm, fun hne => ?_⟩
    have hpos : 0 < len := by rw [← hlen]; exact List.length_pos_iff.2 hne
    obtain ⟨b, off, spot⟩ := a
    have hspot : spot = none := by simpa [Addr.add] using World.cell?_spot (hcell 0 (by omega))
    subst hspot
    refine ⟨b, off, rfl, fun i hi => ?_⟩
    rw [hlen] at hi
    have hadd : (⟨b, off, none⟩ : Addr).add i = ⟨b, off + i, none⟩ := by unfold Addr.add; split <;> simp_all
    have h1 := hcell i (by omega)
    rw [hadd] at h1
    rw [h1]
    have h2 := u8_wf (hwz (zs.getD i 0) (by rw [List.getD_eq_getElem?_getD, List.getElem?_eq_getElem (by omega)]; exact List.getElem_mem _))
    have e : gb ((zs.take len).map fun z => UInt8.ofNat z.toNat) i = UInt8.ofNat (zs.getD i 0).toNat := by
      unfold gb
      rw [List.getD_eq_getElem?_getD, List.getElem?_map, List.getElem?_take, if_pos hi, List.getElem?_eq_getElem (by omega), List.getD_eq_getElem?_getD, List.getElem?_eq_getElem (by omega)]
      rfl
    rw [e, toNat_of (by omega), Int.toNat_of_nonneg h2.1]
theorem open_nums {W : World} {r : Reach} {base : Nat} {t e : TypeId} {v : Value} {d : DataW H} {p : List MemPlace} (ht : P.underlying t = some (.slice e)) (he : P.underlying e = some (.int .i64)) (hc : P.cellsOf e = 1) (hv : Value.okWide P W r base t v)
    (h : DataW.Trod enc P W 0 (fun _ => true) true t v d p) : ∃ (A : Option Addr) (n c : Nat), v = .slice A n c ∧ n ≤ c ∧ c ≤ maxLen ∧ NRow W A n := by
  obtain ⟨a0, len, cap, rfl⟩ := okWide_slice ht hv
  obtain ⟨fuel, hf⟩ := h
  rcases open_ints ht he hc hf with ⟨hcs, hx⟩ | ⟨a, len', cap', zs, hcs, _, hl, hm, hz, hx, hcell, hwz⟩
  · simp [Value.cells] at hcs
    obtain ⟨rfl, rfl, rfl⟩ := hcs
    exact ⟨none, 0, 0, rfl, Nat.le_refl _, by unfold maxLen; omega, fun h => absurd h (by omega)⟩
  · simp [Value.cells] at hcs
    obtain ⟨rfl, rfl, rfl⟩ := hcs
    simp only [if_true] at hz
    refine ⟨some a, len, cap, rfl, hl, hm, fun hpos => ?_⟩
    obtain ⟨b, off, spot⟩ := a
    have hspot : spot = none := by simpa [Addr.add] using World.cell?_spot (hcell 0 (by omega))
    subst hspot
    refine ⟨b, off, rfl, fun i hi => ⟨zs.getD i 0, ?_⟩⟩
    have hadd : (⟨b, off, none⟩ : Addr).add i = ⟨b, off + i, none⟩ := by unfold Addr.add; split <;> simp_all
    have h1 := hcell i (by omega)
    rw [hadd] at h1
    exact h1
end
end Go.Proofs.Ythikkajjnfeigaa
