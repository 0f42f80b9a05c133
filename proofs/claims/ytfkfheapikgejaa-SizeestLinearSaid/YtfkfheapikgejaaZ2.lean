/- lz, walked: bytes in memory; matchLen, matchLength. -/
import Derived.WalkKit
import Derived.KernelRfl
import Derived.RowKit3
import Derived.Deep.LoopGhost
import Derived.Deep.QuietTactic
import Derived.BigQuiet
import Derived.WideLaws
import Derived.Laws.Rows
import Derived.Below
import Derived.Deep.Draws
import Derived.Outline
import Derived.LoopN
import Derived.Handy
import Derived.Laws.Externs
import Derived.Laws.BitsAllLaws
import Derived.Laws.BitsLemmas
import Derived.Deep.DeepCutAuto
import Derived.Deep.CutBlock
import Derived.Deep.RegionHeld3
import Derived.Test.YtfkfheapikgejaaZ1
import Derived.Test.YtfkfheapikgejaaB
import Derived.Test.YtfkfheapikgejaaProg
import Derived.Deep.QuietTactic
import Derived.BigQuiet
import Derived.IntWalk
namespace Go.Proofs.Ytfkfheapikgejaa
open Go.RowKit
set_option linter.unusedVariables false
set_option linter.unusedSimpArgs false
def bv (x : UInt8) : Value := .int .u8 (x.toNat : Int)
/-- The cells at this address hold these bytes. -/
def BRow (w : World) (ad : Option Addr) (l : List UInt8) : Prop := l ≠ [] → ∃ b o, ad = some ⟨b, o, none⟩ ∧ ∀ i, i < l.length → w.cell? ⟨b, o + i, none⟩ = some (.int .u8 ((gb l i).toNat : Int))
theorem BRow.below {w w' : World} {ad : Option Addr} {l : List UInt8} {B : Nat} (h : BRow w ad l) (hb : Below B w w') (hB : w.heap.size ≤ B) : BRow w' ad l := by
  intro hl
  obtain ⟨b, o, rfl, hc⟩ := h hl
  refine ⟨b, o, rfl, fun i hi => ?_⟩
  have hbl : b < w.heap.size := World.block_lt_of_cell? w _ (hc i hi)
  exact (hb.cell (p := ⟨b, o + i, none⟩) (by show b < B; omega)).trans (hc i hi)
theorem gb_drop (l : List UInt8) (k i : Nat) : gb (l.drop k) i = gb l (k + i) := by
  unfold gb
  rw [List.getD_eq_getElem?_getD, List.getD_eq_getElem?_getD, List.getElem?_drop]
theorem BRow.take {w : World} {ad : Option Addr} {l : List UInt8} (h : BRow w ad l) (n : Nat) : BRow w ad (l.take n) := by
  intro hl
  obtain ⟨b, o, rfl, hc⟩ := h (fun e => hl (by rw [e]; simp))
  refine ⟨b, o, rfl, fun i hi => ?_⟩
  simp only [List.length_take] at hi
  rw [hc i (by omega), gb_take (by omega)]
/-- 's[k:]' -/
theorem BRow.cut {w : World} {ad : Option Addr} {l : List UInt8} (h : BRow w ad l) {k c : Nat} (hk : k ≤ l.length) (hc : l.length ≤ c) : BRow w (if c = k then ad else ad.map (·.add k)) (l.drop k) := by
  intro hl
  have hlt : k < l.length := by
    rcases Nat.lt_or_ge k l.length with h1 | h1
    · exact h1
    · exact absurd (List.drop_eq_nil_of_le h1) hl
  obtain ⟨b, o, rfl, hx⟩ := h (fun e => by rw [e] at hlt; simp at hlt)
  refine ⟨b, o + k, ?_, fun i hi => ?_⟩
  · rw [if_neg (by omega)]
    by_cases h0 : k = 0
    · subst h0; rfl
    · simp [Addr.add, h0]
  · rw [List.length_drop] at hi
    rw [gb_drop, Nat.add_assoc]
    exact hx (k + i) (by omega)
theorem BRow.nil (w : World) (ad : Option Addr) : BRow w ad [] := fun h => absurd rfl h
set_option maxHeartbeats 2000000 in
theorem mlen_c {l : List UInt8} (ad : Option Addr) (n c : Nat) (a d m : Nat) (hn : Hid (n = l.length)) (ha : Hid (0 < m → a + m ≤ n ∧ 1 ≤ d ∧ d ≤ a)) (hlen : n ≤ 1000000) (ham : a + m ≤ 2000000) (hd : d ≤ 1000000) (w : World) (hrow : Hid (BRow w ad l)) :
    Calls Try.prog 26 #[.slice ad n c, .int .i64 a, .int .i64 d, .int .i64 m] w fun e w' => e = .returned (.int .i64 (mlen l a d m : Nat)) ∧ Below w.heap.size w w' := by
  go_enter Try.func26, Try.ntmps26
  go_wp2
  go_loopw [9] (fun v9 wr => ∃ k : Nat, k ≤ m ∧ v9 = .int .i64 k ∧ Hid (∀ j, j < k → gb l (a + j) = gb l (a + j - d)) ∧ Hid (Below w.heap.size w wr)) (fun v9 _ => m - (intOf v9).toNat)
  case atStart => exact ⟨0, Nat.zero_le _, rfl, hide (fun j hj => by omega), hide (Below.refl _ _)⟩
  case round =>
    obtain ⟨k, hk, rfl, HM, HB⟩ := hrel
    by_cases hlt : k < m
    · have tk : decide ((k : Int) < (m : Int)) = true := decide_eq_true (by omega)
      obtain ⟨h1, h2, h3⟩ := ha.out (by omega)
      have hln := hn.out
      obtain ⟨b, o, rfl, hcell⟩ := hrow.out (by intro e; rw [e] at hln; simp at hln; omega)
      have hx := hcell (a + k) (by omega)
      have hy := hcell (a + k - d) (by omega)
      have hbl := World.block_lt_of_cell? w _ hx
      replace hx := (HB.out.cell (p := ⟨b, o + (a + k), none⟩) hbl).trans hx
      replace hy := (HB.out.cell (p := ⟨b, o + (a + k - d), none⟩) hbl).trans hy
      clear hcell hbl
      obtain ⟨x, ex⟩ : ∃ x : Nat, (gb l (a + k)).toNat = x := ⟨_, rfl⟩
      obtain ⟨y, ey⟩ : ∃ y : Nat, (gb l (a + k - d)).toNat = y := ⟨_, rfl⟩
      rw [ex] at hx
      rw [ey] at hy
      have w1 : IntKind.i64.wrap ((a : Int) + (k : Int)) = (a : Int) + (k : Int) := IntWalk.i64_in _ (by omega)
      have w2 : IntKind.i64.wrap ((a : Int) + (k : Int) - (d : Int)) = (a : Int) + (k : Int) - (d : Int) := IntWalk.i64_in _ (by omega)
      have p1 : 0 ≤ (a : Int) + (k : Int) := by omega
      have p2 : (a : Int) + (k : Int) < (n : Int) := by omega
      have p3 : ((a : Int) + (k : Int)).toNat = a + k := by omega
      have q1 : 0 ≤ (a : Int) + (k : Int) - (d : Int) := by omega
      have q2 : (a : Int) + (k : Int) - (d : Int) < (n : Int) := by omega
      have q3 : ((a : Int) + (k : Int) - (d : Int)).toNat = a + k - d := by omega
      by_cases hxy : x = y
      · have HE := hide (show gb l (a + k) = gb l (a + k - d) from UInt8.toNat_inj.1 (by rw [ex, ey, hxy]))
        subst hxy
        clear ex ey hln h1 h2 h3
        go_wp2_with fail
        go_quiet (fail)
        go_wp2
        go_roundw
        case rel =>
          have hb := HB.out
          refine ⟨k + 1, by omega, by go_num, hide (fun j hj => ?_), hide (by (repeat' (first | (with_reducible exact Below.refl _ _) | (with_reducible assumption) | (with_reducible refine Below.alloc ?_ ?_ _) | (with_reducible refine Below.drew ?_) | (with_reducible refine below_drewN ?_ _) | (with_reducible refine Below.setCell ?_ ?_ _) | (with_reducible refine below_step (by with_reducible assumption) ?_ ?_) | (first | (with_reducible exact Nat.le_refl _) | (with_reducible assumption) | omega | (simp only [World.size_alloc, World.size_setCell, World.size_drew, size_drewN]; omega) | (simp; omega) | (simp; done)))))⟩
          rcases Nat.lt_or_ge j k with h | h
          · exact HM.out j h
          · obtain rfl : j = k := by omega
            exact HE.out
        case measure => simp [intOf]; omega
      · have HE := hide (show gb l (a + k) ≠ gb l (a + k - d) from fun e => hxy (by rw [← ex, ← ey, e]))
        have t : (((x : Nat) : Int) == ((y : Nat) : Int)) = false := beq_eq_false_iff_ne.2 (by omega)
        have t' : ((x : Nat) == y) = false := beq_eq_false_iff_ne.2 hxy
        clear ex ey hln h1 h2 h3 hxy
        go_wp2_with fail
        go_quiet (fail)
        go_wp2
        go_ret
        have hb := HB.out
        exact ⟨ret_int (by rw [mlen_char (by omega) HM.out (.inr HE.out)]), (by (repeat' (first | (with_reducible exact Below.refl _ _) | (with_reducible assumption) | (with_reducible refine Below.alloc ?_ ?_ _) | (with_reducible refine Below.drew ?_) | (with_reducible refine below_drewN ?_ _) | (with_reducible refine Below.setCell ?_ ?_ _) | (with_reducible refine below_step (by with_reducible assumption) ?_ ?_) | (first | (with_reducible exact Nat.le_refl _) | (with_reducible assumption) | omega | (simp only [World.size_alloc, World.size_setCell, World.size_drew, size_drewN]; omega) | (simp; omega) | (simp; done)))))⟩
    · obtain rfl : k = m := by omega
      have tk : decide ((k : Int) < (k : Int)) = false := decide_eq_false (by omega)
      go_wp2_with fail
      go_quiet (fail)
      go_wp2
      go_ret
      have hb := HB.out
      exact ⟨ret_int (by rw [mlen_char (by omega) HM.out (.inl rfl)]), (by (repeat' (first | (with_reducible exact Below.refl _ _) | (with_reducible assumption) | (with_reducible refine Below.alloc ?_ ?_ _) | (with_reducible refine Below.drew ?_) | (with_reducible refine below_drewN ?_ _) | (with_reducible refine Below.setCell ?_ ?_ _) | (with_reducible refine below_step (by with_reducible assumption) ?_ ?_) | (first | (with_reducible exact Nat.le_refl _) | (with_reducible assumption) | omega | (simp only [World.size_alloc, World.size_setCell, World.size_drew, size_drewN]; omega) | (simp; omega) | (simp; done)))))⟩
end Go.Proofs.Ytfkfheapikgejaa
