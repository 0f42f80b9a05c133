/- slices.Reverse on bytes, walked. -/
import Derived.WalkKit
import Derived.KernelRfl
import Derived.RowKit3
import Derived.Deep.LoopGhost
import Derived.Deep.QuietTactic
import Derived.BigQuiet
import Derived.WideLaws
import Derived.Laws.Rows
import Derived.Below
import Derived.Deep.Draws
import Derived.Outline
import Derived.LoopN
import Derived.Handy
import Derived.Laws.Externs
import Derived.Laws.BitsAllLaws
import Derived.Laws.BitsLemmas
import Derived.Deep.DeepCutAuto
import Derived.Deep.CutBlock
import Derived.Deep.RegionHeld3
import Derived.RegionTactic
import Derived.BigRegion
import Derived.ChangeAlike
import Derived.Test.YthikkajjnfeigaaN
import Derived.Test.YthikkajjnfeigaaProg
import Derived.Test.YthikkajjnfeigaaB
namespace Go.Proofs.Ythikkajjnfeigaa
open Go.RowKit
set_option linter.unusedVariables false
set_option linter.unusedSimpArgs false
/-- the cells of block b from o on hold these bytes, and may be written -/
def Cells8 (w : World) (b o n : Nat) (f : Nat → Int) : Prop := ∀ k, k < n → w.cell? ⟨b, o + k, none⟩ = some (.int .u8 (f k)) ∧ w.frozen? ⟨b, o + k, none⟩ = false
def revAt (f : Nat → Int) (n K k : Nat) : Int := if k < K ∨ n ≤ k + K then f (n - 1 - k) else f k
theorem revAt_step {f : Nat → Int} {n K k : Nat} (h : 2 * K + 1 < n) (hk : k < n) : revAt f n (K + 1) k = if k = K then f (n - 1 - K) else if k = n - 1 - K then f K else revAt f n K k := by
  unfold revAt
  by_cases h1 : k = K
  · rw [if_pos h1, if_pos (by omega), h1]
  · rw [if_neg h1]
    by_cases h2 : k = n - 1 - K
    · rw [if_pos h2, if_pos (by omega), h2]
      congr 1
      omega
    · rw [if_neg h2]
      by_cases h3 : k < K ∨ n ≤ k + K
      · rw [if_pos h3, if_pos (by omega)]
      · rw [if_neg h3, if_neg (by omega)]
theorem swap8 {wr : World} {b o n K : Nat} {f : Nat → Int} (h : 2 * K + 1 < n) (hc : Cells8 wr b o n (revAt f n K)) {p q : Nat} (hp : p ≠ q) (hpq : p = K ∧ q = n - 1 - K ∨ p = n - 1 - K ∧ q = K) :
    Cells8 ((wr.setCell ⟨b, o + p, none⟩ (.int .u8 (f q))).setCell ⟨b, o + q, none⟩ (.int .u8 (f p))) b o n (revAt f n (K + 1)) := by
  intro k hk
  obtain ⟨c1, c2⟩ := hc k hk
  refine ⟨?_, by rw [World.frozen?_setCell, World.frozen?_setCell, c2]⟩
  rw [revAt_step h hk]
  have ne : ∀ x y : Nat, x ≠ y → (⟨b, o + x, none⟩ : Addr) ≠ ⟨b, o + y, none⟩ := fun x y hxy e => hxy (by have := congrArg Addr.off e; simpa using this)
  by_cases e1 : k = q
  · subst e1
    rw [World.cell?_setCell_same _ _ _ (u := .int .u8 (revAt f n K k)) (by rw [World.cell?_setCell_other _ _ _ _ (ne _ _ hp)]; exact c1)]
    rcases hpq with ⟨rfl, rfl⟩ | ⟨rfl, rfl⟩
    · rw [if_neg (by omega), if_pos rfl]
    · rw [if_pos rfl]
  · rw [World.cell?_setCell_other _ _ _ _ (ne _ _ (fun e => e1 e.symm))]
    by_cases e2 : k = p
    · subst e2
      rw [World.cell?_setCell_same _ _ _ c1]
      rcases hpq with ⟨rfl, rfl⟩ | ⟨rfl, rfl⟩
      · rw [if_pos rfl]
      · rw [if_neg (by omega), if_pos rfl]
    · rw [World.cell?_setCell_other _ _ _ _ (ne _ _ (fun e => e2 e.symm)), c1]
      rcases hpq with ⟨rfl, rfl⟩ | ⟨rfl, rfl⟩
      · rw [if_neg e2, if_neg e1]
      · rw [if_neg e1, if_neg e2]
set_option maxHeartbeats 4000000 in
theorem rev_c (b o n c : Nat) (f : Nat → Int) (hn : n ≤ 1000000) (hnc : n ≤ c) (w : World) (B : Nat) (hB : B ≤ b) (hc : Hid (Cells8 w b o n f)) :
    Calls Try.prog 34 #[.slice (some ⟨b, o, none⟩) n c] w fun e w' => e = .returned (.tuple #[]) ∧ Below B w w' ∧ Cells8 w' b o n (fun k => f (n - 1 - k)) := by
  go_enter Try.func34, Try.ntmps34
  go_wp2_with fail
  go_loopw [2, 3] (fun v2 v3 wr => ∃ K : Nat, 2 * K ≤ n + 1 ∧ v2 = .int .i64 K ∧ v3 = .int .i64 ((n : Int) - 1 - K) ∧ Hid (Below B w wr) ∧ Hid (Cells8 wr b o n (revAt f n K))) (fun v2 v3 _ => (intOf v3 - intOf v2 + 2).toNat)
  case atStart => exact ⟨0, by omega, rfl, by simp, hide (Below.refl _ _), hide (fun k hk => by
    have h := hc.out k hk
    rw [show revAt f n 0 k = f k from if_neg (by omega)]
    exact h)⟩
  case round =>
    obtain ⟨K, hK, rfl, rfl, HB, HC⟩ := hrel
    rcases Nat.lt_or_ge (2 * K + 1) n with hlt | hge
    · have c1 := HC.out K (by omega)
      have c2 := HC.out (n - 1 - K) (by omega)
      have e1 : revAt f n K K = f K := if_neg (by omega)
      have e2 : revAt f n K (n - 1 - K) = f (n - 1 - K) := if_neg (by omega)
      rw [e1] at c1
      rw [e2] at c2
      obtain ⟨J, hJ⟩ : ∃ J, n - 1 - K = J := ⟨_, rfl⟩
      have ej : (n : Int) - 1 - K = J := by omega
      rw [hJ] at c2
      rw [ej]
      obtain ⟨x, hx⟩ : ∃ x, f K = x := ⟨_, rfl⟩
      obtain ⟨y, hy⟩ : ∃ x, f J = x := ⟨_, rfl⟩
      rw [hx] at c1
      rw [hy] at c2
      obtain ⟨c1, d1⟩ := c1
      obtain ⟨c2, d2⟩ := c2
      have i1 : (K : Int) < (J : Int) := by omega
      have i2 : (J : Int) < (n : Int) := by omega
      have i3 : (n : Int) ≤ (c : Int) := by omega
      have HJ := hide hJ
      have Hx := hide hx
      have Hy := hide hy
      clear hJ hx hy e1 e2 ej hK hlt
      go_upto_region 3 with fail
      go_region
      go_wp2_with fail
      go_roundw
      case rel =>
        have hj := HJ.out
        refine ⟨K + 1, by omega, by go_num, ?_, hide (((HB.out.setCell hB _).setCell hB _).drew), hide ?_⟩
        · congr 1
          omega
        · have h := swap8 (p := K) (q := J) (by omega) HC.out (by omega) (.inl ⟨rfl, by omega⟩)
          rw [Hx.out, Hy.out] at h
          exact h
      case measure => simp [intOf]; omega
    · have hi : (n : Int) - 1 - K ≤ K := by omega
      have hf := hide (show Cells8 wr b o n (fun k => f (n - 1 - k)) from fun k hk => by
        have h := HC.out k hk
        have e : revAt f n K k = f (n - 1 - k) := by
          unfold revAt
          split
          · rfl
          · congr 1
            omega
        rw [e] at h
        exact h)
      clear HC
      go_wp2_with fail
      go_end0
      exact ⟨rfl, HB.out, hf.out⟩
end Go.Proofs.Ythikkajjnfeigaa
