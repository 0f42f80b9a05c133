/- pontageref13.Excess, pontageref1.Min. -/
import Derived.WalkKit
import Derived.KernelRfl
import Derived.RowKit3
import Derived.Deep.LoopGhost
import Derived.Deep.QuietTactic
import Derived.BigQuiet
import Derived.WideLaws
import Derived.Laws.Rows
import Derived.Below
import Derived.Deep.Draws
import Derived.Outline
import Derived.LoopN
import Derived.Handy
import Derived.Laws.Externs
import Derived.Laws.BitsAllLaws
import Derived.Laws.BitsLemmas
import Derived.Deep.DeepCutAuto
import Derived.Deep.CutBlock
import Derived.Deep.RegionHeld3
import Derived.Test.YtkneiobohhhcpaaK
import Derived.Test.YtkneiobohhhcpaaR18
namespace Go.Proofs.Ytkneiobohhhcpaa
open Go.RowKit
set_option linter.unusedVariables false
set_option linter.unusedSimpArgs false
set_option maxHeartbeats 4000000 in
theorem rest_c {b s t : Int} (hb : 0 ≤ b) (hb' : b < 18446744073709551616) (hs : 0 ≤ s) (hs' : s < 18446744073709551616) (ht : 0 ≤ t) (ht' : t < 18446744073709551616) (w : World) :
    Calls Try.prog 49 #[.int .u64 b, .int .u64 s, .int .u64 t] w fun e w' => e = .returned (.int .u64 (drn b s t)) ∧ Below w.heap.size w w' := by
  have F1 := hide (fun w => from64_c hb hb' w)
  have F2 := hide (fun w => from64_c hs hs' w)
  have F3 := hide (fun w => from64_c ht ht' w)
  have hm : 0 ≤ s * t := Int.mul_nonneg hs ht
  have hmn : ((s.toNat * t.toNat : Nat) : Int) = s * t := by rw [Int.natCast_mul, Int.toNat_of_nonneg hs, Int.toNat_of_nonneg ht]
  have hix := idx0
  by_cases hle : b ≤ s * t
  · have e : drn b s t = 0 := by unfold drn; split <;> omega
    have hc : cmpV b.toNat (s.toNat * t.toNat) ≤ 0 := by
      rw [cmpV]
      split
      · decide
      · rw [if_neg (by omega)]; decide
    obtain ⟨z, hz⟩ : ∃ z, cmpV b.toNat (s.toNat * t.toNat) = z := ⟨_, rfl⟩
    rw [hz] at hc
    rw [e]
    clear hle e hm hmn hb hb' hs hs' ht ht'
    go_enter Try.func49, Try.ntmps49
    go_wp2_with fail
    refine (F1.out _).mono ?_
    rintro e v1 ⟨ad1, m1, c1, rfl, g1, k1, hb1⟩
    have hs1 := hb1.size
    go_wp2_with fail
    refine (F2.out _).mono ?_
    rintro e v2 ⟨ad2, m2, c2, rfl, g2, k2, hb2⟩
    have hs2 := hb2.size
    go_wp2_with fail
    refine (F3.out _).mono ?_
    rintro e v3 ⟨ad3, m3, c3, rfl, g3, k3, hb3⟩
    have hs3 := hb3.size
    have g2b := hide (g2.out.below hb3 (Nat.le_refl _))
    go_wp2_with fail
    refine (rmul_c _ _ _ _ _ _ _ g2b g3 (by omega) (by omega)).mono ?_
    rintro e v4 ⟨ad4, m4, c4, rfl, g4, k4, hb4⟩
    have hs4 := hb4.size
    have g1b := hide (((g1.out.below hb2 (Nat.le_refl _)).below hb3 (Nat.le_refl _)).below hb4 (Nat.le_refl _))
    go_wp2_with fail
    refine (rcmp_c _ _ _ (hide g1b.out.hn) _ _ _ (hide g4.out.hn) (by omega) (by omega) _ (hide g1b.out.row) (hide g4.out.row)).mono ?_
    rintro e v5 ⟨rfl, hb5⟩
    have hs5 := hb5.size
    go_wp2
    go_ret
    exact ⟨rfl, (by (repeat' (first | (with_reducible exact Below.refl _ _) | (with_reducible assumption) | (with_reducible refine Below.alloc ?_ ?_ _) | (with_reducible refine Below.drew ?_) | (with_reducible refine below_drewN ?_ _) | (with_reducible refine Below.setCell ?_ ?_ _) | (with_reducible refine below_step (by with_reducible assumption) ?_ ?_) | (first | (with_reducible exact Nat.le_refl _) | (with_reducible assumption) | omega | (simp only [World.size_alloc, World.size_setCell, World.size_drew, size_drewN]; omega) | (simp; omega) | (simp; done)))))⟩
  · have e : drn b s t = b - s * t := by unfold drn; rw [if_neg (by omega)]
    have hc : cmpV b.toNat (s.toNat * t.toNat) = 1 := by rw [cmpV, if_neg (by omega), if_pos (by omega)]
    have hsub : s.toNat * t.toNat ≤ b.toNat := by omega
    have hv : lim (b.toNat - s.toNat * t.toNat) 0 = b - s * t := by rw [lim0, Nat.mod_eq_of_lt (by omega)]; omega
    have hlt : b.toNat - s.toNat * t.toNat < M256 := by unfold M256; omega
    rw [e]
    have HS := hide hsub
    have HLt := hide hlt
    clear hle e hm hmn hb hb' hs hs' ht ht' hsub hlt
    go_enter Try.func49, Try.ntmps49
    go_wp2_with fail
    refine (F1.out _).mono ?_
    rintro e v1 ⟨ad1, m1, c1, rfl, g1, k1, hb1⟩
    have hs1 := hb1.size
    go_wp2_with fail
    refine (F2.out _).mono ?_
    rintro e v2 ⟨ad2, m2, c2, rfl, g2, k2, hb2⟩
    have hs2 := hb2.size
    go_wp2_with fail
    refine (F3.out _).mono ?_
    rintro e v3 ⟨ad3, m3, c3, rfl, g3, k3, hb3⟩
    have hs3 := hb3.size
    have g2b := hide (g2.out.below hb3 (Nat.le_refl _))
    go_wp2_with fail
    refine (rmul_c _ _ _ _ _ _ _ g2b g3 (by omega) (by omega)).mono ?_
    rintro e v4 ⟨ad4, m4, c4, rfl, g4, k4, hb4⟩
    have hs4 := hb4.size
    have g1b := hide (((g1.out.below hb2 (Nat.le_refl _)).below hb3 (Nat.le_refl _)).below hb4 (Nat.le_refl _))
    go_wp2_with fail
    refine (rcmp_c _ _ _ (hide g1b.out.hn) _ _ _ (hide g4.out.hn) (by omega) (by omega) _ (hide g1b.out.row) (hide g4.out.row)).mono ?_
    rintro e v5 ⟨rfl, hb5⟩
    have hs5 := hb5.size
    have g1c := hide (g1b.out.below hb5 (Nat.le_refl _))
    have g4c := hide (g4.out.below hb5 (Nat.le_refl _))
    go_wp2_with fail
    refine (rsub_c HS.out _ _ _ _ _ _ _ g1c g4c (by omega) (by omega)).mono ?_
    rintro e v6 ⟨ad6, m6, c6, rfl, g6, k6, hb6⟩
    have hs6 := hb6.size
    go_wp2_with fail
    refine (toBig_c HLt.out g6 (by omega)).mono ?_
    rintro e v7 ⟨rfl, hb7⟩
    have hs7 := hb7.size
    go_wp2
    go_ret
    exact ⟨rfl, (by (repeat' (first | (with_reducible exact Below.refl _ _) | (with_reducible assumption) | (with_reducible refine Below.alloc ?_ ?_ _) | (with_reducible refine Below.drew ?_) | (with_reducible refine below_drewN ?_ _) | (with_reducible refine Below.setCell ?_ ?_ _) | (with_reducible refine below_step (by with_reducible assumption) ?_ ?_) | (first | (with_reducible exact Nat.le_refl _) | (with_reducible assumption) | omega | (simp only [World.size_alloc, World.size_setCell, World.size_drew, size_drewN]; omega) | (simp; omega) | (simp; done)))))⟩
theorem rexc_c {b s t : Int} (hb : 0 ≤ b) (hb' : b < 18446744073709551616) (hs : 0 ≤ s) (hs' : s < 18446744073709551616) (ht : 0 ≤ t) (ht' : t < 18446744073709551616) (w : World) :
    Calls Try.prog 34 #[.int .u64 b, .int .u64 s, .int .u64 t] w fun e w' => e = .returned (.int .u64 (drn b s t)) ∧ Below w.heap.size w w' := by
  have F := hide (fun w => rest_c hb hb' hs hs' ht ht' w)
  go_enter Try.func34, Try.ntmps34
  go_wp2_with fail
  refine (F.out _).mono ?_
  rintro e v1 ⟨rfl, hb1⟩
  go_wp2
  go_ret
  exact ⟨rfl, (by (repeat' (first | (with_reducible exact Below.refl _ _) | (with_reducible assumption) | (with_reducible refine Below.alloc ?_ ?_ _) | (with_reducible refine Below.drew ?_) | (with_reducible refine below_drewN ?_ _) | (with_reducible refine Below.setCell ?_ ?_ _) | (with_reducible refine below_step (by with_reducible assumption) ?_ ?_) | (first | (with_reducible exact Nat.le_refl _) | (with_reducible assumption) | omega | (simp only [World.size_alloc, World.size_setCell, World.size_drew, size_drewN]; omega) | (simp; omega) | (simp; done)))))⟩
theorem rmin_c {A B : Nat} (ad : Option Addr) (n c : Nat) (ad' : Option Addr) (n' c' : Nat) (w : World) (hA : Hid (Big w ad n c A)) (hB : Hid (Big w ad' n' c' B)) (hlen : n ≤ 100000) (hlen' : n' ≤ 100000) :
    Calls Try.prog 39 #[.slice ad n c, .slice ad' n' c'] w fun e w' => ∃ ad n'' c, e = .returned (.slice ad n'' c) ∧ Hid (Big w' ad n'' c (min A B)) ∧ n'' ≤ max n n' ∧ Below w.heap.size w w' := by
  have HC := fun w hr hr' => rcmp_c (A := A) (B := B) ad n c (hide hA.out.hn) ad' n' c' (hide hB.out.hn) hlen hlen' w hr hr'
  obtain ⟨z, hz⟩ : ∃ z, cmpV A B = z := ⟨_, rfl⟩
  rw [hz] at HC
  replace HC := hide HC
  by_cases hle : A ≤ B
  · have hz0 : z ≤ 0 := by rw [← hz, cmpV]; split; decide; rw [if_neg (by omega)]; decide
    rw [Nat.min_eq_left hle]
    clear hz hle
    go_enter Try.func39, Try.ntmps39
    go_wp2_with fail
    refine (HC.out _ (hide hA.out.row) (hide hB.out.row)).mono ?_
    rintro e w1 ⟨rfl, hb⟩
    have hf := hide (show Big w1 ad n c A ∧ n ≤ max n n' ∧ Below w.heap.size w w1 from ⟨hA.out.below hb (Nat.le_refl _), Nat.le_max_left _ _, hb⟩)
    clear hb hA hB HC
    go_wp2
    go_ret
    exact ⟨_, _, _, rfl, hide hf.out.1, hf.out.2.1, hf.out.2.2⟩
  · have hz0 : 0 < z := by rw [← hz, cmpV_gt (by omega)]; decide
    rw [Nat.min_eq_right (by omega)]
    clear hz hle
    go_enter Try.func39, Try.ntmps39
    go_wp2_with fail
    refine (HC.out _ (hide hA.out.row) (hide hB.out.row)).mono ?_
    rintro e w1 ⟨rfl, hb⟩
    have hf := hide (show Big w1 ad' n' c' B ∧ n' ≤ max n n' ∧ Below w.heap.size w w1 from ⟨hB.out.below hb (Nat.le_refl _), Nat.le_max_right _ _, hb⟩)
    clear hb hA hB HC
    go_wp2
    go_ret
    exact ⟨_, _, _, rfl, hide hf.out.1, hf.out.2.1, hf.out.2.2⟩
end Go.Proofs.Ytkneiobohhhcpaa
