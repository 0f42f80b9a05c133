/- pontageref1.BitLen, walked. -/
import Derived.WalkKit
import Derived.KernelRfl
import Derived.RowKit3
import Derived.Deep.LoopGhost
import Derived.Deep.QuietTactic
import Derived.BigQuiet
import Derived.WideLaws
import Derived.Laws.Rows
import Derived.Below
import Derived.Deep.Draws
import Derived.Outline
import Derived.LoopN
import Derived.Handy
import Derived.Laws.Externs
import Derived.Laws.BitsAllLaws
import Derived.Laws.BitsLemmas
import Derived.Deep.DeepCutAuto
import Derived.Deep.CutBlock
import Derived.Deep.RegionHeld3
import Derived.Test.YtphnmolndhnnpaaD0
import Derived.Test.YtphnmolndhnnpaaSL
namespace Go.Proofs.Ytphnmolndhnnpaa
open Go.RowKit
set_option linter.unusedVariables false
set_option linter.unusedSimpArgs false
/-- The number of binary digits of the last K digits of A. -/
def blT (A K : Nat) : Nat := blN (A % 2 ^ K)
theorem blT_zero (A : Nat) : blT A 0 = 0 := by
  have : A % 2 ^ 0 = 0 := by rw [Nat.pow_zero]; exact Nat.mod_one A
  rw [blT, this]
  rfl
theorem mod_bit (A K : Nat) : A % 2 ^ (K + 1) = A % 2 ^ K + 2 ^ K * (A / 2 ^ K % 2) := by
  rw [Nat.pow_succ, Nat.mod_mul]
theorem blT_step (A K : Nat) : blT A (K + 1) = if A / 2 ^ K % 2 = 1 then K + 1 else blT A K := by
  unfold blT
  rw [mod_bit]
  have hlt : A % 2 ^ K < 2 ^ K := Nat.mod_lt _ (Nat.pow_pos (by omega))
  by_cases h : A / 2 ^ K % 2 = 1
  · rw [if_pos h, h, Nat.mul_one]
    have hp : 0 < 2 ^ K := Nat.pow_pos (by omega)
    refine Nat.le_antisymm (blN_le (by rw [Nat.pow_succ]; omega)) ?_
    rcases Nat.lt_or_ge (blN (A % 2 ^ K + 2 ^ K)) (K + 1) with hc | hc
    · have h1 := blN_lt (A := A % 2 ^ K + 2 ^ K)
      have h2 : 2 ^ blN (A % 2 ^ K + 2 ^ K) ≤ 2 ^ K := Nat.pow_le_pow_right (by omega) (by omega)
      omega
    · exact hc
  · have h0 : A / 2 ^ K % 2 = 0 := by omega
    rw [if_neg h, h0, Nat.mul_zero, Nat.add_zero]
theorem blT_all {A : Nat} (h : A < M256) : blT A 256 = blN A := by
  unfold blT
  rw [Nat.mod_eq_of_lt (by unfold M256 at h; exact h)]
set_option maxRecDepth 20000 in
set_option maxHeartbeats 8000000 in
theorem rbl_c {A : Nat} (hA : A < M256) (w : World) :
    Calls Try.prog 19 #[.agg #[.int .u64 (lim A 0), .int .u64 (lim A 1), .int .u64 (lim A 2), .int .u64 (lim A 3)]] w fun e w' => e = .returned (.int .i64 (blI A)) ∧ Below w.heap.size w w' := by
  have hB : Below w.heap.size w (w.alloc (.cells #[.int .u64 (lim A 0), .int .u64 (lim A 1), .int .u64 (lim A 2), .int .u64 (lim A 3)] 24)) := (Below.refl _ _).alloc (Nat.le_refl _) _
  have HBl := hide hB
  have HE := hide (blT_all hA)
  have HZ := hide (blT_zero A)
  clear hB hA
  go_enter Try.func19, Try.ntmps19
  go_wp2
  go_loop [3, 4] (fun v3 v4 => ∃ K : Nat, K ≤ 256 ∧ v4 = .int .i64 K ∧ v3 = .int .i64 (blT A K : Nat)) (fun _ v4 => (256 - intOf v4).toNat)
  case atStart => exact ⟨0, by omega, rfl, by rw [HZ.out]; rfl⟩
  case round =>
    obtain ⟨K, hK, rfl, rfl⟩ := hrel
    rcases Nat.lt_or_ge K 256 with hlt | hge
    · have st := blT_step A K
      have hbt : bitN A K = A / 2 ^ K % 2 := rfl
      rw [← hbt] at st
      obtain ⟨b, hb⟩ : ∃ b : Nat, bitN A K = b := ⟨_, rfl⟩
      have hb1 : b ≤ 1 := by rw [← hb]; exact bitN_le A K
      rw [hb] at st
      have HB := hide hb
      obtain ⟨s, hs⟩ : ∃ s : Nat, K % 64 = s := ⟨_, rfl⟩
      have hs64 : s < 64 := by omega
      have hr : (K : Int).tmod 64 = (s : Int) := by rw [Int.tmod_eq_emod_of_nonneg (by omega)]; omega
      have HS := hide hs
      clear hs hb hbt
      by_cases h0 : K < 64
      · have hw : IntKind.i64.wrap 0 = 0 := by decide
        have hq' : (K : Int).tdiv 64 = 0 := by rw [Int.tdiv_eq_ediv_of_nonneg (by omega)]; omega
        have hbit : bits .and .u64 (lim A 0 / 2 ^ s) 1 = ((b : Nat) : Int) := by rw [← HB.out]; exact bit_law A K (by omega) HS.out
        by_cases hb : b = 1
        · subst hb
          rw [if_pos rfl] at st
          have ST := hide st
          clear st
          go_wp2
          go_round
          case rel => exact ⟨K + 1, by omega, by go_num, by rw [ST.out]; go_num⟩
          case measure => simp [intOf]; omega
        · have hb0 : b = 0 := by omega
          subst hb0
          rw [if_neg hb] at st
          have ST := hide st
          clear st hb
          go_wp2
          go_round
          case rel => exact ⟨K + 1, by omega, by go_num, by rw [ST.out]⟩
          case measure => simp [intOf]; omega
      by_cases h1 : K < 128
      · have hw : IntKind.i64.wrap 1 = 1 := by decide
        have hq' : (K : Int).tdiv 64 = 1 := by rw [Int.tdiv_eq_ediv_of_nonneg (by omega)]; omega
        have hbit : bits .and .u64 (lim A 1 / 2 ^ s) 1 = ((b : Nat) : Int) := by rw [← HB.out]; exact bit_law A K (by omega) HS.out
        by_cases hb : b = 1
        · subst hb
          rw [if_pos rfl] at st
          have ST := hide st
          clear st
          go_wp2
          go_round
          case rel => exact ⟨K + 1, by omega, by go_num, by rw [ST.out]; go_num⟩
          case measure => simp [intOf]; omega
        · have hb0 : b = 0 := by omega
          subst hb0
          rw [if_neg hb] at st
          have ST := hide st
          clear st hb
          go_wp2
          go_round
          case rel => exact ⟨K + 1, by omega, by go_num, by rw [ST.out]⟩
          case measure => simp [intOf]; omega
      by_cases h2 : K < 192
      · have hw : IntKind.i64.wrap 2 = 2 := by decide
        have hq' : (K : Int).tdiv 64 = 2 := by rw [Int.tdiv_eq_ediv_of_nonneg (by omega)]; omega
        have hbit : bits .and .u64 (lim A 2 / 2 ^ s) 1 = ((b : Nat) : Int) := by rw [← HB.out]; exact bit_law A K (by omega) HS.out
        by_cases hb : b = 1
        · subst hb
          rw [if_pos rfl] at st
          have ST := hide st
          clear st
          go_wp2
          go_round
          case rel => exact ⟨K + 1, by omega, by go_num, by rw [ST.out]; go_num⟩
          case measure => simp [intOf]; omega
        · have hb0 : b = 0 := by omega
          subst hb0
          rw [if_neg hb] at st
          have ST := hide st
          clear st hb
          go_wp2
          go_round
          case rel => exact ⟨K + 1, by omega, by go_num, by rw [ST.out]⟩
          case measure => simp [intOf]; omega
      have hw : IntKind.i64.wrap 3 = 3 := by decide
      have hq' : (K : Int).tdiv 64 = 3 := by rw [Int.tdiv_eq_ediv_of_nonneg (by omega)]; omega
      have hbit : bits .and .u64 (lim A 3 / 2 ^ s) 1 = ((b : Nat) : Int) := by rw [← HB.out]; exact bit_law A K (by omega) HS.out
      by_cases hb : b = 1
      · subst hb
        rw [if_pos rfl] at st
        have ST := hide st
        clear st
        go_wp2
        go_round
        case rel => exact ⟨K + 1, by omega, by go_num, by rw [ST.out]; go_num⟩
        case measure => simp [intOf]; omega
      · have hb0 : b = 0 := by omega
        subst hb0
        rw [if_neg hb] at st
        have ST := hide st
        clear st hb
        go_wp2
        go_round
        case rel => exact ⟨K + 1, by omega, by go_num, by rw [ST.out]⟩
        case measure => simp [intOf]; omega
    · obtain rfl : K = 256 := by omega
      clear hge
      go_wp2
      go_ret
      exact ⟨ret_int (by rw [HE.out]; rfl), HBl.out⟩
end Go.Proofs.Ytphnmolndhnnpaa
