/- uint256.Min, walked; the examples of chapter 1. -/
import Derived.WalkKit
import Derived.KernelRfl
import Derived.RowKit3
import Derived.Deep.LoopGhost
import Derived.Deep.QuietTactic
import Derived.BigQuiet
import Derived.WideLaws
import Derived.Laws.Rows
import Derived.Below
import Derived.Deep.Draws
import Derived.Outline
import Derived.LoopN
import Derived.Handy
import Derived.Laws.Externs
import Derived.Laws.BitsAllLaws
import Derived.Laws.BitsLemmas
import Derived.Deep.DeepCutAuto
import Derived.Deep.CutBlock
import Derived.Deep.RegionHeld3
import Derived.Test.YtphnmolndhnnpaaU2
import Derived.Deep.LoopGhost
namespace Go.Proofs.Ytphnmolndhnnpaa
open Go.RowKit
set_option linter.unusedVariables false
set_option linter.unusedSimpArgs false
/-- The least of a number and a list's first k. -/
def minV (A : Nat) (L : List Nat) : Nat := L.foldl (fun a b => if b < a then b else a) A
theorem minV_snoc (A : Nat) (L : List Nat) (b : Nat) : minV A (L ++ [b]) = if b < minV A L then b else minV A L := by unfold minV; rw [List.foldl_append]; rfl
theorem minV_lt {A : Nat} {L : List Nat} (hA : A < M256) (hL : ∀ x ∈ L, x < M256) : minV A L < M256 := by
  induction L generalizing A with
  | nil => exact hA
  | cons b l ih =>
    refine ih ?_ (fun x hx => hL x (.tail _ hx))
    have := hL b (.head _)
    simp only []
    split <;> assumption
set_option maxHeartbeats 1000000 in
theorem min_c {A : Nat} {a0 a1 a2 a3 : Int} (hA : isU A a0 a1 a2 a3) {L : List Nat} (hL : ∀ x ∈ L, x < M256) (ad : Option Addr) (cap : Nat) (w : World) (hn : L.length ≤ 9000000000000000000)
    (hc : ∀ i, i < L.length → ∃ b o, ad = some ⟨b, o, none⟩ ∧ ∀ j, j < 4 → w.cell? ⟨b, o + i * 4 + j, none⟩ = some (.int .u64 (lim (L.getD i 0) j))) :
   Calls Try.prog 17 #[.agg #[.int .u64 a0, .int .u64 a1, .int .u64 a2, .int .u64 a3], .slice ad L.length cap] w fun e w' => e = .returned (.agg #[.int .u64 (lim (minV A L) 0), .int .u64 (lim (minV A L) 1), .int .u64 (lim (minV A L) 2), .int .u64 (lim (minV A L) 3)]) ∧ Below w.heap.size w w' := by
  obtain ⟨n, Hn⟩ : ∃ n, n = L.length := ⟨_, rfl⟩
  rw [← Hn] at hn ⊢
  have HC := hide hc
  have HL := hide hL
  clear hc hL
  have HN := hide Hn
  clear Hn
  have hlt := hA.lt
  obtain ⟨e0, e1, e2, e3⟩ := hA.lims
  rw [e0, e1, e2, e3]
  clear e0 e1 e2 e3 hA
  have HA := hide hlt
  clear hlt
  go_enter Try.func17, Try.ntmps17
  go_wp2
  go_loopw [9] (fun v9 wr => ∃ k : Nat, k ≤ n ∧ v9 = .int .i64 k ∧ Hid (Below w.heap.size w wr) ∧ Hid (Box wr w.heap.size (lim (minV A (L.take k)) 0) (lim (minV A (L.take k)) 1) (lim (minV A (L.take k)) 2) (lim (minV A (L.take k)) 3)) ∧ Hid (Box wr (w.heap.size + 1) 0 0 0 0))
    (fun i _ => n - (intOf i).toNat)
  case atStart => exact ⟨0, Nat.zero_le _, rfl, hide (by (repeat' (first | (with_reducible exact Below.refl _ _) | (with_reducible assumption) | (with_reducible refine Below.alloc ?_ ?_ _) | (with_reducible refine Below.drew ?_) | (with_reducible refine below_drewN ?_ _) | (with_reducible refine Below.setCell ?_ ?_ _) | (with_reducible refine below_step (by with_reducible assumption) ?_ ?_) | (first | (with_reducible exact Nat.le_refl _) | (with_reducible assumption) | omega | (simp only [World.size_alloc, World.size_setCell, World.size_drew, size_drewN]; omega) | (simp; omega) | (simp; done))))), hide ((Box.new _ _ _ _ _ _).alloc _), hide (by have := Box.new (w.alloc (.cells #[.int .u64 (lim A 0), .int .u64 (lim A 1), .int .u64 (lim A 2), .int .u64 (lim A 3)] 24)) 0 0 0 0 24; simpa using this)⟩
  case round =>
    obtain ⟨k, hk, rfl, HB, HX, HY⟩ := hrel
    by_cases hlt : k < n
    · obtain ⟨b, o, rfl, hcell⟩ := HC.out k (by rw [← HN.out]; exact hlt)
      obtain ⟨b0, eb⟩ : ∃ x, x = L.getD k 0 := ⟨_, rfl⟩
      rw [← eb] at hcell
      have hbl : b < w.heap.size := World.block_lt_of_cell? w _ (hcell 0 (by omega))
      have d0 := ((bcell HB.out).1 b _ hbl).trans (hcell 0 (by omega))
      have d1 := ((bcell HB.out).1 b _ hbl).trans (hcell 1 (by omega))
      have d2 := ((bcell HB.out).1 b _ hbl).trans (hcell 2 (by omega))
      have d3 := ((bcell HB.out).1 b _ hbl).trans (hcell 3 (by omega))
      rw [Nat.add_zero] at d0
      have hb0 : b0 < M256 := by rw [eb, List.getD_eq_getElem?_getD, List.getElem?_eq_getElem (by rw [← HN.out]; exact hlt)]; exact HL.out _ (List.getElem_mem _)
      clear hcell
      obtain ⟨m, em⟩ : ∃ x, x = minV A (L.take k) := ⟨_, rfl⟩
      have hm : m < M256 := by rw [em]; exact minV_lt HA.out (fun x hx => HL.out x (List.mem_of_mem_take hx))
      have hnext : minV A (L.take (k + 1)) = if b0 < m then b0 else m := by
        rw [List.take_succ_eq_append_getElem (by rw [← HN.out]; exact hlt), minV_snoc, em, eb, List.getD_eq_getElem?_getD, List.getElem?_eq_getElem (by rw [← HN.out]; exact hlt)]
        rfl
      rw [← em] at HX
      have HE := hide hnext
      clear hnext em eb
      have HK := hide (cmp_c (isU_lim hb0) (isU_lim hm))
      clear hb0 hm
      obtain ⟨x0, x1, x2, x3, g0, g1, g2, g3, xl⟩ := HX.out
      by_cases hb0m : b0 < m
      · have t : decide (cmpV b0 m < 0) = true := by unfold cmpV; rw [if_pos hb0m]; rfl
        rw [if_pos hb0m] at HE
        clear hb0m
        go_wp2_with (go_at_call 16; refine (HK.out _).mono ?_; rintro e w1 ⟨rfl, hb1⟩; obtain ⟨hc1, hf1⟩ := bcell hb1; obtain ⟨z0, z1⟩ : w.heap.size < w1.heap.size ∧ wr.heap.size < w1.heap.size := (by (have hz := hb1.size; simp at hz; omega)); have hb1 := hide hb1)
        go_roundw
        case rel =>
          have HX1 : Box w1 w.heap.size (lim m 0) (lim m 1) (lim m 2) (lim m 3) := (HX.out.alloc _).below hb1.out (by simp; omega)
          have HY1 : Box w1 (w.heap.size + 1) 0 0 0 0 := (HY.out.alloc _).below hb1.out (by have := HY.out.lt; simp; omega)
          have hbb := HB.out
          have hb1 := hb1.out
          refine ⟨k + 1, by omega, by go_num, hide ?_, hide (by rw [HE.out]; exact HX1.put _ _ _ _), hide ?_⟩
          · exact (by (repeat' (first | (with_reducible exact Below.refl _ _) | (with_reducible assumption) | (with_reducible refine Below.alloc ?_ ?_ _) | (with_reducible refine Below.drew ?_) | (with_reducible refine below_drewN ?_ _) | (with_reducible refine Below.setCell ?_ ?_ _) | (with_reducible refine below_step (by with_reducible assumption) ?_ ?_) | (first | (with_reducible exact Nat.le_refl _) | (with_reducible assumption) | omega | (simp only [World.size_alloc, World.size_setCell, World.size_drew, size_drewN]; omega) | (simp; omega) | (simp; done)))))
          · exact (((HY1.other (by simp) _).other (by simp) _).other (by simp) _).other (by simp) _
        case measure => simp [intOf]; omega
      · have t : decide (cmpV b0 m < 0) = false := by unfold cmpV; rw [if_neg hb0m]; split <;> rfl
        rw [if_neg hb0m] at HE
        clear hb0m
        go_wp2_with (go_at_call 16; refine (HK.out _).mono ?_; rintro e w1 ⟨rfl, hb1⟩; obtain ⟨hc1, hf1⟩ := bcell hb1; obtain ⟨z0, z1⟩ : w.heap.size < w1.heap.size ∧ wr.heap.size < w1.heap.size := (by (have hz := hb1.size; simp at hz; omega)); have hb1 := hide hb1)
        go_roundw
        case rel =>
          have HX1 : Box w1 w.heap.size (lim m 0) (lim m 1) (lim m 2) (lim m 3) := (HX.out.alloc _).below hb1.out (by simp; omega)
          have HY1 : Box w1 (w.heap.size + 1) 0 0 0 0 := (HY.out.alloc _).below hb1.out (by have := HY.out.lt; simp; omega)
          have hbb := HB.out
          have hb1 := hb1.out
          refine ⟨k + 1, by omega, by go_num, hide ?_, hide (by rw [HE.out]; exact HX1), hide HY1⟩
          exact (by (repeat' (first | (with_reducible exact Below.refl _ _) | (with_reducible assumption) | (with_reducible refine Below.alloc ?_ ?_ _) | (with_reducible refine Below.drew ?_) | (with_reducible refine below_drewN ?_ _) | (with_reducible refine Below.setCell ?_ ?_ _) | (with_reducible refine below_step (by with_reducible assumption) ?_ ?_) | (first | (with_reducible exact Nat.le_refl _) | (with_reducible assumption) | omega | (simp only [World.size_alloc, World.size_setCell, World.size_drew, size_drewN]; omega) | (simp; omega) | (simp; done)))))
        case measure => simp [intOf]; omega
    · obtain ⟨x0, x1, x2, x3, g0, g1, g2, g3, xl⟩ := HX.out
      obtain ⟨y0, y1, y2, y3, h0, h1, h2, h3, yl⟩ := HY.out
      obtain rfl : k = n := by omega
      have ht : L.take k = L := by rw [HN.out]; exact List.take_length
      rw [ht] at x0 x1 x2 x3
      clear ht
      go_wp2
      refine bodyPost_ret (v := .agg #[.int .u64 (lim (minV A L) 0), .int .u64 (lim (minV A L) 1), .int .u64 (lim (minV A L) 2), .int .u64 (lim (minV A L) 3)]) (by simp [results, Try.results17, go_sem, *]) rfl ?_
      have hb := HB.out
      exact ⟨rfl, (by (repeat' (first | (with_reducible exact Below.refl _ _) | (with_reducible assumption) | (with_reducible refine Below.alloc ?_ ?_ _) | (with_reducible refine Below.drew ?_) | (with_reducible refine below_drewN ?_ _) | (with_reducible refine Below.setCell ?_ ?_ _) | (with_reducible refine below_step (by with_reducible assumption) ?_ ?_) | (first | (with_reducible exact Nat.le_refl _) | (with_reducible assumption) | omega | (simp only [World.size_alloc, World.size_setCell, World.size_drew, size_drewN]; omega) | (simp; omega) | (simp; done)))))⟩
end Go.Proofs.Ytphnmolndhnnpaa
