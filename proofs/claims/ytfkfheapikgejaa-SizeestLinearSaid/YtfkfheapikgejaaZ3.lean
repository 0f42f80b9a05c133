/- lz, walked: matchLength, longestMatch, best. -/
import Derived.WalkKit
import Derived.KernelRfl
import Derived.RowKit3
import Derived.Deep.LoopGhost
import Derived.Deep.QuietTactic
import Derived.BigQuiet
import Derived.WideLaws
import Derived.Laws.Rows
import Derived.Below
import Derived.Deep.Draws
import Derived.Outline
import Derived.LoopN
import Derived.Handy
import Derived.Laws.Externs
import Derived.Laws.BitsAllLaws
import Derived.Laws.BitsLemmas
import Derived.Deep.DeepCutAuto
import Derived.Deep.CutBlock
import Derived.Deep.RegionHeld3
import Derived.Test.YtfkfheapikgejaaZ2
import Derived.Deep.QuietTactic
import Derived.BigQuiet
import Derived.IntWalk
namespace Go.Proofs.Ytfkfheapikgejaa
open Go.RowKit
set_option linter.unusedVariables false
set_option linter.unusedSimpArgs false
theorem mlen_ci {l : List UInt8} (ad : Option Addr) (n c : Nat) (a d m : Nat) (mi : Int) (hmi : mi = (m : Int)) (hn : Hid (n = l.length)) (ha : Hid (0 < m → a + m ≤ n ∧ 1 ≤ d ∧ d ≤ a)) (hlen : n ≤ 1000000) (ham : a + m ≤ 2000000) (hd : d ≤ 1000000) (w : World) (hrow : Hid (BRow w ad l)) :
    Calls Try.prog 26 #[.slice ad n c, .int .i64 a, .int .i64 d, .int .i64 mi] w fun e w' => e = .returned (.int .i64 (mlen l a d m : Nat)) ∧ Below w.heap.size w w' := by
  subst hmi
  exact mlen_c ad n c a d m hn ha hlen ham hd w hrow
set_option maxHeartbeats 4000000 in
theorem rmlen_c {l : List UInt8} (ad : Option Addr) (n c : Nat) (a d : Nat) (hn : Hid (n = l.length)) (hd0 : 1 ≤ d) (hda : d ≤ a) (han : a ≤ n) (hlen : n ≤ 1000000) (w : World) (hrow : Hid (BRow w ad l)) :
    Calls Try.prog 31 #[.slice ad n c, .int .i64 a, .int .i64 d] w fun e w' => e = .returned (.int .i64 (mlen l a d (min 131 (n - a)) : Nat)) ∧ Below w.heap.size w w' := by
  obtain ⟨m, hm⟩ : ∃ m, min 131 (n - a) = m := ⟨_, rfl⟩
  rw [hm]
  have m1 : m ≤ 131 := by omega
  have m2 : a + m ≤ n := by omega
  have HM := hide (show m = 131 ∨ a + m = n by omega)
  clear hm
  go_enter Try.func31, Try.ntmps31
  go_wp2
  go_loopw [7] (fun v7 wr => ∃ k : Nat, k ≤ m ∧ v7 = .int .i64 k ∧ Hid (∀ j, j < k → gb l (a + j) = gb l (a + j - d)) ∧ Hid (Below w.heap.size w wr)) (fun v7 _ => m - (intOf v7).toNat)
  case atStart => exact ⟨0, Nat.zero_le _, rfl, hide (fun j hj => by omega), hide (Below.refl _ _)⟩
  case round =>
    obtain ⟨k, hk, rfl, HK, HB⟩ := hrel
    have w1 : IntKind.i64.wrap ((a : Int) + (k : Int)) = (a : Int) + (k : Int) := IntWalk.i64_in _ (by omega)
    by_cases hlt : k < m
    · have tk : decide ((k : Int) < 131) = true := decide_eq_true (by omega)
      have tl : decide ((a : Int) + (k : Int) < (n : Int)) = true := decide_eq_true (by omega)
      have p2 : (a : Int) + (k : Int) < (n : Int) := by omega
      have hln := hn.out
      obtain ⟨b, o, rfl, hcell⟩ := hrow.out (by intro e; rw [e] at hln; simp at hln; omega)
      have hx := hcell (a + k) (by omega)
      have hy := hcell (a + k - d) (by omega)
      have hbl := World.block_lt_of_cell? w _ hx
      replace hx := (HB.out.cell (p := ⟨b, o + (a + k), none⟩) hbl).trans hx
      replace hy := (HB.out.cell (p := ⟨b, o + (a + k - d), none⟩) hbl).trans hy
      clear hcell hbl
      obtain ⟨x, ex⟩ : ∃ x : Nat, (gb l (a + k)).toNat = x := ⟨_, rfl⟩
      obtain ⟨y, ey⟩ : ∃ y : Nat, (gb l (a + k - d)).toNat = y := ⟨_, rfl⟩
      rw [ex] at hx
      rw [ey] at hy
      have w2 : IntKind.i64.wrap ((a : Int) + (k : Int) - (d : Int)) = (a : Int) + (k : Int) - (d : Int) := IntWalk.i64_in _ (by omega)
      have p1 : 0 ≤ (a : Int) + (k : Int) := by omega
      have p3 : ((a : Int) + (k : Int)).toNat = a + k := by omega
      have q1 : 0 ≤ (a : Int) + (k : Int) - (d : Int) := by omega
      have q2 : (a : Int) + (k : Int) - (d : Int) < (n : Int) := by omega
      have q3 : ((a : Int) + (k : Int) - (d : Int)).toNat = a + k - d := by omega

      by_cases hxy : x = y
      · have HE := hide (show gb l (a + k) = gb l (a + k - d) from UInt8.toNat_inj.1 (by rw [ex, ey, hxy]))
        subst hxy
        clear ex ey hln
        go_wp2_with fail
        go_quiet (fail)
        go_wp2
        go_roundw
        case rel =>
          have hb := HB.out
          refine ⟨k + 1, by omega, by go_num, hide (fun j hj => ?_), hide (by (repeat' (first | (with_reducible exact Below.refl _ _) | (with_reducible assumption) | (with_reducible refine Below.alloc ?_ ?_ _) | (with_reducible refine Below.drew ?_) | (with_reducible refine below_drewN ?_ _) | (with_reducible refine Below.setCell ?_ ?_ _) | (with_reducible refine below_step (by with_reducible assumption) ?_ ?_) | (first | (with_reducible exact Nat.le_refl _) | (with_reducible assumption) | omega | (simp only [World.size_alloc, World.size_setCell, World.size_drew, size_drewN]; omega) | (simp; omega) | (simp; done)))))⟩
          rcases Nat.lt_or_ge j k with h | h
          · exact HK.out j h
          · obtain rfl : j = k := by omega
            exact HE.out
        case measure => simp [intOf]; omega
      · have HE := hide (show gb l (a + k) ≠ gb l (a + k - d) from fun e => hxy (by rw [← ex, ← ey, e]))
        have t : (((x : Nat) : Int) == ((y : Nat) : Int)) = false := beq_eq_false_iff_ne.2 (by omega)
        have t' : ((x : Nat) == y) = false := beq_eq_false_iff_ne.2 hxy
        clear ex ey hln hxy
        go_wp2_with fail
        go_quiet (fail)
        go_wp2
        go_ret
        have hb := HB.out
        exact ⟨ret_int (by rw [mlen_char (by omega) HK.out (.inr HE.out)]), (by (repeat' (first | (with_reducible exact Below.refl _ _) | (with_reducible assumption) | (with_reducible refine Below.alloc ?_ ?_ _) | (with_reducible refine Below.drew ?_) | (with_reducible refine below_drewN ?_ _) | (with_reducible refine Below.setCell ?_ ?_ _) | (with_reducible refine below_step (by with_reducible assumption) ?_ ?_) | (first | (with_reducible exact Nat.le_refl _) | (with_reducible assumption) | omega | (simp only [World.size_alloc, World.size_setCell, World.size_drew, size_drewN]; omega) | (simp; omega) | (simp; done)))))⟩
    · obtain rfl : k = m := by omega
      by_cases h131 : k = 131
      · have tk : decide ((k : Int) < 131) = false := decide_eq_false (by omega)
        have H131 := hide h131
        clear h131
        go_wp2_with fail
        go_quiet (fail)
        go_wp2
        go_ret
        have hb := HB.out
        exact ⟨ret_int (by rw [mlen_char (by omega) HK.out (.inl rfl)]), (by (repeat' (first | (with_reducible exact Below.refl _ _) | (with_reducible assumption) | (with_reducible refine Below.alloc ?_ ?_ _) | (with_reducible refine Below.drew ?_) | (with_reducible refine below_drewN ?_ _) | (with_reducible refine Below.setCell ?_ ?_ _) | (with_reducible refine below_step (by with_reducible assumption) ?_ ?_) | (first | (with_reducible exact Nat.le_refl _) | (with_reducible assumption) | omega | (simp only [World.size_alloc, World.size_setCell, World.size_drew, size_drewN]; omega) | (simp; omega) | (simp; done)))))⟩
      · have tk : decide ((k : Int) < 131) = true := decide_eq_true (by omega)
        have tl : decide ((a : Int) + (k : Int) < (n : Int)) = false := decide_eq_false (by have := HM.out; omega)
        go_wp2_with fail
        go_quiet (fail)
        go_wp2
        go_ret
        have hb := HB.out
        exact ⟨ret_int (by rw [mlen_char (by omega) HK.out (.inl rfl)]), (by (repeat' (first | (with_reducible exact Below.refl _ _) | (with_reducible assumption) | (with_reducible refine Below.alloc ?_ ?_ _) | (with_reducible refine Below.drew ?_) | (with_reducible refine below_drewN ?_ _) | (with_reducible refine Below.setCell ?_ ?_ _) | (with_reducible refine below_step (by with_reducible assumption) ?_ ?_) | (first | (with_reducible exact Nat.le_refl _) | (with_reducible assumption) | omega | (simp only [World.size_alloc, World.size_setCell, World.size_drew, size_drewN]; omega) | (simp; omega) | (simp; done)))))⟩
theorem best_of {l : List UInt8} {a k K M N D : Nat} (h : bst l a M k = (N, D)) (hK : K = min 1024 a) (hM : M = min 131 (l.length - a)) (hk : k ≤ K) (he : k = K ∨ N = M) : (best l a) = (N, D) := by
  unfold best
  rw [← hK, ← hM]
  rcases he with rfl | rfl
  · exact h
  · rw [bst_full' (k := k) (by rw [h]) hk, h]
theorem bst_no {l : List UInt8} {a d M N D x : Nat} (hd : 1 ≤ d) (h : bst l a M (d - 1) = (N, D)) (hx : mlen l a d M = x) (hlt : ¬ N < x) : bst l a M (d + 1 - 1) = (N, D) := by
  obtain ⟨j, rfl⟩ : ∃ j, d = j + 1 := ⟨d - 1, by omega⟩
  rw [Nat.add_sub_cancel] at h ⊢
  rw [bst, h, hx, if_neg hlt]
theorem bst_yes {l : List UInt8} {a d M N D x : Nat} (hd : 1 ≤ d) (h : bst l a M (d - 1) = (N, D)) (hx : mlen l a d M = x) (hlt : N < x) : bst l a M (d + 1 - 1) = (x, d) := by
  obtain ⟨j, rfl⟩ : ∃ j, d = j + 1 := ⟨d - 1, by omega⟩
  rw [Nat.add_sub_cancel] at h ⊢
  rw [bst, h, hx, if_pos hlt]
set_option maxRecDepth 20000 in
set_option maxHeartbeats 4000000 in
theorem lm_c {l : List UInt8} (ad : Option Addr) (n c : Nat) (a : Nat) (hn : Hid (n = l.length)) (han : a < n) (hlen : n ≤ 1000000) (w : World) (hrow : Hid (BRow w ad l)) :
    Calls Try.prog 18 #[.slice ad n c, .int .i64 a] w fun e w' => e = .returned (.tuple #[.int .i64 ((best l a).1 : Nat), .int .i64 ((best l a).2 : Nat)]) ∧ Below w.heap.size w w' := by
  obtain ⟨r, hr⟩ : ∃ r : Nat, (n : Int) - (a : Int) = (r : Int) := ⟨n - a, by omega⟩
  obtain ⟨M, hM⟩ : ∃ M, min 131 (n - a) = M := ⟨_, rfl⟩
  obtain ⟨K, hK⟩ : ∃ K, min 1024 a = K := ⟨_, rfl⟩
  have HKK := hide hK.symm
  have HMM := hide (show M = min 131 (l.length - a) by rw [← hn.out]; exact hM.symm)
  have hMn : a + M ≤ n := by omega
  have hM1 : M ≤ 131 := by omega
  have hK1 : K ≤ a := by omega
  by_cases hr1 : 131 ≤ r
  · by_cases ha1 : 1024 ≤ a
    · have r2 : (131 : Int) ≤ (r : Int) := by omega
      have k2 : (1024 : Int) ≤ (a : Int) := by omega
      have HMI := hide (show (131 : Int) = (M : Int) by omega)
      have HKI := hide (show (1024 : Int) = (K : Int) by omega)
      clear hM hK hr1 ha1
      go_enter Try.func18, Try.ntmps18
      go_wp2
      go_loopw [4, 5, 7] (fun v4 v5 v7 wr => ∃ N D d : Nat, v4 = .int .i64 N ∧ v5 = .int .i64 D ∧ v7 = .int .i64 d ∧ 1 ≤ d ∧ d ≤ K + 1 ∧ N ≤ M ∧ Hid (bst l a M (d - 1) = (N, D)) ∧ Hid (Below w.heap.size w wr)) (fun _ _ v7 _ => K + 1 - (intOf v7).toNat)
      case atStart => exact ⟨0, 0, 1, rfl, rfl, rfl, by omega, by omega, by omega, hide rfl, hide (Below.refl _ _)⟩
      case round =>
        obtain ⟨N, D, d, rfl, rfl, rfl, d1, d2, hN, HD, HB⟩ := hrel
        by_cases hgo : d ≤ K ∧ N < M
        · obtain ⟨g1, g2⟩ := hgo
          have g3 : (d : Int) ≤ (1024 : Int) := by have := HKI.out; omega
          have g4 : (N : Int) < (131 : Int) := by have := HMI.out; omega
          have hrw := hide (hrow.out.below HB.out (Nat.le_refl _))
          obtain ⟨x, hx⟩ : ∃ x, mlen l a d M = x := ⟨_, rfl⟩
          have HC := mlen_ci ad n c a d M (131 : Int) HMI.out hn (hide (fun _ => ⟨by omega, by omega, by omega⟩)) hlen (by omega) (by omega) wr hrw
          rw [hx] at HC
          replace HC := hide HC
          replace hx := hide hx
          have hxm : x ≤ M := by have := mlen_le l a d M; rw [hx.out] at this; exact this
          by_cases hc : N < x
          all_goals
            go_wp2_with fail
            refine HC.out.mono ?_
            rintro e w1 ⟨rfl, hb1⟩
            go_wp2
            go_roundw
            case rel =>
              have hb := HB.out
              have hsz := hb.size
              first
                | exact ⟨_, _, d + 1, rfl, rfl, by go_num, by omega, by omega, by omega, hide (bst_yes d1 HD.out hx.out hc), hide (by (repeat' (first | (with_reducible exact Below.refl _ _) | (with_reducible assumption) | (with_reducible refine Below.alloc ?_ ?_ _) | (with_reducible refine Below.drew ?_) | (with_reducible refine below_drewN ?_ _) | (with_reducible refine Below.setCell ?_ ?_ _) | (with_reducible refine below_step (by with_reducible assumption) ?_ ?_) | (first | (with_reducible exact Nat.le_refl _) | (with_reducible assumption) | omega | (simp only [World.size_alloc, World.size_setCell, World.size_drew, size_drewN]; omega) | (simp; omega) | (simp; done)))))⟩
                | exact ⟨_, _, d + 1, rfl, rfl, by go_num, by omega, by omega, by omega, hide (bst_no d1 HD.out hx.out hc), hide (by (repeat' (first | (with_reducible exact Below.refl _ _) | (with_reducible assumption) | (with_reducible refine Below.alloc ?_ ?_ _) | (with_reducible refine Below.drew ?_) | (with_reducible refine below_drewN ?_ _) | (with_reducible refine Below.setCell ?_ ?_ _) | (with_reducible refine below_step (by with_reducible assumption) ?_ ?_) | (first | (with_reducible exact Nat.le_refl _) | (with_reducible assumption) | omega | (simp only [World.size_alloc, World.size_setCell, World.size_drew, size_drewN]; omega) | (simp; omega) | (simp; done)))))⟩
            case measure => simp [intOf]; omega
        · have HX := hide (best_of HD.out HKK.out HMM.out (by omega) (by omega))
          by_cases g1 : d ≤ K
          · have g2 : (131 : Int) ≤ (N : Int) := by have : ¬ N < M := fun h => hgo ⟨g1, h⟩; have := HMI.out; omega
            have g3 : (d : Int) ≤ (1024 : Int) := by have := HKI.out; omega
            clear hgo
            go_wp2
            go_returns
            have hb := HB.out
            exact ⟨by rw [HX.out]; rfl, (by (repeat' (first | (with_reducible exact Below.refl _ _) | (with_reducible assumption) | (with_reducible refine Below.alloc ?_ ?_ _) | (with_reducible refine Below.drew ?_) | (with_reducible refine below_drewN ?_ _) | (with_reducible refine Below.setCell ?_ ?_ _) | (with_reducible refine below_step (by with_reducible assumption) ?_ ?_) | (first | (with_reducible exact Nat.le_refl _) | (with_reducible assumption) | omega | (simp only [World.size_alloc, World.size_setCell, World.size_drew, size_drewN]; omega) | (simp; omega) | (simp; done)))))⟩
          · have g3 : (1024 : Int) < (d : Int) := by have := HKI.out; omega
            clear hgo g1
            go_wp2
            go_returns
            have hb := HB.out
            exact ⟨by rw [HX.out]; rfl, (by (repeat' (first | (with_reducible exact Below.refl _ _) | (with_reducible assumption) | (with_reducible refine Below.alloc ?_ ?_ _) | (with_reducible refine Below.drew ?_) | (with_reducible refine below_drewN ?_ _) | (with_reducible refine Below.setCell ?_ ?_ _) | (with_reducible refine below_step (by with_reducible assumption) ?_ ?_) | (first | (with_reducible exact Nat.le_refl _) | (with_reducible assumption) | omega | (simp only [World.size_alloc, World.size_setCell, World.size_drew, size_drewN]; omega) | (simp; omega) | (simp; done)))))⟩
    · have r2 : (131 : Int) ≤ (r : Int) := by omega
      have k1 : (a : Int) < 1024 := by omega
      have HMI := hide (show (131 : Int) = (M : Int) by omega)
      have HKI := hide (show (a : Int) = (K : Int) by omega)
      clear hM hK hr1 ha1
      go_enter Try.func18, Try.ntmps18
      go_wp2
      go_loopw [4, 5, 7] (fun v4 v5 v7 wr => ∃ N D d : Nat, v4 = .int .i64 N ∧ v5 = .int .i64 D ∧ v7 = .int .i64 d ∧ 1 ≤ d ∧ d ≤ K + 1 ∧ N ≤ M ∧ Hid (bst l a M (d - 1) = (N, D)) ∧ Hid (Below w.heap.size w wr)) (fun _ _ v7 _ => K + 1 - (intOf v7).toNat)
      case atStart => exact ⟨0, 0, 1, rfl, rfl, rfl, by omega, by omega, by omega, hide rfl, hide (Below.refl _ _)⟩
      case round =>
        obtain ⟨N, D, d, rfl, rfl, rfl, d1, d2, hN, HD, HB⟩ := hrel
        by_cases hgo : d ≤ K ∧ N < M
        · obtain ⟨g1, g2⟩ := hgo
          have g3 : (d : Int) ≤ (a : Int) := by have := HKI.out; omega
          have g4 : (N : Int) < (131 : Int) := by have := HMI.out; omega
          have hrw := hide (hrow.out.below HB.out (Nat.le_refl _))
          obtain ⟨x, hx⟩ : ∃ x, mlen l a d M = x := ⟨_, rfl⟩
          have HC := mlen_ci ad n c a d M (131 : Int) HMI.out hn (hide (fun _ => ⟨by omega, by omega, by omega⟩)) hlen (by omega) (by omega) wr hrw
          rw [hx] at HC
          replace HC := hide HC
          replace hx := hide hx
          have hxm : x ≤ M := by have := mlen_le l a d M; rw [hx.out] at this; exact this
          by_cases hc : N < x
          all_goals
            go_wp2_with fail
            refine HC.out.mono ?_
            rintro e w1 ⟨rfl, hb1⟩
            go_wp2
            go_roundw
            case rel =>
              have hb := HB.out
              have hsz := hb.size
              first
                | exact ⟨_, _, d + 1, rfl, rfl, by go_num, by omega, by omega, by omega, hide (bst_yes d1 HD.out hx.out hc), hide (by (repeat' (first | (with_reducible exact Below.refl _ _) | (with_reducible assumption) | (with_reducible refine Below.alloc ?_ ?_ _) | (with_reducible refine Below.drew ?_) | (with_reducible refine below_drewN ?_ _) | (with_reducible refine Below.setCell ?_ ?_ _) | (with_reducible refine below_step (by with_reducible assumption) ?_ ?_) | (first | (with_reducible exact Nat.le_refl _) | (with_reducible assumption) | omega | (simp only [World.size_alloc, World.size_setCell, World.size_drew, size_drewN]; omega) | (simp; omega) | (simp; done)))))⟩
                | exact ⟨_, _, d + 1, rfl, rfl, by go_num, by omega, by omega, by omega, hide (bst_no d1 HD.out hx.out hc), hide (by (repeat' (first | (with_reducible exact Below.refl _ _) | (with_reducible assumption) | (with_reducible refine Below.alloc ?_ ?_ _) | (with_reducible refine Below.drew ?_) | (with_reducible refine below_drewN ?_ _) | (with_reducible refine Below.setCell ?_ ?_ _) | (with_reducible refine below_step (by with_reducible assumption) ?_ ?_) | (first | (with_reducible exact Nat.le_refl _) | (with_reducible assumption) | omega | (simp only [World.size_alloc, World.size_setCell, World.size_drew, size_drewN]; omega) | (simp; omega) | (simp; done)))))⟩
            case measure => simp [intOf]; omega
        · have HX := hide (best_of HD.out HKK.out HMM.out (by omega) (by omega))
          by_cases g1 : d ≤ K
          · have g2 : (131 : Int) ≤ (N : Int) := by have : ¬ N < M := fun h => hgo ⟨g1, h⟩; have := HMI.out; omega
            have g3 : (d : Int) ≤ (a : Int) := by have := HKI.out; omega
            clear hgo
            go_wp2
            go_returns
            have hb := HB.out
            exact ⟨by rw [HX.out]; rfl, (by (repeat' (first | (with_reducible exact Below.refl _ _) | (with_reducible assumption) | (with_reducible refine Below.alloc ?_ ?_ _) | (with_reducible refine Below.drew ?_) | (with_reducible refine below_drewN ?_ _) | (with_reducible refine Below.setCell ?_ ?_ _) | (with_reducible refine below_step (by with_reducible assumption) ?_ ?_) | (first | (with_reducible exact Nat.le_refl _) | (with_reducible assumption) | omega | (simp only [World.size_alloc, World.size_setCell, World.size_drew, size_drewN]; omega) | (simp; omega) | (simp; done)))))⟩
          · have g3 : (a : Int) < (d : Int) := by have := HKI.out; omega
            clear hgo g1
            go_wp2
            go_returns
            have hb := HB.out
            exact ⟨by rw [HX.out]; rfl, (by (repeat' (first | (with_reducible exact Below.refl _ _) | (with_reducible assumption) | (with_reducible refine Below.alloc ?_ ?_ _) | (with_reducible refine Below.drew ?_) | (with_reducible refine below_drewN ?_ _) | (with_reducible refine Below.setCell ?_ ?_ _) | (with_reducible refine below_step (by with_reducible assumption) ?_ ?_) | (first | (with_reducible exact Nat.le_refl _) | (with_reducible assumption) | omega | (simp only [World.size_alloc, World.size_setCell, World.size_drew, size_drewN]; omega) | (simp; omega) | (simp; done)))))⟩
  · by_cases ha1 : 1024 ≤ a
    · have r1 : (r : Int) < 131 := by omega
      have k2 : (1024 : Int) ≤ (a : Int) := by omega
      have HMI := hide (show (r : Int) = (M : Int) by omega)
      have HKI := hide (show (1024 : Int) = (K : Int) by omega)
      clear hM hK hr1 ha1
      go_enter Try.func18, Try.ntmps18
      go_wp2
      go_loopw [4, 5, 7] (fun v4 v5 v7 wr => ∃ N D d : Nat, v4 = .int .i64 N ∧ v5 = .int .i64 D ∧ v7 = .int .i64 d ∧ 1 ≤ d ∧ d ≤ K + 1 ∧ N ≤ M ∧ Hid (bst l a M (d - 1) = (N, D)) ∧ Hid (Below w.heap.size w wr)) (fun _ _ v7 _ => K + 1 - (intOf v7).toNat)
      case atStart => exact ⟨0, 0, 1, rfl, rfl, rfl, by omega, by omega, by omega, hide rfl, hide (Below.refl _ _)⟩
      case round =>
        obtain ⟨N, D, d, rfl, rfl, rfl, d1, d2, hN, HD, HB⟩ := hrel
        by_cases hgo : d ≤ K ∧ N < M
        · obtain ⟨g1, g2⟩ := hgo
          have g3 : (d : Int) ≤ (1024 : Int) := by have := HKI.out; omega
          have g4 : (N : Int) < (r : Int) := by have := HMI.out; omega
          have hrw := hide (hrow.out.below HB.out (Nat.le_refl _))
          obtain ⟨x, hx⟩ : ∃ x, mlen l a d M = x := ⟨_, rfl⟩
          have HC := mlen_ci ad n c a d M (r : Int) HMI.out hn (hide (fun _ => ⟨by omega, by omega, by omega⟩)) hlen (by omega) (by omega) wr hrw
          rw [hx] at HC
          replace HC := hide HC
          replace hx := hide hx
          have hxm : x ≤ M := by have := mlen_le l a d M; rw [hx.out] at this; exact this
          by_cases hc : N < x
          all_goals
            go_wp2_with fail
            refine HC.out.mono ?_
            rintro e w1 ⟨rfl, hb1⟩
            go_wp2
            go_roundw
            case rel =>
              have hb := HB.out
              have hsz := hb.size
              first
                | exact ⟨_, _, d + 1, rfl, rfl, by go_num, by omega, by omega, by omega, hide (bst_yes d1 HD.out hx.out hc), hide (by (repeat' (first | (with_reducible exact Below.refl _ _) | (with_reducible assumption) | (with_reducible refine Below.alloc ?_ ?_ _) | (with_reducible refine Below.drew ?_) | (with_reducible refine below_drewN ?_ _) | (with_reducible refine Below.setCell ?_ ?_ _) | (with_reducible refine below_step (by with_reducible assumption) ?_ ?_) | (first | (with_reducible exact Nat.le_refl _) | (with_reducible assumption) | omega | (simp only [World.size_alloc, World.size_setCell, World.size_drew, size_drewN]; omega) | (simp; omega) | (simp; done)))))⟩
                | exact ⟨_, _, d + 1, rfl, rfl, by go_num, by omega, by omega, by omega, hide (bst_no d1 HD.out hx.out hc), hide (by (repeat' (first | (with_reducible exact Below.refl _ _) | (with_reducible assumption) | (with_reducible refine Below.alloc ?_ ?_ _) | (with_reducible refine Below.drew ?_) | (with_reducible refine below_drewN ?_ _) | (with_reducible refine Below.setCell ?_ ?_ _) | (with_reducible refine below_step (by with_reducible assumption) ?_ ?_) | (first | (with_reducible exact Nat.le_refl _) | (with_reducible assumption) | omega | (simp only [World.size_alloc, World.size_setCell, World.size_drew, size_drewN]; omega) | (simp; omega) | (simp; done)))))⟩
            case measure => simp [intOf]; omega
        · have HX := hide (best_of HD.out HKK.out HMM.out (by omega) (by omega))
          by_cases g1 : d ≤ K
          · have g2 : (r : Int) ≤ (N : Int) := by have : ¬ N < M := fun h => hgo ⟨g1, h⟩; have := HMI.out; omega
            have g3 : (d : Int) ≤ (1024 : Int) := by have := HKI.out; omega
            clear hgo
            go_wp2
            go_returns
            have hb := HB.out
            exact ⟨by rw [HX.out]; rfl, (by (repeat' (first | (with_reducible exact Below.refl _ _) | (with_reducible assumption) | (with_reducible refine Below.alloc ?_ ?_ _) | (with_reducible refine Below.drew ?_) | (with_reducible refine below_drewN ?_ _) | (with_reducible refine Below.setCell ?_ ?_ _) | (with_reducible refine below_step (by with_reducible assumption) ?_ ?_) | (first | (with_reducible exact Nat.le_refl _) | (with_reducible assumption) | omega | (simp only [World.size_alloc, World.size_setCell, World.size_drew, size_drewN]; omega) | (simp; omega) | (simp; done)))))⟩
          · have g3 : (1024 : Int) < (d : Int) := by have := HKI.out; omega
            clear hgo g1
            go_wp2
            go_returns
            have hb := HB.out
            exact ⟨by rw [HX.out]; rfl, (by (repeat' (first | (with_reducible exact Below.refl _ _) | (with_reducible assumption) | (with_reducible refine Below.alloc ?_ ?_ _) | (with_reducible refine Below.drew ?_) | (with_reducible refine below_drewN ?_ _) | (with_reducible refine Below.setCell ?_ ?_ _) | (with_reducible refine below_step (by with_reducible assumption) ?_ ?_) | (first | (with_reducible exact Nat.le_refl _) | (with_reducible assumption) | omega | (simp only [World.size_alloc, World.size_setCell, World.size_drew, size_drewN]; omega) | (simp; omega) | (simp; done)))))⟩
    · have r1 : (r : Int) < 131 := by omega
      have k1 : (a : Int) < 1024 := by omega
      have HMI := hide (show (r : Int) = (M : Int) by omega)
      have HKI := hide (show (a : Int) = (K : Int) by omega)
      clear hM hK hr1 ha1
      go_enter Try.func18, Try.ntmps18
      go_wp2
      go_loopw [4, 5, 7] (fun v4 v5 v7 wr => ∃ N D d : Nat, v4 = .int .i64 N ∧ v5 = .int .i64 D ∧ v7 = .int .i64 d ∧ 1 ≤ d ∧ d ≤ K + 1 ∧ N ≤ M ∧ Hid (bst l a M (d - 1) = (N, D)) ∧ Hid (Below w.heap.size w wr)) (fun _ _ v7 _ => K + 1 - (intOf v7).toNat)
      case atStart => exact ⟨0, 0, 1, rfl, rfl, rfl, by omega, by omega, by omega, hide rfl, hide (Below.refl _ _)⟩
      case round =>
        obtain ⟨N, D, d, rfl, rfl, rfl, d1, d2, hN, HD, HB⟩ := hrel
        by_cases hgo : d ≤ K ∧ N < M
        · obtain ⟨g1, g2⟩ := hgo
          have g3 : (d : Int) ≤ (a : Int) := by have := HKI.out; omega
          have g4 : (N : Int) < (r : Int) := by have := HMI.out; omega
          have hrw := hide (hrow.out.below HB.out (Nat.le_refl _))
          obtain ⟨x, hx⟩ : ∃ x, mlen l a d M = x := ⟨_, rfl⟩
          have HC := mlen_ci ad n c a d M (r : Int) HMI.out hn (hide (fun _ => ⟨by omega, by omega, by omega⟩)) hlen (by omega) (by omega) wr hrw
          rw [hx] at HC
          replace HC := hide HC
          replace hx := hide hx
          have hxm : x ≤ M := by have := mlen_le l a d M; rw [hx.out] at this; exact this
          by_cases hc : N < x
          all_goals
            go_wp2_with fail
            refine HC.out.mono ?_
            rintro e w1 ⟨rfl, hb1⟩
            go_wp2
            go_roundw
            case rel =>
              have hb := HB.out
              have hsz := hb.size
              first
                | exact ⟨_, _, d + 1, rfl, rfl, by go_num, by omega, by omega, by omega, hide (bst_yes d1 HD.out hx.out hc), hide (by (repeat' (first | (with_reducible exact Below.refl _ _) | (with_reducible assumption) | (with_reducible refine Below.alloc ?_ ?_ _) | (with_reducible refine Below.drew ?_) | (with_reducible refine below_drewN ?_ _) | (with_reducible refine Below.setCell ?_ ?_ _) | (with_reducible refine below_step (by with_reducible assumption) ?_ ?_) | (first | (with_reducible exact Nat.le_refl _) | (with_reducible assumption) | omega | (simp only [World.size_alloc, World.size_setCell, World.size_drew, size_drewN]; omega) | (simp; omega) | (simp; done)))))⟩
                | exact ⟨_, _, d + 1, rfl, rfl, by go_num, by omega, by omega, by omega, hide (bst_no d1 HD.out hx.out hc), hide (by (repeat' (first | (with_reducible exact Below.refl _ _) | (with_reducible assumption) | (with_reducible refine Below.alloc ?_ ?_ _) | (with_reducible refine Below.drew ?_) | (with_reducible refine below_drewN ?_ _) | (with_reducible refine Below.setCell ?_ ?_ _) | (with_reducible refine below_step (by with_reducible assumption) ?_ ?_) | (first | (with_reducible exact Nat.le_refl _) | (with_reducible assumption) | omega | (simp only [World.size_alloc, World.size_setCell, World.size_drew, size_drewN]; omega) | (simp; omega) | (simp; done)))))⟩
            case measure => simp [intOf]; omega
        · have HX := hide (best_of HD.out HKK.out HMM.out (by omega) (by omega))
          by_cases g1 : d ≤ K
          · have g2 : (r : Int) ≤ (N : Int) := by have : ¬ N < M := fun h => hgo ⟨g1, h⟩; have := HMI.out; omega
            have g3 : (d : Int) ≤ (a : Int) := by have := HKI.out; omega
            clear hgo
            go_wp2
            go_returns
            have hb := HB.out
            exact ⟨by rw [HX.out]; rfl, (by (repeat' (first | (with_reducible exact Below.refl _ _) | (with_reducible assumption) | (with_reducible refine Below.alloc ?_ ?_ _) | (with_reducible refine Below.drew ?_) | (with_reducible refine below_drewN ?_ _) | (with_reducible refine Below.setCell ?_ ?_ _) | (with_reducible refine below_step (by with_reducible assumption) ?_ ?_) | (first | (with_reducible exact Nat.le_refl _) | (with_reducible assumption) | omega | (simp only [World.size_alloc, World.size_setCell, World.size_drew, size_drewN]; omega) | (simp; omega) | (simp; done)))))⟩
          · have g3 : (a : Int) < (d : Int) := by have := HKI.out; omega
            clear hgo g1
            go_wp2
            go_returns
            have hb := HB.out
            exact ⟨by rw [HX.out]; rfl, (by (repeat' (first | (with_reducible exact Below.refl _ _) | (with_reducible assumption) | (with_reducible refine Below.alloc ?_ ?_ _) | (with_reducible refine Below.drew ?_) | (with_reducible refine below_drewN ?_ _) | (with_reducible refine Below.setCell ?_ ?_ _) | (with_reducible refine below_step (by with_reducible assumption) ?_ ?_) | (first | (with_reducible exact Nat.le_refl _) | (with_reducible assumption) | omega | (simp only [World.size_alloc, World.size_setCell, World.size_drew, size_drewN]; omega) | (simp; omega) | (simp; done)))))⟩
set_option maxRecDepth 20000 in
set_option maxHeartbeats 4000000 in
theorem best_c {l : List UInt8} (ad : Option Addr) (n c : Nat) (a : Nat) (hn : Hid (n = l.length)) (han : a < n) (hlen : n ≤ 1000000) (w : World) (hrow : Hid (BRow w ad l)) :
    Calls Try.prog 24 #[.slice ad n c, .int .i64 a] w fun e w' => e = .returned (.tuple #[.int .i64 ((best l a).1 : Nat), .int .i64 ((best l a).2 : Nat)]) ∧ Below w.heap.size w w' := by
  obtain ⟨K, hK⟩ : ∃ K, min 1024 a = K := ⟨_, rfl⟩
  have HK := hide hK.symm
  have k1 : K ≤ 1024 := by omega
  have k2 : K ≤ a := by omega
  have k3 := hide (show K = 1024 ∨ K = a by omega)
  clear hK
  go_enter Try.func24, Try.ntmps24
  go_wp2
  go_loopw [6, 7, 8] (fun v6 v7 v8 wr => ∃ N D d : Nat, v6 = .int .i64 N ∧ v7 = .int .i64 D ∧ v8 = .int .i64 d ∧ 1 ≤ d ∧ d ≤ K + 1 ∧ Hid (bst l a (min 131 (n - a)) (d - 1) = (N, D)) ∧ Hid (Below w.heap.size w wr)) (fun _ _ v8 _ => K + 1 - (intOf v8).toNat)
  case atStart => exact ⟨0, 0, 1, rfl, rfl, rfl, by omega, by omega, hide rfl, hide (Below.refl _ _)⟩
  case round =>
    obtain ⟨N, D, d, rfl, rfl, rfl, d1, d2, HD, HB⟩ := hrel
    by_cases hgo : d ≤ K
    · have g1 : (d : Int) ≤ 1024 := by omega
      have g2 : (d : Int) ≤ (a : Int) := by omega
      have hrw := hide (hrow.out.below HB.out (Nat.le_refl _))
      obtain ⟨x, hx⟩ : ∃ x, mlen l a d (min 131 (n - a)) = x := ⟨_, rfl⟩
      have HC := rmlen_c ad n c a d hn d1 (by omega) (by omega) hlen wr hrw
      rw [hx] at HC
      replace HC := hide HC
      replace hx := hide hx
      have hxm : x ≤ 131 := by have := mlen_le l a d (min 131 (n - a)); rw [hx.out] at this; omega
      by_cases hc : N < x
      all_goals
        go_wp2_with fail
        refine HC.out.mono ?_
        rintro e w1 ⟨rfl, hb1⟩
        go_wp2
        go_roundw
        case rel =>
          have hb := HB.out
          have hsz := hb.size
          first
            | exact ⟨_, _, d + 1, rfl, rfl, by go_num, by omega, by omega, hide (bst_yes d1 HD.out hx.out hc), hide (by (repeat' (first | (with_reducible exact Below.refl _ _) | (with_reducible assumption) | (with_reducible refine Below.alloc ?_ ?_ _) | (with_reducible refine Below.drew ?_) | (with_reducible refine below_drewN ?_ _) | (with_reducible refine Below.setCell ?_ ?_ _) | (with_reducible refine below_step (by with_reducible assumption) ?_ ?_) | (first | (with_reducible exact Nat.le_refl _) | (with_reducible assumption) | omega | (simp only [World.size_alloc, World.size_setCell, World.size_drew, size_drewN]; omega) | (simp; omega) | (simp; done)))))⟩
            | exact ⟨_, _, d + 1, rfl, rfl, by go_num, by omega, by omega, hide (bst_no d1 HD.out hx.out hc), hide (by (repeat' (first | (with_reducible exact Below.refl _ _) | (with_reducible assumption) | (with_reducible refine Below.alloc ?_ ?_ _) | (with_reducible refine Below.drew ?_) | (with_reducible refine below_drewN ?_ _) | (with_reducible refine Below.setCell ?_ ?_ _) | (with_reducible refine below_step (by with_reducible assumption) ?_ ?_) | (first | (with_reducible exact Nat.le_refl _) | (with_reducible assumption) | omega | (simp only [World.size_alloc, World.size_setCell, World.size_drew, size_drewN]; omega) | (simp; omega) | (simp; done)))))⟩
        case measure => simp [intOf]; omega
    · have HX := hide (best_of HD.out HK.out (show min 131 (n - a) = min 131 (l.length - a) by rw [hn.out]) (by omega) (by omega))
      have hb := HB.out
      replace hb := hide hb
      by_cases g1 : d ≤ 1024
      · have g2 : (a : Int) < (d : Int) := by have := k3.out; omega
        clear hgo
        go_wp2
        go_returns
        have hb := hb.out
        exact ⟨by rw [HX.out]; rfl, (by (repeat' (first | (with_reducible exact Below.refl _ _) | (with_reducible assumption) | (with_reducible refine Below.alloc ?_ ?_ _) | (with_reducible refine Below.drew ?_) | (with_reducible refine below_drewN ?_ _) | (with_reducible refine Below.setCell ?_ ?_ _) | (with_reducible refine below_step (by with_reducible assumption) ?_ ?_) | (first | (with_reducible exact Nat.le_refl _) | (with_reducible assumption) | omega | (simp only [World.size_alloc, World.size_setCell, World.size_drew, size_drewN]; omega) | (simp; omega) | (simp; done)))))⟩
      · clear hgo
        go_wp2
        go_returns
        have hb := hb.out
        exact ⟨by rw [HX.out]; rfl, (by (repeat' (first | (with_reducible exact Below.refl _ _) | (with_reducible assumption) | (with_reducible refine Below.alloc ?_ ?_ _) | (with_reducible refine Below.drew ?_) | (with_reducible refine below_drewN ?_ _) | (with_reducible refine Below.setCell ?_ ?_ _) | (with_reducible refine below_step (by with_reducible assumption) ?_ ?_) | (first | (with_reducible exact Nat.le_refl _) | (with_reducible assumption) | omega | (simp only [World.size_alloc, World.size_setCell, World.size_drew, size_drewN]; omega) | (simp; omega) | (simp; done)))))⟩
end Go.Proofs.Ytfkfheapikgejaa
