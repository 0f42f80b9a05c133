/- Package pontageref1, walked: norm and Cmp. -/
import Derived.WalkKit
import Derived.KernelRfl
import Derived.RowKit3
import Derived.Deep.LoopGhost
import Derived.Deep.QuietTactic
import Derived.BigQuiet
import Derived.WideLaws
import Derived.Laws.Rows
import Derived.Below
import Derived.Deep.Draws
import Derived.Outline
import Derived.LoopN
import Derived.Handy
import Derived.Laws.Externs
import Derived.Laws.BitsAllLaws
import Derived.Laws.BitsLemmas
import Derived.Deep.DeepCutAuto
import Derived.Deep.CutBlock
import Derived.Deep.RegionHeld3
import Derived.Test.YthikkajjnfeigaaR
import Derived.Test.YthikkajjnfeigaaProg
namespace Go.Proofs.Ythikkajjnfeigaa
open Go.RowKit
set_option linter.unusedVariables false
set_option linter.unusedSimpArgs false
/-- The cells at this address hold these digits. -/
def Row (w : World) (ad : Option Addr) (l : List Nat) : Prop := l ≠ [] → ∃ b o, ad = some ⟨b, o, none⟩ ∧ ∀ i, i < l.length → w.cell? ⟨b, o + i, none⟩ = some (.int .i64 ((l.getD i 0 : Nat) : Int))
theorem Row.below {w w' : World} {ad : Option Addr} {l : List Nat} {B : Nat} (h : Row w ad l) (hb : Below B w w') (hB : w.heap.size ≤ B) : Row w' ad l := by
  intro hl
  obtain ⟨b, o, rfl, hc⟩ := h hl
  refine ⟨b, o, rfl, fun i hi => ?_⟩
  have hbl : b < w.heap.size := World.block_lt_of_cell? w _ (hc i hi)
  exact (hb.cell (p := ⟨b, o + i, none⟩) (by show b < B; omega)).trans (hc i hi)
theorem Row.take {w : World} {ad : Option Addr} {l : List Nat} (h : Row w ad l) (n : Nat) : Row w ad (l.take n) := by
  intro hl
  obtain ⟨b, o, rfl, hc⟩ := h (fun e => hl (by rw [e]; simp))
  refine ⟨b, o, rfl, fun i hi => ?_⟩
  simp only [List.length_take] at hi
  rw [hc i (by omega), List.getD_eq_getElem?_getD, List.getD_eq_getElem?_getD, List.getElem?_take, if_pos (by omega)]
theorem Row.nil (w : World) (ad : Option Addr) : Row w ad [] := fun h => absurd rfl h
set_option maxHeartbeats 1000000 in
theorem norm_c {l : List Nat} (hd : Digs l) (ad : Option Addr) (n c : Nat) (hn : n = l.length) (hc : n ≤ c) (hlen : n ≤ 1000000) (w : World) (hrow : Row w ad l) :
    Calls Try.prog 36 #[.slice ad n c] w fun e w' => e = .returned (.slice ad (nd (val l)) c) ∧ w = w' := by
  have HN := hide hn
  have HR := hide hrow
  have HD := hide hd
  clear hn hrow hd
  go_enter Try.func36, Try.ntmps36
  go_wp2
  go_loop [3] (fun v3 => ∃ k : Nat, k ≤ n ∧ v3 = .int .i64 k ∧ Hid (∀ i, k ≤ i → i < l.length → l.getD i 0 = 0)) (fun v3 => (intOf v3).toNat)
  case atStart => exact ⟨n, Nat.le_refl _, rfl, hide (fun i h1 h2 => by have := HN.out; omega)⟩
  case round =>
    obtain ⟨k, hk, rfl, HZ⟩ := hrel
    by_cases h0 : 0 < k
    · obtain ⟨b, o, rfl, hcell⟩ := HR.out (by intro e; have := HN.out; rw [e] at this; simp at this; omega)
      have hx := hcell (k - 1) (by have := HN.out; omega)
      clear hcell
      obtain ⟨d, hdd⟩ : ∃ d, l.getD (k - 1) 0 = d := ⟨_, rfl⟩
      rw [hdd] at hx
      replace hdd := hide hdd
      by_cases hz : d = 0
      · subst hz
        go_wp2
        go_round
        case rel =>
          refine ⟨k - 1, by omega, by go_num, hide (fun i h1 h2 => ?_)⟩
          by_cases e : i = k - 1
          · subst e; exact hdd.out
          · exact HZ.out i (by omega) h2
        case measure => simp [intOf]; omega
      · have t : (((d : Nat) : Int) == 0) = false := by simpa using hz
        have HX := hide (dig_val_take (n := k) HD.out (by have := HN.out; omega) HZ.out (.inr (by rw [hdd.out]; exact hz)))
        clear hz
        go_wp2
        go_ret
        have e : nd (val l) = k := by unfold nd; rw [← HX.out, List.length_take]; have := HN.out; omega
        rw [e]
        exact ⟨rfl, rfl⟩
    · obtain rfl : k = 0 := by omega
      have HX := hide (dig_val_take (n := 0) HD.out (by omega) HZ.out (.inl rfl))
      go_wp2
      go_ret
      have e : nd (val l) = 0 := by unfold nd; rw [← HX.out, List.length_take]; omega
      rw [e]
      exact ⟨rfl, rfl⟩
theorem norm_row {l : List Nat} (hd : Digs l) : l.take (nd (val l)) = dig (val l) := by
  have hv := val_lt hd
  have h1 := nd_le_of hv
  by_cases h0 : val l = 0
  · rw [h0, nd_zero, dig_zero, List.take_zero]
  · have : ∀ i, i < nd (val l) → (l.take (nd (val l))).getD i 0 = (dig (val l)).getD i 0 := by
      intro i hi
      rw [dig_get, List.getD_eq_getElem?_getD, List.getElem?_take, if_pos hi]
      have h2 := val_take_drop l i (by omega)
      have h3 := val_lt (digs_take i hd)
      rw [List.length_take, Nat.min_eq_left (by omega)] at h3
      have h4 : val l / 65536 ^ i = val (l.drop i) := by
        rw [h2, Nat.add_mul_div_right _ _ (Nat.pow_pos (by omega)), Nat.div_eq_of_lt h3, Nat.zero_add]
      rw [h4, List.drop_eq_getElem_cons (by omega), val, List.getElem?_eq_getElem (by omega)]
      have := hd l[i] (List.getElem_mem _)
      simp only [Option.getD_some]
      omega
    apply List.ext_getElem
    · rw [List.length_take]; unfold nd at *; omega
    · intro n h3 h4
      have := this n (by unfold nd; exact h4)
      rw [List.getD_eq_getElem?_getD, List.getD_eq_getElem?_getD, List.getElem?_eq_getElem h3, List.getElem?_eq_getElem h4] at this
      simpa using this
theorem nd_cmp {A B : Nat} (h : nd A < nd B) : A < B := by
  have h1 := nd_lt A
  have h2 := nd_le (N := B) (fun e => by subst e; rw [nd_zero] at h; omega)
  have := Nat.pow_le_pow_right (n := 65536) (by omega) (show nd A ≤ nd B - 1 by omega)
  omega
theorem cmpV_lt {A B : Nat} (h : A < B) : cmpV A B = -1 := by rw [cmpV, if_pos h]
theorem cmpV_gt {A B : Nat} (h : B < A) : cmpV A B = 1 := by rw [cmpV, if_neg (by omega), if_pos h]
theorem cmpV_eq {A B : Nat} (h : A = B) : cmpV A B = 0 := by rw [cmpV, if_neg (by omega), if_neg (by omega)]
set_option maxHeartbeats 2000000 in
theorem rcmp_c {A B : Nat} (ad : Option Addr) (n c : Nat) (hn : Hid (n = nd A)) (ad' : Option Addr) (n' c' : Nat) (hn' : Hid (n' = nd B)) (hlen : n ≤ 100000) (hlen' : n' ≤ 100000) (w : World) (hrow : Hid (Row w ad (dig A))) (hrow' : Hid (Row w ad' (dig B))) :
    Calls Try.prog 44 #[.slice ad n c, .slice ad' n' c'] w fun e w' => e = .returned (.int .i64 (cmpV A B)) ∧ Below w.heap.size w w' := by
  by_cases hl : n = n'
  · subst hl
    have HL := hide (hn.out.symm.trans hn'.out)
    go_enter Try.func44, Try.ntmps44
    go_wp2
    go_loopw [5] (fun v5 wr => ∃ k : Nat, k ≤ n ∧ v5 = .int .i64 (k - 1) ∧ Hid (∀ j, k ≤ j → j < n → (dig A).getD j 0 = (dig B).getD j 0) ∧ Hid (Below w.heap.size w wr)) (fun v5 _ => (intOf v5 + 1).toNat)
    case atStart => exact ⟨n, Nat.le_refl _, rfl, hide (fun j h1 h2 => by omega), hide (Below.refl _ _)⟩
    case round =>
      obtain ⟨k, hk, rfl, HE, HB⟩ := hrel
      by_cases h0 : 0 < k
      · have tk : decide (0 ≤ ((k : Nat) : Int) - 1) = true := decide_eq_true (by omega)
        obtain ⟨b, o, rfl, hcell⟩ := hrow.out (by intro e; have := hn.out; unfold nd at this; rw [e] at this; simp at this; omega)
        obtain ⟨b', o', rfl, hcell'⟩ := hrow'.out (by intro e; have := hn'.out; unfold nd at this; rw [e] at this; simp at this; omega)
        have hx := hcell (k - 1) (by have := hn.out; unfold nd at this; omega)
        have hx' := hcell' (k - 1) (by have := hn'.out; unfold nd at this; omega)
        have hbl := World.block_lt_of_cell? w _ hx
        have hbl' := World.block_lt_of_cell? w _ hx'
        replace hx := (HB.out.cell (p := ⟨b, o + (k - 1), none⟩) hbl).trans hx
        replace hx' := (HB.out.cell (p := ⟨b', o' + (k - 1), none⟩) hbl').trans hx'
        clear hcell hcell' hbl hbl'
        obtain ⟨d, hd⟩ : ∃ d, (dig A).getD (k - 1) 0 = d := ⟨_, rfl⟩
        obtain ⟨d', hd'⟩ : ∃ d', (dig B).getD (k - 1) 0 = d' := ⟨_, rfl⟩
        rw [hd] at hx
        rw [hd'] at hx'
        replace hd := hide hd
        replace hd' := hide hd'
        have q1 : 0 ≤ ((k : Nat) : Int) - 1 := by omega
        have q2 : ((k : Nat) : Int) - 1 < (n : Int) := by omega
        have q3 : (((k : Nat) : Int) - 1).toNat = k - 1 := by omega
        have hca := hide (fun (h : d < d') => val_cmp (digs_dig A) (digs_dig B) (k - 1) (by have := hn.out; unfold nd at this; omega) HL.out (fun j h1 h2 => HE.out j (by omega) (by have := hn.out; unfold nd at this; omega)) (by rw [hd.out, hd'.out]; exact h))
        have hcb := hide (fun (h : d' < d) => val_cmp (digs_dig B) (digs_dig A) (k - 1) (by have := hn'.out; unfold nd at this; omega) HL.out.symm (fun j h1 h2 => (HE.out j (by omega) (by have := hn'.out; unfold nd at this; omega)).symm) (by rw [hd.out, hd'.out]; exact h))
        rcases Nat.lt_trichotomy d d' with h | h | h
        · have t : decide (d < d') = true := decide_eq_true (by omega)
          have hv := hca.out h
          rw [val_dig, val_dig] at hv
          have HV := hide hv
          clear h hv hca hcb
          go_wp2
          repeat' ((first | go_quiet (fail)); go_wp2)
          go_ret
          have hb := HB.out
          exact ⟨ret_int (cmpV_lt HV.out).symm, (by (repeat' (first | (with_reducible exact Below.refl _ _) | (with_reducible assumption) | (with_reducible refine Below.alloc ?_ ?_ _) | (with_reducible refine Below.drew ?_) | (with_reducible refine below_drewN ?_ _) | (with_reducible refine Below.setCell ?_ ?_ _) | (with_reducible refine below_step (by with_reducible assumption) ?_ ?_) | (first | (with_reducible exact Nat.le_refl _) | (with_reducible assumption) | omega | (simp only [World.size_alloc, World.size_setCell, World.size_drew, size_drewN]; omega) | (simp; omega) | (simp; done)))))⟩
        · have t : decide (d < d') = false := decide_eq_false (by omega)
          have t' : decide (d' < d) = false := decide_eq_false (by omega)
          have H := hide h
          clear h hca hcb
          go_wp2
          repeat' ((first | go_quiet (fail)); go_wp2)
          go_roundw
          case rel =>
            have hb := HB.out
            refine ⟨k - 1, by omega, by go_num, hide (fun j h1 h2 => ?_), hide (by (repeat' (first | (with_reducible exact Below.refl _ _) | (with_reducible assumption) | (with_reducible refine Below.alloc ?_ ?_ _) | (with_reducible refine Below.drew ?_) | (with_reducible refine below_drewN ?_ _) | (with_reducible refine Below.setCell ?_ ?_ _) | (with_reducible refine below_step (by with_reducible assumption) ?_ ?_) | (first | (with_reducible exact Nat.le_refl _) | (with_reducible assumption) | omega | (simp only [World.size_alloc, World.size_setCell, World.size_drew, size_drewN]; omega) | (simp; omega) | (simp; done)))))⟩
            by_cases e : j = k - 1
            · subst e; rw [hd.out, hd'.out, H.out]
            · exact HE.out j (by omega) h2
          case measure => simp [intOf]; omega
        · have t : decide (d < d') = false := decide_eq_false (by omega)
          have t' : decide (d' < d) = true := decide_eq_true (by omega)
          have hv := hcb.out h
          rw [val_dig, val_dig] at hv
          have HV := hide hv
          clear h hv hca hcb
          go_wp2
          repeat' ((first | go_quiet (fail)); go_wp2)
          go_ret
          have hb := HB.out
          exact ⟨ret_int (cmpV_gt HV.out).symm, (by (repeat' (first | (with_reducible exact Below.refl _ _) | (with_reducible assumption) | (with_reducible refine Below.alloc ?_ ?_ _) | (with_reducible refine Below.drew ?_) | (with_reducible refine below_drewN ?_ _) | (with_reducible refine Below.setCell ?_ ?_ _) | (with_reducible refine below_step (by with_reducible assumption) ?_ ?_) | (first | (with_reducible exact Nat.le_refl _) | (with_reducible assumption) | omega | (simp only [World.size_alloc, World.size_setCell, World.size_drew, size_drewN]; omega) | (simp; omega) | (simp; done)))))⟩
      · obtain rfl : k = 0 := by omega
        have hv : A = B := by
          have := val_eq_of HL.out (fun j hj => HE.out j (by omega) (by have := hn.out; unfold nd at this; omega))
          rwa [val_dig, val_dig] at this
        have HV := hide hv
        clear hv
        go_wp2
        go_ret
        have hb := HB.out
        exact ⟨ret_int (cmpV_eq HV.out).symm, (by (repeat' (first | (with_reducible exact Below.refl _ _) | (with_reducible assumption) | (with_reducible refine Below.alloc ?_ ?_ _) | (with_reducible refine Below.drew ?_) | (with_reducible refine below_drewN ?_ _) | (with_reducible refine Below.setCell ?_ ?_ _) | (with_reducible refine below_step (by with_reducible assumption) ?_ ?_) | (first | (with_reducible exact Nat.le_refl _) | (with_reducible assumption) | omega | (simp only [World.size_alloc, World.size_setCell, World.size_drew, size_drewN]; omega) | (simp; omega) | (simp; done)))))⟩
  · have t1 : (n != n') = true := by rw [bne_iff_ne]; omega
    have t0 : ((n : Int) != (n' : Int)) = true := by rw [bne_iff_ne]; omega
    rcases Nat.lt_or_gt_of_ne hl with h | h
    · have t2 : decide (n < n') = true := decide_eq_true (by omega)
      have hv := nd_cmp (A := A) (B := B) (by have := hn.out; have := hn'.out; omega)
      have HV := hide hv
      clear hv h hl
      go_enter Try.func44, Try.ntmps44
      go_wp2
      go_ret
      exact ⟨ret_int (cmpV_lt HV.out).symm, (by (repeat' (first | (with_reducible exact Below.refl _ _) | (with_reducible assumption) | (with_reducible refine Below.alloc ?_ ?_ _) | (with_reducible refine Below.drew ?_) | (with_reducible refine below_drewN ?_ _) | (with_reducible refine Below.setCell ?_ ?_ _) | (with_reducible refine below_step (by with_reducible assumption) ?_ ?_) | (first | (with_reducible exact Nat.le_refl _) | (with_reducible assumption) | omega | (simp only [World.size_alloc, World.size_setCell, World.size_drew, size_drewN]; omega) | (simp; omega) | (simp; done)))))⟩
    · have t2 : decide (n < n') = false := decide_eq_false (by omega)
      have hv := nd_cmp (A := B) (B := A) (by have := hn.out; have := hn'.out; omega)
      have HV := hide hv
      clear hv h hl
      go_enter Try.func44, Try.ntmps44
      go_wp2
      go_ret
      exact ⟨ret_int (cmpV_gt HV.out).symm, (by (repeat' (first | (with_reducible exact Below.refl _ _) | (with_reducible assumption) | (with_reducible refine Below.alloc ?_ ?_ _) | (with_reducible refine Below.drew ?_) | (with_reducible refine below_drewN ?_ _) | (with_reducible refine Below.setCell ?_ ?_ _) | (with_reducible refine below_step (by with_reducible assumption) ?_ ?_) | (first | (with_reducible exact Nat.le_refl _) | (with_reducible assumption) | omega | (simp only [World.size_alloc, World.size_setCell, World.size_drew, size_drewN]; omega) | (simp; omega) | (simp; done)))))⟩
end Go.Proofs.Ythikkajjnfeigaa
