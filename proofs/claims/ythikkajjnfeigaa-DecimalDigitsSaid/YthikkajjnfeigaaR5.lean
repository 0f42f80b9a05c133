/- Package pontageref1, walked: Add. -/
import Derived.WalkKit
import Derived.KernelRfl
import Derived.RowKit3
import Derived.Deep.LoopGhost
import Derived.Deep.QuietTactic
import Derived.BigQuiet
import Derived.WideLaws
import Derived.Laws.Rows
import Derived.Below
import Derived.Deep.Draws
import Derived.Outline
import Derived.LoopN
import Derived.Handy
import Derived.Laws.Externs
import Derived.Laws.BitsAllLaws
import Derived.Laws.BitsLemmas
import Derived.Deep.DeepCutAuto
import Derived.Deep.CutBlock
import Derived.Deep.RegionHeld3
import Derived.Test.YthikkajjnfeigaaR4
import Derived.OwnWalk
namespace Go.Proofs.Ythikkajjnfeigaa
open Go.RowKit
set_option linter.unusedVariables false
set_option linter.unusedSimpArgs false
theorem infoI : (Try.prog.info? 3).map (fun i => (i.zero, i.size, i.bytes)) = some (some (.int .i64 0), 1, 8) := by kernel_rfl
/-- What the loop of Add keeps. -/
structure AddInv (A B k t : Nat) (L : List Nat) : Prop where
  len : L.length = k
  dg : Digs L
  eq : val L + t * 65536 ^ k = val ((dig A).take k) + val ((dig B).take k)
  t1 : t ≤ 1
  top : k = 0 ∨ 65536 ^ (k - 1) ≤ A + B
  le : t = 0 ∨ k ≤ nd A ∨ k ≤ nd B
theorem one_cell (wr : World) (v : Value) (e : TypeId) : ∀ j u, [v][j]? = some u → (wr.alloc (.cells #[v] e)).cell? ((⟨wr.heap.size, 0, none⟩ : Addr).add j) = some u := by
  intro j u hj
  match j, hj with
  | 0, hj => simp at hj; subst hj; simp [Addr.add, go_sem]
theorem below_step2 {w wr w1 : World} {o : Obj} {v : Value} {E n : Nat} {xs : List Value} (hg : (wr.alloc o).grownBy w1 v.ownBlock) (hb : Below w.heap.size w wr) (ho : wr.ownsRow w.heap.size E 1 v n xs) : Below w.heap.size w w1 :=
  (hb.alloc hb.size o).grown hg (by have := hb.size; simp; omega) (fun k hk => (ho.lt k hk).1)
theorem owns_row {w : World} {B E k : Nat} {v : Value} {L : List Nat} (h : w.ownsRow B E 1 v k (L.map fun d : Nat => Value.int .i64 (d : Int))) (hl : L.length = k) : ∃ ad c, v = .slice ad k c ∧ k ≤ c ∧ Row w ad L := by
  have h' := h
  obtain ⟨hx, ⟨rfl, rfl⟩ | ⟨g, cap, cur, rfl, hg, hh, hc, hm, hs, ht⟩⟩ := h
  · refine ⟨none, 0, rfl, Nat.le_refl _, fun hne => ?_⟩
    exact absurd (List.eq_nil_of_length_eq_zero hl) hne
  · refine ⟨_, cap, rfl, hc, fun hne => ⟨g, 0, rfl, fun i hi => ?_⟩⟩
    rw [Nat.zero_add, h'.cellAt i (by omega), List.getElem?_map, List.getElem?_eq_getElem hi, List.getD_eq_getElem?_getD, List.getElem?_eq_getElem hi]
    rfl
theorem take_step (A k : Nat) : val ((dig A).take (k + 1)) = val ((dig A).take k) + (dig A).getD k 0 * 65536 ^ k := by
  by_cases h : k < (dig A).length
  · exact val_take_succ h
  · rw [List.take_of_length_le (by omega), List.take_of_length_le (by omega), List.getD_eq_getElem?_getD, List.getElem?_eq_none (by omega)]
    simp
theorem take_le (A k : Nat) : val ((dig A).take k) ≤ A := by
  by_cases h : k ≤ (dig A).length
  · have := val_take_drop (dig A) k h
    rw [val_dig] at this
    omega
  · rw [List.take_of_length_le (by omega), val_dig]; omega
theorem AddInv.step {A B k t d d' : Nat} {L : List Nat} (h : AddInv A B k t L) (ed : (dig A).getD k 0 = d) (ed' : (dig B).getD k 0 = d') (hc : k < nd A ∨ k < nd B ∨ 0 < t) : AddInv A B (k + 1) ((t + d + d') / 65536) (L ++ [(t + d + d') % 65536]) := by
  obtain ⟨len, dg, eq, t1, top, le⟩ := h
  have hd : d < 65536 := by rw [← ed]; exact getD_lt (digs_dig A) k
  have hd' : d' < 65536 := by rw [← ed']; exact getD_lt (digs_dig B) k
  have hp : 0 < 65536 ^ k := Nat.pow_pos (by omega)
  refine ⟨by simp [len], digs_snoc dg (by omega), ?_, by omega, ?_, ?_⟩
  · rw [val_snoc, len, take_step, take_step, ed, ed', Nat.pow_succ, Nat.mul_comm (65536 ^ k) 65536, ← Nat.mul_assoc]
    have e : (t + d + d') % 65536 * 65536 ^ k + (t + d + d') / 65536 * 65536 * 65536 ^ k = (t + d + d') * 65536 ^ k := by rw [← Nat.add_mul]; congr 1; omega
    rw [Nat.add_assoc, e, Nat.add_mul, Nat.add_mul]
    omega
  · right
    rw [Nat.add_sub_cancel]
    rcases hc with hc | hc | hc
    · have := nd_le (N := A) (fun e => by subst e; rw [nd_zero] at hc; omega)
      have := Nat.pow_le_pow_right (n := 65536) (by omega) (show k ≤ nd A - 1 by omega)
      omega
    · have := nd_le (N := B) (fun e => by subst e; rw [nd_zero] at hc; omega)
      have := Nat.pow_le_pow_right (n := 65536) (by omega) (show k ≤ nd B - 1 by omega)
      omega
    · have h1 := take_le A k
      have h2 := take_le B k
      have := Nat.mul_le_mul_right (65536 ^ k) (show 1 ≤ t from hc)
      omega
  · rcases hc with hc | hc | hc
    · exact .inr (.inl hc)
    · exact .inr (.inr hc)
    · by_cases ha : k < nd A
      · exact .inr (.inl ha)
      · by_cases hb : k < nd B
        · exact .inr (.inr hb)
        · left
          have z1 : d = 0 := by rw [← ed, List.getD_eq_getElem?_getD, List.getElem?_eq_none (by unfold nd at ha; omega)]; rfl
          have z2 : d' = 0 := by rw [← ed', List.getD_eq_getElem?_getD, List.getElem?_eq_none (by unfold nd at hb; omega)]; rfl
          omega
theorem AddInv.done {A B k : Nat} {L : List Nat} (h : AddInv A B k 0 L) (ha : nd A ≤ k) (hb : nd B ≤ k) : L = dig (A + B) := by
  obtain ⟨len, dg, eq, t1, top, le⟩ := h
  rw [List.take_of_length_le ha, List.take_of_length_le hb, val_dig, val_dig] at eq
  have e : val L = A + B := by omega
  rw [← e]
  refine dig_unique dg fun hne => ?_
  rw [e, len]
  rcases top with rfl | top
  · exact absurd (List.eq_nil_of_length_eq_zero len) hne
  · exact top
set_option maxHeartbeats 4000000 in
theorem radd_c {A B : Nat} (ad : Option Addr) (n c : Nat) (ad' : Option Addr) (n' c' : Nat) (w : World) (hA : Hid (Big w ad n c A)) (hB : Hid (Big w ad' n' c' B)) (hlen : n ≤ 100000) (hlen' : n' ≤ 100000) :
    Calls Try.prog 26 #[.slice ad n c, .slice ad' n' c'] w fun e w' => ∃ ad n'' c, e = .returned (.slice ad n'' c) ∧ Hid (Big w' ad n'' c (A + B)) ∧ n'' ≤ n + n' + 1 ∧ Below w.heap.size w w' := by
  obtain ⟨i0, hi, hz0, hz1, hz2⟩ := info_parts infoI
  have N1 := and_i64
  go_enter Try.func26, Try.ntmps26
  go_wp2
  go_loopw [5, 6, 7] (fun v5 v6 v7 wr => ∃ (k t : Nat) (L : List Nat), v7 = .int .i64 k ∧ v6 = .int .i64 t ∧ k ≤ n + n' + 1 ∧ Hid (AddInv A B k t L) ∧ Hid (wr.ownsRow w.heap.size 3 1 v5 k (L.map fun d : Nat => Value.int .i64 (d : Int))) ∧ Hid (Below w.heap.size w wr)) (fun _ _ v7 _ => n + n' + 1 - (intOf v7).toNat)
  case atStart => exact ⟨0, 0, [], rfl, rfl, by omega, hide ⟨rfl, fun d hd => by simp at hd, by simp [val], by omega, .inl rfl, .inl rfl⟩, hide (World.ownsRow_nil _ _ _ _), hide (Below.refl _ _)⟩
  case round =>
    obtain ⟨k, t, L, rfl, rfl, hk, HI, HO, HBl⟩ := hrel
    have ht1 := HI.out.t1
    have hle := HI.out.le
    rw [← hA.out.hn, ← hB.out.hn] at hle
    replace hle := hide hle
    by_cases h1 : k < n
    · have hkk : k + 1 ≤ n + n' + 1 := by omega
      obtain ⟨b, o, rfl, hcell⟩ := hA.out.row (by intro e; have := hA.out.hn; unfold nd at this; rw [e] at this; simp at this; omega)
      have hx := hcell k (by have := hA.out.hn; unfold nd at this; omega)
      have hbl := World.block_lt_of_cell? w _ hx
      replace hx := (HBl.out.cell (p := ⟨b, o + k, none⟩) hbl).trans hx
      obtain ⟨d, ed⟩ : ∃ d, (dig A).getD k 0 = d := ⟨_, rfl⟩
      have hd : d < 65536 := by rw [← ed]; exact getD_lt (digs_dig A) k
      rw [ed] at hx
      replace ed := hide ed
      clear hcell hbl
      by_cases h2 : k < n'
      · obtain ⟨b', o', rfl, hcell⟩ := hB.out.row (by intro e; have := hB.out.hn; unfold nd at this; rw [e] at this; simp at this; omega)
        have hx' := hcell k (by have := hB.out.hn; unfold nd at this; omega)
        have hbl := World.block_lt_of_cell? w _ hx'
        replace hx' := (HBl.out.cell (p := ⟨b', o' + k, none⟩) hbl).trans hx'
        obtain ⟨d', ed'⟩ : ∃ d, (dig B).getD k 0 = d := ⟨_, rfl⟩
        have hd' : d' < 65536 := by rw [← ed']; exact getD_lt (digs_dig B) k
        rw [ed'] at hx'
        replace ed' := hide ed'
        clear hcell hbl
        have HN := hide (HI.out.step ed.out ed'.out (.inl (by rw [← hA.out.hn]; exact h1)))
        go_wp2_with (at_builtin; refine wpList_append_own _ rfl (.tmp 44) (.tmp 47) 48 rfl w.heap.size 3 i0 (.int .i64 0) 1 8 Try.underlying48 hi hz0 hz1 hz2 rfl (by decide) _ _ _ rfl (HO.out.alloc _) ⟨wr.heap.size, 0, none⟩ 1 1 [.int .i64 (((t : Int) + (d : Int) + (d' : Int)) % 65536)] rfl rfl (one_cell _ _ _) (by intro u hu; simp at hu; subst hu; rfl) (by unfold maxLen; omega) (by omega) (by have := HBl.out.size; simp; omega) ?_; intro v' w1 hown' hgrow _; have HO' := hide hown'; have HG := hide hgrow; clear hown' hgrow)
        go_roundw
        case rel =>
          have hb := HBl.out
          refine ⟨k + 1, (t + d + d') / 65536, L ++ [(t + d + d') % 65536], by go_num, by go_num, by omega, hide (by simpa using HN.out), hide ?_, hide ((below_step2 HG.out HBl.out HO.out))⟩
          have := HO'.out
          simpa using this
        case measure => simp [intOf]; omega
      · have ed' := hide (show (dig B).getD k 0 = 0 by rw [List.getD_eq_getElem?_getD, List.getElem?_eq_none (by have := hB.out.hn; unfold nd at this; omega)]; rfl)
        have HN := hide (HI.out.step ed.out ed'.out (.inl (by rw [← hA.out.hn]; exact h1)))
        go_wp2_with (at_builtin; refine wpList_append_own _ rfl (.tmp 44) (.tmp 47) 48 rfl w.heap.size 3 i0 (.int .i64 0) 1 8 Try.underlying48 hi hz0 hz1 hz2 rfl (by decide) _ _ _ rfl (HO.out.alloc _) ⟨wr.heap.size, 0, none⟩ 1 1 [.int .i64 (((t : Int) + (d : Int)) % 65536)] rfl rfl (one_cell _ _ _) (by intro u hu; simp at hu; subst hu; rfl) (by unfold maxLen; omega) (by omega) (by have := HBl.out.size; simp; omega) ?_; intro v' w1 hown' hgrow _; have HO' := hide hown'; have HG := hide hgrow; clear hown' hgrow)
        go_roundw
        case rel =>
          have hb := HBl.out
          refine ⟨k + 1, (t + d) / 65536, L ++ [(t + d) % 65536], by go_num, by go_num, by omega, hide (by simpa using HN.out), hide ?_, hide ((below_step2 HG.out HBl.out HO.out))⟩
          have := HO'.out
          simpa using this
        case measure => simp [intOf]; omega
    · have ed := hide (show (dig A).getD k 0 = 0 by rw [List.getD_eq_getElem?_getD, List.getElem?_eq_none (by have := hA.out.hn; unfold nd at this; omega)]; rfl)
      by_cases h2 : k < n'
      · have hkk : k + 1 ≤ n + n' + 1 := by omega
        obtain ⟨b', o', rfl, hcell⟩ := hB.out.row (by intro e; have := hB.out.hn; unfold nd at this; rw [e] at this; simp at this; omega)
        have hx' := hcell k (by have := hB.out.hn; unfold nd at this; omega)
        have hbl := World.block_lt_of_cell? w _ hx'
        replace hx' := (HBl.out.cell (p := ⟨b', o' + k, none⟩) hbl).trans hx'
        obtain ⟨d', ed'⟩ : ∃ d, (dig B).getD k 0 = d := ⟨_, rfl⟩
        have hd' : d' < 65536 := by rw [← ed']; exact getD_lt (digs_dig B) k
        rw [ed'] at hx'
        replace ed' := hide ed'
        clear hcell hbl
        have HN := hide (HI.out.step ed.out ed'.out (.inr (.inl (by rw [← hB.out.hn]; exact h2))))
        go_wp2_with (at_builtin; refine wpList_append_own _ rfl (.tmp 44) (.tmp 47) 48 rfl w.heap.size 3 i0 (.int .i64 0) 1 8 Try.underlying48 hi hz0 hz1 hz2 rfl (by decide) _ _ _ rfl (HO.out.alloc _) ⟨wr.heap.size, 0, none⟩ 1 1 [.int .i64 (((t : Int) + (d' : Int)) % 65536)] rfl rfl (one_cell _ _ _) (by intro u hu; simp at hu; subst hu; rfl) (by unfold maxLen; omega) (by omega) (by have := HBl.out.size; simp; omega) ?_; intro v' w1 hown' hgrow _; have HO' := hide hown'; have HG := hide hgrow; clear hown' hgrow)
        go_roundw
        case rel =>
          have hb := HBl.out
          refine ⟨k + 1, (t + d') / 65536, L ++ [(t + d') % 65536], by go_num, by go_num, by omega, hide (by simpa using HN.out), hide ?_, hide ((below_step2 HG.out HBl.out HO.out))⟩
          have := HO'.out
          simpa using this
        case measure => simp [intOf]; omega
      · have ed' := hide (show (dig B).getD k 0 = 0 by rw [List.getD_eq_getElem?_getD, List.getElem?_eq_none (by have := hB.out.hn; unfold nd at this; omega)]; rfl)
        by_cases h3 : 0 < t
        · have hkk : k + 1 ≤ n + n' + 1 := by have := hle.out; omega
          have HN := hide (HI.out.step ed.out ed'.out (.inr (.inr h3)))
          go_wp2_with (at_builtin; refine wpList_append_own _ rfl (.tmp 44) (.tmp 47) 48 rfl w.heap.size 3 i0 (.int .i64 0) 1 8 Try.underlying48 hi hz0 hz1 hz2 rfl (by decide) _ _ _ rfl (HO.out.alloc _) ⟨wr.heap.size, 0, none⟩ 1 1 [.int .i64 (((t : Int)) % 65536)] rfl rfl (one_cell _ _ _) (by intro u hu; simp at hu; subst hu; rfl) (by unfold maxLen; omega) (by omega) (by have := HBl.out.size; simp; omega) ?_; intro v' w1 hown' hgrow _; have HO' := hide hown'; have HG := hide hgrow; clear hown' hgrow)
          go_roundw
          case rel =>
            have hb := HBl.out
            refine ⟨k + 1, (t) / 65536, L ++ [(t) % 65536], by go_num, by go_num, by omega, hide (by simpa using HN.out), hide ?_, hide ((below_step2 HG.out HBl.out HO.out))⟩
            have := HO'.out
            simpa using this
          case measure => simp [intOf]; omega
        · obtain rfl : t = 0 := by omega
          have HF := hide (HI.out.done (by rw [← hA.out.hn]; omega) (by rw [← hB.out.hn]; omega))
          go_wp2
          go_ret
          obtain ⟨g, cap, rfl, hc, hrow⟩ := owns_row HO.out HI.out.len
          have hk' : k = nd (A + B) := by unfold nd; rw [← HF.out]; exact HI.out.len.symm
          refine ⟨g, k, cap, rfl, hide ⟨hk', hc, by rw [← HF.out]; exact hrow⟩, by omega, HBl.out⟩
end Go.Proofs.Ythikkajjnfeigaa
