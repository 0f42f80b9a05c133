/- Package pontageref2, walked: Join. -/
import Derived.WalkKit
import Derived.KernelRfl
import Derived.RowKit3
import Derived.Deep.LoopGhost
import Derived.Deep.QuietTactic
import Derived.BigQuiet
import Derived.WideLaws
import Derived.Laws.Rows
import Derived.Below
import Derived.Deep.Draws
import Derived.Outline
import Derived.LoopN
import Derived.Handy
import Derived.Laws.Externs
import Derived.Laws.BitsAllLaws
import Derived.Laws.BitsLemmas
import Derived.Deep.DeepCutAuto
import Derived.Deep.CutBlock
import Derived.Deep.RegionHeld3
import Derived.Test.YtjgodkpeapeflaaR19
namespace Go.Proofs.Ytjgodkpeapeflaa
open Go.RowKit
set_option linter.unusedVariables false
set_option linter.unusedSimpArgs false
theorem dig_lo {L H i : Nat} (hi : i < 16) : (dig (L + M256 * H)).getD i 0 = (dig L).getD i 0 := by
  rw [dig_get, dig_get, m256_pow]
  obtain ⟨d, hd⟩ : ∃ d, 16 = i + (d + 1) := ⟨15 - i, by omega⟩
  rw [hd, Nat.pow_add, Nat.mul_assoc, Nat.add_mul_div_left _ _ (Nat.pow_pos (by omega)), Nat.pow_succ, Nat.mul_comm (65536 ^ d) 65536, Nat.mul_assoc, Nat.add_mul_mod_self_left]
theorem dig_hi {L H j : Nat} (hL : L < M256) : (dig (L + M256 * H)).getD (j + 16) 0 = (dig H).getD j 0 := by
  rw [dig_get, dig_get, Nat.add_comm j 16, Nat.pow_add, ← Nat.div_div_eq_div_mul, ← m256_pow, Nat.add_mul_div_left _ _ (by decide), Nat.div_eq_of_lt hL, Nat.zero_add]
theorem nd_join {L H : Nat} (hL : L < M256) (hH : H ≠ 0) : nd (L + M256 * H) = 16 + nd H := by
  have h1 : nd (L + M256 * H) ≤ 16 + nd H := by
    refine nd_le_of ?_
    rw [Nat.pow_add, ← m256_pow]
    have h2 := nd_lt H
    have h3 : M256 * (H + 1) ≤ M256 * 65536 ^ nd H := Nat.mul_le_mul_left _ h2
    rw [Nat.mul_add] at h3
    omega
  have h4 : ¬ nd (L + M256 * H) ≤ 16 + nd H - 1 := fun h => by
    have h5 := lt_of_nd h
    have h6 := nd_le hH
    have h7 := nd_pos hH
    rw [show 16 + nd H - 1 = 16 + (nd H - 1) by omega, Nat.pow_add, ← m256_pow] at h5
    have h8 : M256 * 65536 ^ (nd H - 1) ≤ M256 * H := Nat.mul_le_mul_left _ h6
    omega
  omega
/-- What Join's loop keeps. -/
structure JnI (N i n : Nat) (R : List Nat) : Prop where
  c : CpI N i n R
  z : ∀ j, i ≤ j → R.getD j 0 = 0
theorem JnI.start (N n : Nat) : JnI N 0 n (List.replicate n 0) := ⟨⟨by simp, digs_rep _, by simp [val]⟩, fun j _ => by rw [List.getD_eq_getElem?_getD, List.getElem?_replicate]; split <;> rfl⟩
theorem JnI.put {N i n d : Nat} {R : List Nat} (h : JnI N i n R) (hi : i < n) (ed : (dig N).getD i 0 = d) : JnI N (i + 1) n (R.set i d) :=
  ⟨h.c.step hi ed, fun j hj => by rw [List.getD_eq_getElem?_getD, List.getElem?_set_ne (by omega), ← List.getD_eq_getElem?_getD]; exact h.z j (by omega)⟩
theorem JnI.skip {N i n : Nat} {R : List Nat} (h : JnI N i n R) (hi : i < n) (ed : (dig N).getD i 0 = 0) : JnI N (i + 1) n R := by
  have e : R.set i 0 = R := by
    apply List.ext_getElem (by simp)
    intro m h1 h2
    rw [List.getElem_set]
    split
    · rename_i hm
      have := h.z m (by omega)
      rw [List.getD_eq_getElem?_getD, List.getElem?_eq_getElem h2] at this
      simpa using this.symm
    · rfl
  have := h.put hi ed
  rwa [e] at this
theorem JnI.done {N n : Nat} {R : List Nat} (h : JnI N n n R) (hn : nd N = n) : R = dig N := by
  have hv := h.c.done (by omega)
  have hr := norm_row h.c.dg
  rw [hv, hn, List.take_of_length_le (by rw [h.c.len]; omega)] at hr
  exact hr
set_option maxRecDepth 20000 in
set_option maxHeartbeats 8000000 in
theorem rjoin_c {L H : Nat} (hL : L < M256) (hH : H < M256) (w : World) :
    Calls Try.prog 35 #[.agg #[.int .u64 (lim L 0), .int .u64 (lim L 1), .int .u64 (lim L 2), .int .u64 (lim L 3)], .agg #[.int .u64 (lim H 0), .int .u64 (lim H 1), .int .u64 (lim H 2), .int .u64 (lim H 3)]] w fun e w' => ∃ ad n c, e = .returned (.slice ad n c) ∧ Hid (Big w' ad n c (L + M256 * H)) ∧ n ≤ 32 ∧ Below w.heap.size w w' := by
  have FL := hide (from256_c (isU_lim hL))
  have FH := hide (from256_c (isU_lim hH))
  have HL := hide hL
  clear hL hH
  go_enter Try.func35, Try.ntmps35
  go_wp2_with fail
  refine (FH.out _).mono ?_
  rintro e w1 ⟨adh, nh, ch, rfl, gh, lh, hb1⟩
  have hs1 := hb1.size
  try simp only [World.size_alloc, World.size_setCell, World.size_drew, size_drewN] at hs1
  have hc1_0 : ∀ o, w1.cell? ⟨w.heap.size, o, none⟩ = _ := fun o => hb1.cell (p := ⟨w.heap.size, o, none⟩) (by ((try simp only [World.size_alloc, World.size_setCell, World.size_drew, size_drewN]); omega))
  have hf1_0 : ∀ o, w1.frozen? ⟨w.heap.size, o, none⟩ = _ := fun o => hb1.frozen (p := ⟨w.heap.size, o, none⟩) (by ((try simp only [World.size_alloc, World.size_setCell, World.size_drew, size_drewN]); omega))
  have z1_0 : w.heap.size < w1.heap.size := by omega
  by_cases hz : H = 0
  · obtain rfl : nh = 0 := by rw [gh.out.hn, hz, nd_zero]
    go_wp2_with fail
    refine (FL.out _).mono ?_
    rintro e w2 ⟨ad2, n2, c2, rfl, g2, l2, hb2⟩
    have hs2 := hb2.size
    go_wp2
    go_ret
    exact ⟨_, _, _, rfl, by rw [hz, Nat.mul_zero, Nat.add_zero]; exact g2, by omega, (by (repeat' (first | (with_reducible exact Below.refl _ _) | (with_reducible assumption) | (with_reducible refine Below.alloc ?_ ?_ _) | (with_reducible refine Below.drew ?_) | (with_reducible refine below_drewN ?_ _) | (with_reducible refine Below.setCell ?_ ?_ _) | (with_reducible refine below_step (by with_reducible assumption) ?_ ?_) | (first | (with_reducible exact Nat.le_refl _) | (with_reducible assumption) | omega | (simp only [World.size_alloc, World.size_setCell, World.size_drew, size_drewN]; omega) | (simp; omega) | (simp; done)))))⟩
  · have hnh : 0 < nh := by rw [gh.out.hn]; exact nd_pos hz
    have hnh' : ((nh : Int) == 0) = false := by simp; omega
    have hnh'' : ¬ (nh : Int) = 0 := by omega
    go_wp2_with fail
    refine (FL.out _).mono ?_
    rintro e w2 ⟨ad2, n2, c2, rfl, g2, l2, hb2⟩
    have hs2 := hb2.size
    try simp only [World.size_alloc, World.size_setCell, World.size_drew, size_drewN] at hs2
    have gh2 := hide (gh.out.below hb2 (by simp))
    have hbw : Below w.heap.size w w2 := (by (repeat' (first | (with_reducible exact Below.refl _ _) | (with_reducible assumption) | (with_reducible refine Below.alloc ?_ ?_ _) | (with_reducible refine Below.drew ?_) | (with_reducible refine below_drewN ?_ _) | (with_reducible refine Below.setCell ?_ ?_ _) | (with_reducible refine below_step (by with_reducible assumption) ?_ ?_) | (first | (with_reducible exact Nat.le_refl _) | (with_reducible assumption) | omega | (simp only [World.size_alloc, World.size_setCell, World.size_drew, size_drewN]; omega) | (simp; omega) | (simp; done)))))
    have hmk : ∀ W : World, (Instr.makeSlice 49 (.int .i64 (16 + (nh : Int))) (.int .i64 (16 + (nh : Int)))).run Try.prog W = .ok (.slice (some ⟨W.heap.size, 0, none⟩) (16 + nh) (16 + nh)) (W.alloc (.cells (madeCells (Value.int .i64 0).cells ((16 + nh) * 1)) 3)) := by
      intro W
      have := make_n (n := 16 + nh) (by omega) W
      rwa [Int.natCast_add] at this
    go_wp2
    clear hmk
    go_loopw [8] (fun v8 wr => ∃ (i : Nat) (R : List Nat), v8 = .int .i64 i ∧ i ≤ 16 + nh ∧ Hid (JnI (L + M256 * H) i (16 + nh) R) ∧ Hid (Blk wr w2.heap.size R) ∧ Hid (Below w2.heap.size w2 wr)) (fun v8 _ => 16 + nh - (intOf v8).toNat)
    case atStart => exact ⟨0, List.replicate (16 + nh) 0, rfl, by omega, hide (JnI.start _ _), hide (by have := Blk.made w2 (16 + nh); rw [Nat.mul_one] at this; exact this), hide (Below.alloc (Below.refl _ _) (Nat.le_refl _) _)⟩
    case round =>
      obtain ⟨i, R, rfl, hi, HI, HK, HBl⟩ := hrel
      have hb := HBl.out
      have hlen := HI.out.c.len
      by_cases h1 : i < 16 + nh
      · have hke := HK.out.cell (i := i) (by omega)
        have hkf := HK.out.free i
        have h1' : (i : Int) < 16 + (nh : Int) := by omega
        by_cases h2 : i < n2
        · obtain ⟨b, o, rfl, hcell⟩ := g2.out.row (by intro e; have := g2.out.hn; unfold nd at this; rw [e] at this; simp at this; omega)
          have hx := hcell i (by have := g2.out.hn; unfold nd at this; omega)
          have hbl := World.block_lt_of_cell? w2 _ hx
          replace hx := (HBl.out.cell (p := ⟨b, o + i, none⟩) hbl).trans hx
          obtain ⟨d, ed⟩ : ∃ d, (dig L).getD i 0 = d := ⟨_, rfl⟩
          rw [ed] at hx
          have HS := hide (HI.out.put h1 ((dig_lo (L := L) (H := H) (by omega)).trans ed))
          replace ed := hide ed
          have h3 : (i : Int) < 16 := by omega
          have h3' : ¬ (16 : Int) ≤ (i : Int) := by omega
          clear hcell
          go_wp2
          go_roundw
          case rel => exact ⟨i + 1, R.set i d, by go_num, by omega, HS, hide (HK.out.set (by omega) rfl), hide (by (repeat' (first | (with_reducible exact Below.refl _ _) | (with_reducible assumption) | (with_reducible refine Below.alloc ?_ ?_ _) | (with_reducible refine Below.drew ?_) | (with_reducible refine below_drewN ?_ _) | (with_reducible refine Below.setCell ?_ ?_ _) | (with_reducible refine below_step (by with_reducible assumption) ?_ ?_) | (first | (with_reducible exact Nat.le_refl _) | (with_reducible assumption) | omega | (simp only [World.size_alloc, World.size_setCell, World.size_drew, size_drewN]; omega) | (simp; omega) | (simp; done)))))⟩
          case measure => simp [intOf]; omega
        · have hn2 : (n2 : Int) ≤ (i : Int) := by omega
          by_cases h4 : i < 16
          · have e0 : (dig L).getD i 0 = 0 := by rw [List.getD_eq_getElem?_getD, List.getElem?_eq_none (by have := g2.out.hn; unfold nd at this; omega)]; rfl
            have HS := hide (HI.out.skip h1 ((dig_lo (L := L) (H := H) h4).trans e0))
            replace e0 := hide e0
            have h3 : (i : Int) < 16 := by omega
            have h3' : ¬ (16 : Int) ≤ (i : Int) := by omega
            go_wp2
            go_roundw
            case rel => exact ⟨i + 1, R, by go_num, by omega, HS, HK, HBl⟩
            case measure => simp [intOf]; omega
          · obtain ⟨j, rfl⟩ : ∃ j, i = j + 16 := ⟨i - 16, by omega⟩
            obtain ⟨b, o, rfl, hcell⟩ := gh2.out.row (by intro e; have := gh2.out.hn; unfold nd at this; rw [e] at this; simp at this; omega)
            have hx := hcell j (by have := gh2.out.hn; unfold nd at this; omega)
            have hbl := World.block_lt_of_cell? w2 _ hx
            replace hx := (HBl.out.cell (p := ⟨b, o + j, none⟩) hbl).trans hx
            obtain ⟨d, ed⟩ : ∃ d, (dig H).getD j 0 = d := ⟨_, rfl⟩
            rw [ed] at hx
            have HS := hide (HI.out.put h1 ((dig_hi (L := L) (H := H) HL.out).trans ed))
            replace ed := hide ed
            have h3 : (16 : Int) ≤ (j : Int) + 16 := by omega
            have h5 : (j : Int) < (nh : Int) := by omega
            clear hcell
            go_wp2
            go_roundw
            case rel => exact ⟨j + 16 + 1, R.set (j + 16) d, by go_num, by omega, HS, hide (HK.out.set (by omega) rfl), hide (by (repeat' (first | (with_reducible exact Below.refl _ _) | (with_reducible assumption) | (with_reducible refine Below.alloc ?_ ?_ _) | (with_reducible refine Below.drew ?_) | (with_reducible refine below_drewN ?_ _) | (with_reducible refine Below.setCell ?_ ?_ _) | (with_reducible refine below_step (by with_reducible assumption) ?_ ?_) | (first | (with_reducible exact Nat.le_refl _) | (with_reducible assumption) | omega | (simp only [World.size_alloc, World.size_setCell, World.size_drew, size_drewN]; omega) | (simp; omega) | (simp; done)))))⟩
            case measure => simp [intOf]; omega
      · obtain rfl : i = 16 + nh := by omega
        have hnd := nd_join (L := L) (H := H) HL.out hz
        have hd := HI.out.done (by rw [hnd, gh.out.hn])
        replace hd := hide hd
        replace hnd := hide hnd
        have hwr := hb.size
        go_wp2
        go_ret
        exact ⟨_, _, _, rfl, hide ⟨by rw [hnd.out, gh.out.hn], Nat.le_refl _, by rw [← hd.out]; exact HK.out.row⟩, by omega, below_step hb (Nat.le_trans hbw.size (Nat.le_refl _)) hbw⟩
end Go.Proofs.Ytjgodkpeapeflaa
