/- Chapter 10: the limit, walked. -/
import Derived.WalkKit
import Derived.KernelRfl
import Derived.RowKit3
import Derived.Deep.LoopGhost
import Derived.Deep.QuietTactic
import Derived.BigQuiet
import Derived.WideLaws
import Derived.Laws.Rows
import Derived.Below
import Derived.Deep.Draws
import Derived.Outline
import Derived.LoopN
import Derived.Handy
import Derived.Laws.Externs
import Derived.Laws.BitsAllLaws
import Derived.Laws.BitsLemmas
import Derived.Deep.DeepCutAuto
import Derived.Deep.CutBlock
import Derived.Deep.RegionHeld3
import Derived.Test.YtfkfheapikgejaaY4
import Derived.Laws.OwnMore
import Derived.OwnWalk
namespace Go.Proofs.Ytfkfheapikgejaa
open Go.RowKit
set_option linter.unusedVariables false
set_option linter.unusedSimpArgs false
theorem uV_big {l : List UInt8} {f t : Nat} (h : f ≤ t) (hl : 4096 < l.length) : uV l f t = 0 ∧ uE l f t = 6 := by
  unfold uV uE
  exact ⟨by rw [if_neg (by omega), if_pos hl], by rw [if_neg (by omega), if_pos hl]⟩
theorem uV_bad {l : List UInt8} {f t : Nat} (h : t < f) : uV l f t = 0 ∧ uE l f t = 2 := by
  unfold uV uE
  exact ⟨by rw [if_pos h], by rw [if_pos h]⟩
set_option maxRecDepth 20000 in
set_option maxHeartbeats 8000000 in
theorem SizeLimit_walk (x nn : Int) (wx : (Lit.int .u8 x).wf = true) (wn : (Lit.int .i64 nn).wf = true) (w : World) :
    Calls Try.prog 5 #[.int .u8 x, .int .i64 nn] w fun e w' => e = .returned (.bool true) ∧ Below w.heap.size w w' := by
  obtain ⟨X, rfl⟩ := u8_of wx
  clear wx wn
  obtain ⟨XN, hXN⟩ : ∃ XN, X.toNat = XN := ⟨_, rfl⟩
  rw [hXN]
  replace hXN := hide hXN
  have HM := hide (fun w => mod_c (x := nn) (n := 100) (by omega) (by omega) w)
  have hmv := modV_lt nn (n := 100) (by omega)
  obtain ⟨md, hmd⟩ : ∃ md : Nat, modV nn 100 = (md : Int) := ⟨(modV nn 100).toNat, by omega⟩
  rw [hmd] at HM hmv
  have hmd2 : md < 100 := by omega
  clear hmd hmv
  obtain ⟨K, hK⟩ : ∃ K : Nat, K = 4097 := ⟨_, rfl⟩
  obtain ⟨i0, hi, hz0, hz1, hz2⟩ := info_parts infoB
  have hmk : ∀ w : World, (Instr.makeSlice 22 (.int .i64 4097) (.int .i64 4097)).run Try.prog w = .ok (.slice (some ⟨w.heap.size, 0, none⟩) 4097 4097) (w.alloc (.cells (madeCells (Value.int .u8 0).cells (4097 * 1)) 5)) := fun w => by
    have hr := run_make (P := Try.prog) w 22 5 i0 (.int .u8 0) Try.underlying22 hi hz0 .i64 .i64 4097 4097 (by omega) (by omega) (by rw [hz2]; omega) (by omega)
    rw [hz1] at hr
    exact hr
  have hO0 : ∀ w : World, Owns (w.alloc (.cells (madeCells (Value.int .u8 0).cells (4097 * 1)) 5)) w.heap.size (.slice (some ⟨w.heap.size, 0, none⟩) 4097 4097) (runL K 0 X) := fun w => by
    rw [← hK]
    have e := made_zero K
    have hlen := runL_len X (Nat.zero_le K)
    unfold Owns
    rw [hlen]
    refine ⟨by rw [List.length_map, hlen, Nat.mul_one], .inr ⟨w.heap.size, K, _, rfl, Nat.le_refl _, heap_alloc_new w _, Nat.le_refl _, by unfold maxLen; omega, by rw [size_madeCells], ?_⟩⟩
    rw [e, List.take_of_length_le (by simp)]
    unfold runL
    simp
  obtain ⟨C0, hC0⟩ : ∃ C0, madeCells (Value.int .u8 0).cells (4097 * 1) = C0 := ⟨_, rfl⟩
  rw [hC0] at hmk hO0
  clear hC0
  replace hO0 := hide (hO0 w)
  replace hK := hide hK
  go_enter Try.func5, Try.ntmps5
  go_wp2
  go_loopw [6] (fun v6 wr => ∃ i : Nat, v6 = .int .i64 i ∧ Hid (i ≤ K) ∧ Hid (Owns wr w.heap.size (.slice (some ⟨w.heap.size, 0, none⟩) 4097 4097) (runL K i X)) ∧ Hid (Below w.heap.size w wr)) (fun v6 _ => K - (intOf v6).toNat)
  case atStart => exact ⟨0, rfl, hide (Nat.zero_le _), hO0, hide ((Below.refl _ _).alloc (Nat.le_refl _) _)⟩
  case round =>
    obtain ⟨i, rfl, HI, HO, HB⟩ := hrel
    have hiK := HI.out
    have hK4 := hK.out
    clear hO0 hmk
    by_cases hlt : i < K
    · have t1 : (i : Int) < 4097 := by omega
      have hlen : Hid (4097 = (runL K i X).length) := hide (by rw [runL_len X hiK, hK4])
      have hcl := own_cell HO.out hlen.out (i := i) (by omega)
      have hfr := owns_free hlen.out.symm HO.out i
      have hst := hide (owns_set hlen.out.symm HO.out (runL_set X hlt))
      obtain ⟨z, hz⟩ : ∃ z : Nat, (gb (runL K i X) i).toNat = z := ⟨_, rfl⟩
      rw [hz] at hcl
      have hlt' := hide hlt
      clear hz hK4 hiK hlen hlt
      go_wp2
      go_roundw
      case rel =>
        have hb := HB.out
        have hlt := hlt'.out
        refine ⟨i + 1, by go_num, hide (by omega), hide ?_, hide ?_⟩
        · have := hst.out
          rw [bv, hXN.out] at this
          exact this
        · exact hb.setCell (Nat.le_refl _) _
      case measure => have := hlt'.out; simp [intOf]; omega
    · obtain rfl : i = K := by omega
      have hrl : runL i i X = List.replicate i X := by unfold runL; simp
      rw [hrl] at HO
      have t1 : (4097 : Int) ≤ (i : Int) := by omega
      have hsr := HB.out.size
      have hlen : Hid (4097 = (List.replicate i X).length) := hide (by rw [List.length_replicate, hK4])
      have hrow := hide HO.out.row
      obtain ⟨u1, u2⟩ := uV_big (l := List.replicate i X) (f := 0) (t := 1) (by omega) (by rw [List.length_replicate]; omega)
      obtain ⟨u5, u6⟩ := uV_bad (l := List.replicate i X) (f := 2) (t := 1) (by omega)
      have hsl : ((List.replicate i X).take (4096 - md)).length = 4096 - md := by rw [List.length_take, List.length_replicate]; omega
      obtain ⟨u3, u4⟩ := uV_in (l := (List.replicate i X).take (4096 - md)) (f := 0) (t := 1048576) (by omega) (by rw [hsl]; omega)
      have hpos := comp_pos (l := (List.replicate i X).take (4096 - md)) (by rw [hsl]; omega) (by intro e; rw [e] at hsl; simp at hsl; omega)
      obtain ⟨V, hV⟩ : ∃ V, clampV (16 * (comp ((List.replicate i X).take (4096 - md)) 0 0).length) 0 1048576 = V := ⟨_, rfl⟩
      have hV1 : 0 < V := by rw [← hV]; unfold clampV; omega
      rw [hV] at u3
      clear hV hpos
      have hF1 := fun w (hr : Hid (BRow w (some ⟨w.heap.size, 0, none⟩) (List.replicate i X))) => True
      have HF1 := fun (g : Nat) (wx : World) (hr : Hid (BRow wx (some ⟨g, 0, none⟩) (List.replicate i X))) => units_c (some ⟨g, 0, none⟩) 4097 4097 0 1 hlen (Nat.le_refl _) (by omega) (by omega) (by omega) wx hr
      have HF2 := fun (g : Nat) (wx : World) (hr : Hid (BRow wx (some ⟨g, 0, none⟩) ((List.replicate i X).take (4096 - md)))) => units_c (some ⟨g, 0, none⟩) (4096 - md) 4097 0 1048576 (hide hsl.symm) (by omega) (by omega) (by omega) (by omega) wx hr
      have HF3 := fun (g : Nat) (wx : World) (hr : Hid (BRow wx (some ⟨g, 0, none⟩) (List.replicate i X))) => units_c (some ⟨g, 0, none⟩) 4097 4097 2 1 hlen (Nat.le_refl _) (by omega) (by omega) (by omega) wx hr
      rw [u1, u2] at HF1
      rw [u3, u4] at HF2
      rw [u5, u6] at HF3
      replace HF1 := hide HF1
      replace HF2 := hide HF2
      replace HF3 := hide HF3
      have hrow2 := hide (hrow.out.take (4096 - md))
      obtain ⟨sl, hsl2⟩ : ∃ sl : Nat, (4096 : Int) - (md : Int) = (sl : Int) := ⟨4096 - md, by omega⟩
      have hsl3 : 4096 - md = sl := by omega
      rw [hsl3] at HF2 hrow2
      have hsl4 : sl ≤ 4096 := by omega
      have tV : (0 : Int) < (V : Int) := by omega
      have hb0 := HB.out
      clear u1 u2 u3 u4 u5 u6 hF1 hsl hsl3 hlen HO hrl hK4 hiK hlt HI HB hmd2 hK
      go_wp2_with fail
      refine (HF1.out _ _ hrow).mono ?_
      rintro e w1 ⟨rfl, hb1⟩
      have hs1 := hb1.size
      go_wp2_with fail
      refine (HM.out _).mono ?_
      rintro e w1' ⟨rfl, rfl⟩
      go_wp2_with fail
      refine (HF2.out _ _ (hide (hrow2.out.to (by (repeat' (first | (with_reducible exact Below.refl _ _) | (with_reducible assumption) | (with_reducible refine Below.alloc ?_ ?_ _) | (with_reducible refine Below.drew ?_) | (with_reducible refine below_drewN ?_ _) | (with_reducible refine Below.setCell ?_ ?_ _) | (with_reducible refine below_step (by with_reducible assumption) ?_ ?_) | (first | (with_reducible exact Nat.le_refl _) | (with_reducible assumption) | omega | (simp only [World.size_alloc, World.size_setCell, World.size_drew, size_drewN]; omega) | (simp; omega) | (simp; done)))))))).mono ?_
      rintro e w2 ⟨rfl, hb2⟩
      have hs2 := hb2.size
      go_wp2_with fail
      refine (HF3.out _ _ (hide (hrow.out.to (by (repeat' (first | (with_reducible exact Below.refl _ _) | (with_reducible assumption) | (with_reducible refine Below.alloc ?_ ?_ _) | (with_reducible refine Below.drew ?_) | (with_reducible refine below_drewN ?_ _) | (with_reducible refine Below.setCell ?_ ?_ _) | (with_reducible refine below_step (by with_reducible assumption) ?_ ?_) | (first | (with_reducible exact Nat.le_refl _) | (with_reducible assumption) | omega | (simp only [World.size_alloc, World.size_setCell, World.size_drew, size_drewN]; omega) | (simp; omega) | (simp; done)))))))).mono ?_
      rintro e w3 ⟨rfl, hb3⟩
      have hs3 := hb3.size
      go_wp2_with fail
      refine (awake10_c _).mono ?_
      rintro e w4 ⟨rfl, hb4⟩
      go_wp2
      go_ret
      exact ⟨rfl, (by (repeat' (first | (with_reducible exact Below.refl _ _) | (with_reducible assumption) | (with_reducible refine Below.alloc ?_ ?_ _) | (with_reducible refine Below.drew ?_) | (with_reducible refine below_drewN ?_ _) | (with_reducible refine Below.setCell ?_ ?_ _) | (with_reducible refine below_step (by with_reducible assumption) ?_ ?_) | (first | (with_reducible exact Nat.le_refl _) | (with_reducible assumption) | omega | (simp only [World.size_alloc, World.size_setCell, World.size_drew, size_drewN]; omega) | (simp; omega) | (simp; done)))))⟩
end Go.Proofs.Ytfkfheapikgejaa
