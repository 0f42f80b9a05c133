/- chapter 12: ParamsValidity, walked. -/
import Derived.WalkKit
import Derived.KernelRfl
import Derived.RowKit3
import Derived.Deep.LoopGhost
import Derived.Deep.QuietTactic
import Derived.BigQuiet
import Derived.WideLaws
import Derived.Laws.Rows
import Derived.Below
import Derived.Deep.Draws
import Derived.Outline
import Derived.LoopN
import Derived.Handy
import Derived.Laws.Externs
import Derived.Laws.BitsAllLaws
import Derived.Laws.BitsLemmas
import Derived.Deep.DeepCutAuto
import Derived.Deep.CutBlock
import Derived.Deep.RegionHeld3
import Derived.Test.YtbnpgecpanfpiaaPE
import Derived.Test.YtbnpgecpanfpiaaPS
import Derived.Test.YtbnpgecpanfpiaaPA
namespace Go.Proofs.Ytbnpgecpanfpiaa
open Go.RowKit
set_option linter.unusedVariables false
set_option linter.unusedSimpArgs false
set_option maxRecDepth 20000 in
set_option maxHeartbeats 16000000 in
theorem Validity_in (P : Nat → Int) (hP : PW P) (key : Int) (w : World) :
    Calls Try.prog 3 #[.agg (pC P), .int .i64 key] w fun e w' => e = .returned (.bool true) ∧ Below w.heap.size w w' := by
  have HF1 := fun w => fiP_c P hP w
  have HF2 := fun w => rfi_c P hP w
  have HV1 := fun w => validP_c P hP w
  have HV2 := fun w => rvalid_c P hP w
  obtain ⟨F, eF⟩ : ∃ x, fiV P = x := ⟨_, rfl⟩
  rw [eF] at HF1 HF2 HV1 HV2
  obtain ⟨B, eB⟩ : ∃ x, (F == 0) = x := ⟨_, rfl⟩
  rw [eB] at HV1 HV2
  clear eF eB
  replace HF1 := hide HF1
  replace HF2 := hide HF2
  replace HV1 := hide HV1
  replace HV2 := hide HV2
  have HEq := eqP_law Gen
  have HP0 := hide (PBlk.new w P)
  have hB0 := hide (show Below w.heap.size w (w.alloc (.cells (pC P) 26)) from (Below.refl _ _).alloc (Nat.le_refl _) _)
  go_enter Try.func3, Try.ntmps3
  go_wp2_with fail
  go_loopw [5] (fun v5 wr => ∃ z : Int, v5 = .int .i64 z ∧ -1 ≤ z ∧ z ≤ 15 ∧ Hid (Below w.heap.size w wr) ∧ Hid (PBlk wr w.heap.size P)) (fun v5 _ => (15 - intOf v5).toNat)
  case atStart => exact ⟨-1, rfl, by omega, by omega, hB0, HP0⟩
  case round =>
    obtain ⟨z, rfl, z0, z1, hB, HP⟩ := hrel
    clear HP0 hB0
    have hlr := HP.out.lt
    rcases Int.lt_or_le z 15 with hz | hz
    · have wz1 : IntKind.i64.wrap (z + 1) = z + 1 := by rw [IntKind.wrap_i64]; omega
      obtain ⟨l0, el0⟩ : ∃ x, getL P z 0 = x := ⟨_, rfl⟩
      obtain ⟨l1, el1⟩ : ∃ x, getL P z 1 = x := ⟨_, rfl⟩
      obtain ⟨l2, el2⟩ : ∃ x, getL P z 2 = x := ⟨_, rfl⟩
      obtain ⟨l3, el3⟩ : ∃ x, getL P z 3 = x := ⟨_, rfl⟩
      obtain ⟨G, eG⟩ : ∃ x, getE z = x := ⟨_, rfl⟩
      have HG1 := fun w => getP_c P z w
      have HG2 := fun w => rget_c P z w
      rw [el0, el1, el2, el3, eG] at HG1 HG2
      replace HG1 := hide HG1
      replace HG2 := hide HG2
      clear el0 el1 el2 el3 eG
      go_wp2_with (first | (refine wpList_load_row26 (P := P) rfl (.tmp 2) rfl (g := w.heap.size) rfl HP.out ?_))
      refine (HG1.out _).mono ?_
      rintro e w1 ⟨rfl, hb⟩
      replace hB := hide (hB.out.trans (hb.mono hB.out.size))
      replace HP := hide (HP.out.below hb HP.out.lt)
      have hlHP1 := HP.out.lt
      have hsz1 := hB.out.size
      clear hb
      have HZ := hide (RBlk.new w1 #[.int .u64 0, .int .u64 0, .int .u64 0, .int .u64 0] 24)
      go_wp2_with (first | (refine wpList_store_rowR (by rfl) (.tmp 6) (.tmp 22) rfl rfl rfl HZ.out rfl sizeU4r (one4r _ _ _ _) ?_; intro w2 HX1 hS; replace HX1 := hide HX1; replace hB := hide (hS.1 w.heap.size w (by omega) (hB.out.alloc (by omega) _)); replace HP := hide (show PBlk w2 w.heap.size P from (hS.2.2 _ (by omega)).trans (HP.out.alloc _)); clear hS HZ) | (refine wpList_load_row26 (P := P) rfl (.tmp 2) rfl (g := w.heap.size) rfl HP.out ?_))
      refine (HG2.out _).mono ?_
      rintro e w3 ⟨rfl, hb⟩
      replace hB := hide (hB.out.trans (hb.mono hB.out.size))
      replace HP := hide (HP.out.below hb HP.out.lt)
      have hlHP3 := HP.out.lt
      replace HX1 := hide (HX1.out.below hb HX1.out.lt)
      have hlHX13 := HX1.out.lt
      have hsz3 := hB.out.size
      clear hb
      have HZ := hide (RBlk.new w3 #[.int .u64 0, .int .u64 0, .int .u64 0, .int .u64 0] 24)
      go_wp2_with (first | (refine wpList_store_rowR (by rfl) (.tmp 8) (.tmp 28) rfl rfl rfl HZ.out rfl sizeU4r (one4r _ _ _ _) ?_; intro w4 HX2 hS; replace HX2 := hide HX2; replace hB := hide (hS.1 w.heap.size w (by omega) (hB.out.alloc (by omega) _)); replace HP := hide (show PBlk w4 w.heap.size P from (hS.2.2 _ (by omega)).trans (HP.out.alloc _)); replace HX1 := hide (hS.row (HX1.out.alloc _) (by omega)); clear hS HZ) | (refine wpList_load_rowR (by rfl) (.tmp 6) rfl (g := w1.heap.size) rfl HX1.out Try.underlying24 rfl sizeU4r ?_) | (refine wpList_load_rowR (by rfl) (.tmp 8) rfl (g := w3.heap.size) rfl HX2.out Try.underlying24 rfl sizeU4r ?_))
      go_roundw
      case rel => exact ⟨z + 1, by go_num, by omega, by omega, hB, HP⟩
      case measure => simp [intOf]; omega
    · obtain rfl : z = 15 := by omega
      obtain ⟨l0, el0⟩ : ∃ x, getL P key 0 = x := ⟨_, rfl⟩
      obtain ⟨l1, el1⟩ : ∃ x, getL P key 1 = x := ⟨_, rfl⟩
      obtain ⟨l2, el2⟩ : ∃ x, getL P key 2 = x := ⟨_, rfl⟩
      obtain ⟨l3, el3⟩ : ∃ x, getL P key 3 = x := ⟨_, rfl⟩
      obtain ⟨G, eG⟩ : ∃ x, getE key = x := ⟨_, rfl⟩
      have HG1 := fun w => getP_c P key w
      have HG2 := fun w => rget_c P key w
      rw [el0, el1, el2, el3, eG] at HG1 HG2
      replace HG1 := hide HG1
      replace HG2 := hide HG2
      clear el0 el1 el2 el3 eG
      go_wp2_with (first | (refine wpList_load_row26 (P := P) rfl (.tmp 2) rfl (g := w.heap.size) rfl HP.out ?_))
      refine (HG1.out _).mono ?_
      rintro e w1 ⟨rfl, hb⟩
      replace hB := hide (hB.out.trans (hb.mono hB.out.size))
      replace HP := hide (HP.out.below hb HP.out.lt)
      have hlHP1 := HP.out.lt
      have hsz1 := hB.out.size
      clear hb
      have HZ := hide (RBlk.new w1 #[.int .u64 0, .int .u64 0, .int .u64 0, .int .u64 0] 24)
      go_wp2_with (first | (refine wpList_store_rowR (by rfl) (.tmp 10) (.tmp 42) rfl rfl rfl HZ.out rfl sizeU4r (one4r _ _ _ _) ?_; intro w2 HX1 hS; replace HX1 := hide HX1; replace hB := hide (hS.1 w.heap.size w (by omega) (hB.out.alloc (by omega) _)); replace HP := hide (show PBlk w2 w.heap.size P from (hS.2.2 _ (by omega)).trans (HP.out.alloc _)); clear hS HZ) | (refine wpList_load_row26 (P := P) rfl (.tmp 2) rfl (g := w.heap.size) rfl HP.out ?_))
      refine (HG2.out _).mono ?_
      rintro e w3 ⟨rfl, hb⟩
      replace hB := hide (hB.out.trans (hb.mono hB.out.size))
      replace HP := hide (HP.out.below hb HP.out.lt)
      have hlHP3 := HP.out.lt
      have hsz3 := hB.out.size
      clear hb
      have HZ := hide (RBlk.new w3 #[.int .u64 0, .int .u64 0, .int .u64 0, .int .u64 0] 24)
      go_upto_region 10 with (refine wpList_store_rowR (by rfl) (.tmp 12) (.tmp 48) rfl rfl rfl HZ.out rfl sizeU4r (one4r _ _ _ _) ?_; intro w4 HX2 hS; replace HX2 := hide HX2; replace hB := hide (hS.1 w.heap.size w (by omega) (hB.out.alloc (by omega) _)); replace HP := hide (show PBlk w4 w.heap.size P from (hS.2.2 _ (by omega)).trans (HP.out.alloc _)); clear hS HZ)
      (try simp only [Act.put, List.setIfInBounds_toArray, List.set_cons_succ, List.set_cons_zero])
      obtain ⟨wl, ew⟩ : ∃ W, W = w4 := ⟨_, rfl⟩
      rw [← ew] at hB HP ⊢
      clear HX1 HX2
      try clear ew
      refine wp_region_held_drew (S := fun w' => Below wl.heap.size wl w') (by kernel_rfl) ((Below.refl _ _).drew) (fun hHeld => ?_)
      (refine wpAnyH_take (i := 0) (v := _) rfl (by kernel_rfl) (by kernel_rfl) (by kernel_rfl) (fun _ _ _ h => h) (yieldsIf_load_mid (by rfl) 26 (.tmp 2) rfl (w.heap.size) 0 rfl ((pC P)).toList _ (fun w h => ((HP.out.row).below h (HP.out.row).lt).range) Try.underlying26 rfl (by rw [Array.length_toList]; exact sizeP)) (by assumption) ?_; (try simp only [Act.put, List.setIfInBounds_toArray, List.set_cons_zero, List.set_cons_succ, Array.toArray_toList, List.getElem_toArray, List.getElem_cons_succ, List.getElem_cons_zero]))
      (refine wpAnyH_take (i := 2) (v := _) rfl (by kernel_rfl) (by kernel_rfl) (by kernel_rfl) (fun _ _ _ h => h) (yieldsIf_load_mid (by rfl) 26 (.tmp 2) rfl (w.heap.size) 0 rfl ((pC P)).toList _ (fun w h => ((HP.out.row).below h (HP.out.row).lt).range) Try.underlying26 rfl (by rw [Array.length_toList]; exact sizeP)) (by assumption) ?_; (try simp only [Act.put, List.setIfInBounds_toArray, List.set_cons_zero, List.set_cons_succ, Array.toArray_toList, List.getElem_toArray, List.getElem_cons_succ, List.getElem_cons_zero]))
      refine wpAnyH_ready (rs := [1]) (by kernel_rfl) (by simp) ?_
      refine AllReadyH.cons rfl (fun Kc hK => ?_) (AllReadyH.nil)
      · rw [if_pos (by rfl)]
        go_simp
        (go_at_call 10; refine (HF1.out _).mono ?_; rintro e y1 ⟨rfl, hb_y1⟩)
        go_wp2_with fail
        refine hK.out _ _ (hHeld.trans (hb_y1.mono hHeld.size)) (fun hHeld => ?_)
        clear hK Kc
        (try simp only [Act.put, List.setIfInBounds_toArray, List.set_cons_zero, List.set_cons_succ, Array.toArray_toList, List.getElem_toArray, List.getElem_cons_succ, List.getElem_cons_zero])
        refine wpAnyH_ready (rs := [3]) (by kernel_rfl) (by simp) ?_
        refine AllReadyH.cons rfl (fun Kc hK => ?_) (AllReadyH.nil)
        · rw [if_pos (by rfl)]
          go_simp
          (go_at_call 11; refine (HF2.out _).mono ?_; rintro e y3 ⟨rfl, hb_y3⟩)
          go_wp2_with fail
          refine hK.out _ _ (hHeld.trans (hb_y3.mono hHeld.size)) (fun hHeld => ?_)
          clear hK Kc
          (try simp only [Act.put, List.setIfInBounds_toArray, List.set_cons_zero, List.set_cons_succ, Array.toArray_toList, List.getElem_toArray, List.getElem_cons_succ, List.getElem_cons_zero])
          (refine wpAnyH_take (i := 4) (v := .bool true) rfl (by kernel_rfl) (by kernel_rfl) (by kernel_rfl) (fun _ _ _ h => h) (Or.inl ⟨by rfl, fun w _ => (by go_simp)⟩) (by assumption) ?_; (try simp only [Act.put, List.setIfInBounds_toArray, List.set_cons_zero, List.set_cons_succ, Array.toArray_toList, List.getElem_toArray, List.getElem_cons_succ, List.getElem_cons_zero]))
          (refine wpAnyH_take (i := 5) (v := .bool true) rfl (by kernel_rfl) (by kernel_rfl) (by kernel_rfl) (fun _ _ _ h => h) (Or.inl ⟨by rfl, fun w _ => (by go_simp)⟩) (by assumption) ?_; (try simp only [Act.put, List.setIfInBounds_toArray, List.set_cons_zero, List.set_cons_succ, Array.toArray_toList, List.getElem_toArray, List.getElem_cons_succ, List.getElem_cons_zero]))
          (refine wpAnyH_take (i := 6) (v := _) rfl (by kernel_rfl) (by kernel_rfl) (by kernel_rfl) (fun _ _ _ h => h) (yieldsIf_load_mid (by rfl) 26 (.tmp 2) rfl (w.heap.size) 0 rfl ((pC P)).toList _ (fun w h => ((HP.out.row).below h (HP.out.row).lt).range) Try.underlying26 rfl (by rw [Array.length_toList]; exact sizeP)) (by assumption) ?_; (try simp only [Act.put, List.setIfInBounds_toArray, List.set_cons_zero, List.set_cons_succ, Array.toArray_toList, List.getElem_toArray, List.getElem_cons_succ, List.getElem_cons_zero]))
          (refine wpAnyH_take (i := 8) (v := _) rfl (by kernel_rfl) (by kernel_rfl) (by kernel_rfl) (fun _ _ _ h => h) (yieldsIf_load_mid (by rfl) 26 (.tmp 2) rfl (w.heap.size) 0 rfl ((pC P)).toList _ (fun w h => ((HP.out.row).below h (HP.out.row).lt).range) Try.underlying26 rfl (by rw [Array.length_toList]; exact sizeP)) (by assumption) ?_; (try simp only [Act.put, List.setIfInBounds_toArray, List.set_cons_zero, List.set_cons_succ, Array.toArray_toList, List.getElem_toArray, List.getElem_cons_succ, List.getElem_cons_zero]))
          refine wpAnyH_ready (rs := [7]) (by kernel_rfl) (by simp) ?_
          refine AllReadyH.cons rfl (fun Kc hK => ?_) (AllReadyH.nil)
          · rw [if_pos (by rfl)]
            go_simp
            (go_at_call 12; refine (HV1.out _).mono ?_; rintro e y7 ⟨rfl, hb_y7⟩)
            go_wp2_with fail
            refine hK.out _ _ (hHeld.trans (hb_y7.mono hHeld.size)) (fun hHeld => ?_)
            clear hK Kc
            (try simp only [Act.put, List.setIfInBounds_toArray, List.set_cons_zero, List.set_cons_succ, Array.toArray_toList, List.getElem_toArray, List.getElem_cons_succ, List.getElem_cons_zero])
            refine wpAnyH_ready (rs := [9]) (by kernel_rfl) (by simp) ?_
            refine AllReadyH.cons rfl (fun Kc hK => ?_) (AllReadyH.nil)
            · rw [if_pos (by rfl)]
              go_simp
              (go_at_call 13; refine (HV2.out _).mono ?_; rintro e y9 ⟨rfl, hb_y9⟩)
              go_wp2_with fail
              refine hK.out _ _ (hHeld.trans (hb_y9.mono hHeld.size)) (fun hHeld => ?_)
              clear hK Kc
              (try simp only [Act.put, List.setIfInBounds_toArray, List.set_cons_zero, List.set_cons_succ, Array.toArray_toList, List.getElem_toArray, List.getElem_cons_succ, List.getElem_cons_zero])
              (refine wpAnyH_take (i := 10) (v := .bool true) rfl (by kernel_rfl) (by kernel_rfl) (by kernel_rfl) (fun _ _ _ h => h) (Or.inl ⟨by rfl, fun w _ => (by go_simp)⟩) (by assumption) ?_; (try simp only [Act.put, List.setIfInBounds_toArray, List.set_cons_zero, List.set_cons_succ, Array.toArray_toList, List.getElem_toArray, List.getElem_cons_succ, List.getElem_cons_zero]))
              (refine wpAnyH_take (i := 11) (v := .bool true) rfl (by kernel_rfl) (by kernel_rfl) (by kernel_rfl) (fun _ _ _ h => h) (Or.inl ⟨by rfl, fun w _ => (by go_simp)⟩) (by assumption) ?_; (try simp only [Act.put, List.setIfInBounds_toArray, List.set_cons_zero, List.set_cons_succ, Array.toArray_toList, List.getElem_toArray, List.getElem_cons_succ, List.getElem_cons_zero]))
              (refine wpAnyH_take (i := 12) (v := .bool true) rfl (by kernel_rfl) (by kernel_rfl) (by kernel_rfl) (fun _ _ _ h => h) (Or.inl ⟨by rfl, fun w _ => (by go_simp)⟩) (by assumption) ?_; (try simp only [Act.put, List.setIfInBounds_toArray, List.set_cons_zero, List.set_cons_succ, Array.toArray_toList, List.getElem_toArray, List.getElem_cons_succ, List.getElem_cons_zero]))
              (refine wpAnyH_take (i := 13) (v := .int .i64 G) rfl (by kernel_rfl) (by kernel_rfl) (by kernel_rfl) (fun _ _ _ h => h) (Or.inl ⟨by rfl, fun w _ => (by go_simp)⟩) (by assumption) ?_; (try simp only [Act.put, List.setIfInBounds_toArray, List.set_cons_zero, List.set_cons_succ, Array.toArray_toList, List.getElem_toArray, List.getElem_cons_succ, List.getElem_cons_zero]))
              (refine wpAnyH_take (i := 14) (v := .int .i64 G) rfl (by kernel_rfl) (by kernel_rfl) (by kernel_rfl) (fun _ _ _ h => h) (Or.inl ⟨by rfl, fun w _ => (by go_simp)⟩) (by assumption) ?_; (try simp only [Act.put, List.setIfInBounds_toArray, List.set_cons_zero, List.set_cons_succ, Array.toArray_toList, List.getElem_toArray, List.getElem_cons_succ, List.getElem_cons_zero]))
              (refine wpAnyH_take (i := 15) (v := .bool true) rfl (by kernel_rfl) (by kernel_rfl) (by kernel_rfl) (fun _ _ _ h => h) (Or.inl ⟨by rfl, fun w _ => (by go_simp)⟩) (by assumption) ?_; (try simp only [Act.put, List.setIfInBounds_toArray, List.set_cons_zero, List.set_cons_succ, Array.toArray_toList, List.getElem_toArray, List.getElem_cons_succ, List.getElem_cons_zero]))
              (refine wpAnyH_take (i := 16) (v := .bool true) rfl (by kernel_rfl) (by kernel_rfl) (by kernel_rfl) (fun _ _ _ h => h) (Or.inl ⟨by rfl, fun w _ => (by go_simp)⟩) (by assumption) ?_; (try simp only [Act.put, List.setIfInBounds_toArray, List.set_cons_zero, List.set_cons_succ, Array.toArray_toList, List.getElem_toArray, List.getElem_cons_succ, List.getElem_cons_zero]))
              (refine wpAnyH_take (i := 17) (v := .bool true) rfl (by kernel_rfl) (by kernel_rfl) (by kernel_rfl) (fun _ _ _ h => h) (Or.inl ⟨by rfl, fun w _ => (by go_simp)⟩) (by assumption) ?_; (try simp only [Act.put, List.setIfInBounds_toArray, List.set_cons_zero, List.set_cons_succ, Array.toArray_toList, List.getElem_toArray, List.getElem_cons_succ, List.getElem_cons_zero]))
              refine wpAnyH_ready (rs := [18]) (by kernel_rfl) (by simp) ?_
              refine AllReadyH.cons rfl (fun Kc hK => ?_) (AllReadyH.nil)
              · rw [if_pos (by rfl)]
                go_simp
                (go_at_call 14; refine (genesis_c _).mono ?_; rintro e y18 ⟨rfl, hb_y18⟩)
                go_wp2_with fail
                refine hK.out _ _ (hHeld.trans (hb_y18.mono hHeld.size)) (fun hHeld => ?_)
                clear hK Kc
                (try simp only [Act.put, List.setIfInBounds_toArray, List.set_cons_zero, List.set_cons_succ, Array.toArray_toList, List.getElem_toArray, List.getElem_cons_succ, List.getElem_cons_zero])
                refine wpAnyH_ready (rs := [19]) (by kernel_rfl) (by simp) ?_
                refine AllReadyH.cons rfl (fun Kc hK => ?_) (AllReadyH.nil)
                · rw [if_pos (by rfl)]
                  go_simp
                  (go_at_call 15; refine (rgen_c _).mono ?_; rintro e y19 ⟨rfl, hb_y19⟩)
                  go_wp2_with fail
                  refine hK.out _ _ (hHeld.trans (hb_y19.mono hHeld.size)) (fun hHeld => ?_)
                  clear hK Kc
                  (try simp only [Act.put, List.setIfInBounds_toArray, List.set_cons_zero, List.set_cons_succ, Array.toArray_toList, List.getElem_toArray, List.getElem_cons_succ, List.getElem_cons_zero])
                  (refine wpAnyH_take (i := 20) (v := .bool true) rfl (by kernel_rfl) (by kernel_rfl) (by kernel_rfl) (fun _ _ _ h => h) (Or.inl ⟨by rfl, fun w _ => (by go_simp)⟩) (by assumption) ?_; (try simp only [Act.put, List.setIfInBounds_toArray, List.set_cons_zero, List.set_cons_succ, Array.toArray_toList, List.getElem_toArray, List.getElem_cons_succ, List.getElem_cons_zero]))
                  (refine wpAnyH_take (i := 21) (v := .bool true) rfl (by kernel_rfl) (by kernel_rfl) (by kernel_rfl) (fun _ _ _ h => h) (Or.inl ⟨by rfl, fun w _ => (by go_simp)⟩) (by assumption) ?_; (try simp only [Act.put, List.setIfInBounds_toArray, List.set_cons_zero, List.set_cons_succ, Array.toArray_toList, List.getElem_toArray, List.getElem_cons_succ, List.getElem_cons_zero]))
                  (refine wpAnyH_take (i := 22) (v := .bool true) rfl (by kernel_rfl) (by kernel_rfl) (by kernel_rfl) (fun _ _ _ h => h) (Or.inl ⟨by rfl, fun w _ => (by go_simp)⟩) (by assumption) ?_; (try simp only [Act.put, List.setIfInBounds_toArray, List.set_cons_zero, List.set_cons_succ, Array.toArray_toList, List.getElem_toArray, List.getElem_cons_succ, List.getElem_cons_zero]))
                  refine wpAnyH_ready (rs := [23]) (by kernel_rfl) (by simp) ?_
                  refine AllReadyH.cons rfl (fun Kc hK => ?_) (AllReadyH.nil)
                  · rw [if_pos (by rfl)]
                    go_simp
                    (go_at_call 16; refine (awake12_c _).mono ?_; rintro e y23 ⟨rfl, hb_y23⟩)
                    go_wp2_with fail
                    refine hK.out _ _ (hHeld.trans (hb_y23.mono hHeld.size)) (fun hHeld => ?_)
                    clear hK Kc
                    (try simp only [Act.put, List.setIfInBounds_toArray, List.set_cons_zero, List.set_cons_succ, Array.toArray_toList, List.getElem_toArray, List.getElem_cons_succ, List.getElem_cons_zero])
                    (refine wpAnyH_take (i := 24) (v := .bool true) rfl (by kernel_rfl) (by kernel_rfl) (by kernel_rfl) (fun _ _ _ h => h) (Or.inl ⟨by rfl, fun w _ => (by go_simp)⟩) (by assumption) ?_; (try simp only [Act.put, List.setIfInBounds_toArray, List.set_cons_zero, List.set_cons_succ, Array.toArray_toList, List.getElem_toArray, List.getElem_cons_succ, List.getElem_cons_zero]))
                    (refine wpAnyH_take (i := 25) (v := .bool true) rfl (by kernel_rfl) (by kernel_rfl) (by kernel_rfl) (fun _ _ _ h => h) (Or.inl ⟨by rfl, fun w _ => (by go_simp)⟩) (by assumption) ?_; (try simp only [Act.put, List.setIfInBounds_toArray, List.set_cons_zero, List.set_cons_succ, Array.toArray_toList, List.getElem_toArray, List.getElem_cons_succ, List.getElem_cons_zero]))
                    refine wpAnyH_done (by kernel_rfl) ?_ _
                    have hBf := hB.out.trans (hHeld.mono hB.out.size)
                    go_wp2
                    go_ret
                    exact ⟨rfl, hBf⟩
def p21 (p0 p1 p2 p3 p4 p5 p6 p7 p8 p9 p10 p11 p12 p13 p14 p15 p16 p17 p18 p19 p20 : Int) : Nat → Int
  | 0 => p0 | 1 => p1 | 2 => p2 | 3 => p3 | 4 => p4 | 5 => p5 | 6 => p6 | 7 => p7 | 8 => p8 | 9 => p9 | 10 => p10 | 11 => p11 | 12 => p12 | 13 => p13 | 14 => p14 | 15 => p15 | 16 => p16 | 17 => p17 | 18 => p18 | 19 => p19 | 20 => p20 | _ => 0
theorem p21_w {p0 p1 p2 p3 p4 p5 p6 p7 p8 p9 p10 p11 p12 p13 p14 p15 p16 p17 p18 p19 p20 : Int} (w0 : (Lit.int .u64 p0).wf = true) (w1 : (Lit.int .u64 p1).wf = true) (w2 : (Lit.int .u64 p2).wf = true) (w3 : (Lit.int .u64 p3).wf = true) (w4 : (Lit.int .u64 p4).wf = true) (w5 : (Lit.int .u64 p5).wf = true) (w6 : (Lit.int .u64 p6).wf = true) (w7 : (Lit.int .u64 p7).wf = true) (w8 : (Lit.int .u64 p8).wf = true) (w9 : (Lit.int .u64 p9).wf = true) (w10 : (Lit.int .u64 p10).wf = true) (w11 : (Lit.int .u64 p11).wf = true) (w12 : (Lit.int .u64 p12).wf = true) (w13 : (Lit.int .u64 p13).wf = true) (w14 : (Lit.int .u64 p14).wf = true) (w15 : (Lit.int .u64 p15).wf = true) (w16 : (Lit.int .u64 p16).wf = true) (w17 : (Lit.int .u64 p17).wf = true) (w18 : (Lit.int .u64 p18).wf = true) (w19 : (Lit.int .u64 p19).wf = true) (w20 : (Lit.int .u64 p20).wf = true) : PW (p21 p0 p1 p2 p3 p4 p5 p6 p7 p8 p9 p10 p11 p12 p13 p14 p15 p16 p17 p18 p19 p20) := by
  intro j
  unfold p21
  split
  · have := bounds_u64 w0; omega
  · have := bounds_u64 w1; omega
  · have := bounds_u64 w2; omega
  · have := bounds_u64 w3; omega
  · have := bounds_u64 w4; omega
  · have := bounds_u64 w5; omega
  · have := bounds_u64 w6; omega
  · have := bounds_u64 w7; omega
  · have := bounds_u64 w8; omega
  · have := bounds_u64 w9; omega
  · have := bounds_u64 w10; omega
  · have := bounds_u64 w11; omega
  · have := bounds_u64 w12; omega
  · have := bounds_u64 w13; omega
  · have := bounds_u64 w14; omega
  · have := bounds_u64 w15; omega
  · have := bounds_u64 w16; omega
  · have := bounds_u64 w17; omega
  · have := bounds_u64 w18; omega
  · have := bounds_u64 w19; omega
  · have := bounds_u64 w20; omega
  · omega
theorem ParamsValidity_walk (p0 p1 p2 p3 p4 p5 p6 p7 p8 p9 p10 p11 p12 p13 p14 p15 p16 p17 p18 p19 p20 key : Int) (w0 : (Lit.int .u64 p0).wf = true) (w1 : (Lit.int .u64 p1).wf = true) (w2 : (Lit.int .u64 p2).wf = true) (w3 : (Lit.int .u64 p3).wf = true) (w4 : (Lit.int .u64 p4).wf = true) (w5 : (Lit.int .u64 p5).wf = true) (w6 : (Lit.int .u64 p6).wf = true) (w7 : (Lit.int .u64 p7).wf = true) (w8 : (Lit.int .u64 p8).wf = true) (w9 : (Lit.int .u64 p9).wf = true) (w10 : (Lit.int .u64 p10).wf = true) (w11 : (Lit.int .u64 p11).wf = true) (w12 : (Lit.int .u64 p12).wf = true) (w13 : (Lit.int .u64 p13).wf = true) (w14 : (Lit.int .u64 p14).wf = true) (w15 : (Lit.int .u64 p15).wf = true) (w16 : (Lit.int .u64 p16).wf = true) (w17 : (Lit.int .u64 p17).wf = true) (w18 : (Lit.int .u64 p18).wf = true) (w19 : (Lit.int .u64 p19).wf = true) (w20 : (Lit.int .u64 p20).wf = true) (w21 : (Lit.int .i64 key).wf = true) (w : World) :
    Calls Try.prog 3 #[.agg #[.int .u64 p0, .int .u64 p1, .int .u64 p2, .int .u64 p3, .int .u64 p4, .int .u64 p5, .int .u64 p6, .int .u64 p7, .int .u64 p8, .int .u64 p9, .int .u64 p10, .int .u64 p11, .int .u64 p12, .int .u64 p13, .int .u64 p14, .int .u64 p15, .int .u64 p16, .int .u64 p17, .int .u64 p18, .int .u64 p19, .int .u64 p20], .int .i64 key] w fun e w' => e = .returned (.bool true) ∧ Below w.heap.size w w' :=
  Validity_in (p21 p0 p1 p2 p3 p4 p5 p6 p7 p8 p9 p10 p11 p12 p13 p14 p15 p16 p17 p18 p19 p20) (p21_w w0 w1 w2 w3 w4 w5 w6 w7 w8 w9 w10 w11 w12 w13 w14 w15 w16 w17 w18 w19 w20) key w
end Go.Proofs.Ytbnpgecpanfpiaa
