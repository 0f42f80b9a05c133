/- chapter 15: the examples. -/
import Derived.WalkKit
import Derived.KernelRfl
import Derived.RowKit3
import Derived.Deep.LoopGhost
import Derived.Deep.QuietTactic
import Derived.BigQuiet
import Derived.WideLaws
import Derived.Laws.Rows
import Derived.Below
import Derived.Deep.Draws
import Derived.Outline
import Derived.LoopN
import Derived.Handy
import Derived.Laws.Externs
import Derived.Laws.BitsAllLaws
import Derived.Laws.BitsLemmas
import Derived.Deep.DeepCutAuto
import Derived.Deep.CutBlock
import Derived.Deep.RegionHeld3
import Derived.Test.YtkneiobohhhcpaaG1
namespace Go.Proofs.Ytkneiobohhhcpaa
open Go.RowKit
set_option linter.unusedVariables false
set_option linter.unusedSimpArgs false
theorem fe_min {P : Nat → Int} (hP : PW P) (h : fiV P = 0) {b : Int} (b0 : 0 ≤ b) (b1 : b < 18446744073709551616) (hb : b ≤ P 0 * P 1) : feE b P = 0 ∧ feV b P = getN P 4 := by
  obtain ⟨f1, f2⟩ := fe_val hP h b0 b1
  rw [xq_zero hb, se_zero] at f2
  exact ⟨f1, f2⟩
theorem Gen_fee : feE 0 Gen = 0 ∧ feV 0 Gen = 100000000 := by
  obtain ⟨h1, h2⟩ := fe_min Gen_w Gen_ok (b := 0) (by omega) (by omega) (by decide)
  have := getN4 Gen_w rfl rfl rfl
  have e : Gen 3 = 100000000 := rfl
  exact ⟨h1, by omega⟩
theorem field_lim (w : World) : (Instr.field 27 (.agg (pC Gen)) 4).run Try.prog w = .ok (.int .u64 32000000) w := by kernel_rfl
theorem bgenG_c (w : World) : Calls Try.prog 9 #[.agg (pC Gen)] w fun e w' => e = .returned (.tuple #[.agg #[.int .u64 1, .int .u64 0, .int .u64 0, .int .u64 100000000, .int .u64 0, .int .u64 0, .int .u64 0], .int .i64 0]) ∧ Below w.heap.size w w' := by
  have h := bgen_c Gen Gen_w w
  obtain ⟨h1, h2⟩ := Gen_fee
  obtain ⟨p0, p1, p2, p3⟩ := lim_one (n := 100000000) (by omega)
  rw [geE, geB, geB, geB, geB, geB, h1, h2, if_pos rfl, if_pos rfl, if_pos rfl, if_pos rfl, if_pos rfl, p0, p1, p2, p3] at h
  exact h
theorem ugG_c (w : World) : Calls Try.prog 7 #[.agg #[.int .u64 1, .int .u64 0, .int .u64 0, .int .u64 100000000, .int .u64 0, .int .u64 0, .int .u64 0], .int .u64 32000001, .agg (pC Gen)] w fun e w' => e = .returned (.tuple #[.agg Z7, .int .i64 13]) ∧ Below w.heap.size w w' := by
  have h := ug_c 1 0 0 100000000 0 0 0 32000001 Gen Gen_w (by omega) (by omega) (by omega) w
  have e : grV 0 Gen = 32000000 := by decide
  simp only [ugE, ugB, e, show (32000000 : Int) < 32000001 by decide, if_true] at h
  exact h
theorem grG_c (w : World) : Calls Try.prog 15 #[.agg #[.int .u64 1, .int .u64 0, .int .u64 0, .int .u64 100000000, .int .u64 0, .int .u64 0, .int .u64 0], .agg (pC Gen)] w fun e w' => e = .returned (.int .u64 32000000) ∧ Below w.heap.size w w' := by
  have h := gr_c 1 0 0 100000000 0 0 0 Gen Gen_w (by omega) w
  have e : grV 0 Gen = 32000000 := by decide
  rw [e] at h
  exact h
set_option maxRecDepth 20000 in
set_option maxHeartbeats 16000000 in
theorem awake15_c (w : World) : Calls Try.prog 8 #[] w fun e w' => e = .returned (.bool true) ∧ Below w.heap.size w w' := by
  have hfld := field_lim
  have hwr : IntKind.u64.wrap 32000001 = 32000001 := by decide
  go_enter Try.func8, Try.ntmps8
  go_wp2_with fail
  refine (genesis_c _).mono ?_
  rintro e w1 ⟨rfl, hb1⟩
  have hs1 := hb1.size
  try simp only [World.size_alloc, World.size_setCell, World.size_drew, size_drewN] at hs1
  go_wp2_with fail
  refine (bgenG_c _).mono ?_
  rintro e w2 ⟨rfl, hb2⟩
  have hs2 := hb2.size
  try simp only [World.size_alloc, World.size_setCell, World.size_drew, size_drewN] at hs2
  have HB := hide (show Below w.heap.size w w2 from hb1.trans (hb2.mono (by omega)))
  clear hb1 hb2
  have HZ := hide (RBlk.new w2 Z7 30)
  go_upto_region 2 with (refine wpList_store_rowR (by rfl) (.tmp 1) (.tmp 8) rfl rfl rfl HZ.out rfl sizeBk (one7 _ _ _ _ _ _ _) ?_; intro w3 HX hSz; replace HX := hide HX; replace HB := hide (hSz.1 w.heap.size w (by omega) (HB.out.alloc (by omega) _)); clear hSz HZ)
  have hl3 := HX.out.lt
  go_cut [4] (fun s4 wx => s4 = .int .i64 13 ∧ Below w3.heap.size w3 wx)
  case first =>
    refine wp_region_held_drew (S := fun w' => Below w3.heap.size w3 w') (by kernel_rfl) ((Below.refl _ _).drew) (fun hHeld => ?_)
    (refine wpAnyH_take (i := 0) (v := _) rfl (by kernel_rfl) (by kernel_rfl) (by kernel_rfl) (fun _ _ _ h => h) (yieldsIf_load_mid (by rfl) 30 (.tmp 1) rfl (w2.heap.size) 0 rfl (#[.int .u64 1, .int .u64 0, .int .u64 0, .int .u64 100000000, .int .u64 0, .int .u64 0, .int .u64 0]).toList _ (fun w h => ((HX.out).below h (HX.out).lt).range) Try.underlying30 rfl (by rw [Array.length_toList]; exact sizeBk)) (by assumption) ?_; (try simp only [Act.put, List.setIfInBounds_toArray, List.set_cons_zero, List.set_cons_succ, Array.toArray_toList, List.getElem_toArray, List.getElem_cons_succ, List.getElem_cons_zero]))
    refine wpAnyH_ready (rs := [1, 9]) (by kernel_rfl) (by simp) ?_
    refine AllReadyH.cons rfl (fun K hK => ?_) (AllReadyH.cons rfl (fun K hK => ?_) (AllReadyH.nil))
    · rw [if_pos (by rfl)]
      go_simp
      (go_at_call 14; refine (genesis_c _).mono ?_; rintro e x1 ⟨rfl, hb_x1⟩)
      go_wp2_with fail
      refine hK.out _ _ (hHeld.trans (hb_x1.mono hHeld.size)) (fun hHeld => ?_)
      clear hK K
      (try simp only [Act.put, List.setIfInBounds_toArray, List.set_cons_zero, List.set_cons_succ, Array.toArray_toList, List.getElem_toArray, List.getElem_cons_succ, List.getElem_cons_zero])
      (refine wpAnyH_take (i := 2) (v := .int .u64 32000000) rfl (by kernel_rfl) (by kernel_rfl) (by kernel_rfl) (fun _ _ _ h => h) (Or.inl ⟨by rfl, fun w _ => (by go_simp)⟩) (by assumption) ?_; (try simp only [Act.put, List.setIfInBounds_toArray, List.set_cons_zero, List.set_cons_succ, Array.toArray_toList, List.getElem_toArray, List.getElem_cons_succ, List.getElem_cons_zero]))
      (refine wpAnyH_take (i := 3) (v := .int .u64 32000001) rfl (by kernel_rfl) (by kernel_rfl) (by kernel_rfl) (fun _ _ _ h => h) (Or.inl ⟨by rfl, fun w _ => (by go_simp)⟩) (by assumption) ?_; (try simp only [Act.put, List.setIfInBounds_toArray, List.set_cons_zero, List.set_cons_succ, Array.toArray_toList, List.getElem_toArray, List.getElem_cons_succ, List.getElem_cons_zero]))
      refine wpAnyH_ready (rs := [4, 9]) (by kernel_rfl) (by simp) ?_
      refine AllReadyH.cons rfl (fun K hK => ?_) (AllReadyH.cons rfl (fun K hK => ?_) (AllReadyH.nil))
      · rw [if_pos (by rfl)]
        go_simp
        (go_at_call 14; refine (genesis_c _).mono ?_; rintro e x4 ⟨rfl, hb_x4⟩)
        go_wp2_with fail
        refine hK.out _ _ (hHeld.trans (hb_x4.mono hHeld.size)) (fun hHeld => ?_)
        clear hK K
        (try simp only [Act.put, List.setIfInBounds_toArray, List.set_cons_zero, List.set_cons_succ, Array.toArray_toList, List.getElem_toArray, List.getElem_cons_succ, List.getElem_cons_zero])
        refine wpAnyH_ready (rs := [5, 9]) (by kernel_rfl) (by simp) ?_
        refine AllReadyH.cons rfl (fun K hK => ?_) (AllReadyH.cons rfl (fun K hK => ?_) (AllReadyH.nil))
        · rw [if_pos (by rfl)]
          go_simp
          (go_at_call 7; refine (ugG_c _).mono ?_; rintro e x5 ⟨rfl, hb_x5⟩)
          go_wp2_with fail
          refine hK.out _ _ (hHeld.trans (hb_x5.mono hHeld.size)) (fun hHeld => ?_)
          clear hK K
          (try simp only [Act.put, List.setIfInBounds_toArray, List.set_cons_zero, List.set_cons_succ, Array.toArray_toList, List.getElem_toArray, List.getElem_cons_succ, List.getElem_cons_zero])
          (refine wpAnyH_take (i := 6) (v := .tuple #[.agg Z7, .int .i64 13]) rfl (by kernel_rfl) (by kernel_rfl) (by kernel_rfl) (fun _ _ _ h => h) (Or.inl ⟨by rfl, fun w _ => (by go_simp)⟩) (by assumption) ?_; (try simp only [Act.put, List.setIfInBounds_toArray, List.set_cons_zero, List.set_cons_succ, Array.toArray_toList, List.getElem_toArray, List.getElem_cons_succ, List.getElem_cons_zero]))
          (refine wpAnyH_take (i := 7) (v := .agg Z7) rfl (by kernel_rfl) (by kernel_rfl) (by kernel_rfl) (fun _ _ _ h => h) (Or.inl ⟨by rfl, fun w _ => (by go_simp)⟩) (by assumption) ?_; (try simp only [Act.put, List.setIfInBounds_toArray, List.set_cons_zero, List.set_cons_succ, Array.toArray_toList, List.getElem_toArray, List.getElem_cons_succ, List.getElem_cons_zero]))
          (refine wpAnyH_take (i := 8) (v := .int .i64 13) rfl (by kernel_rfl) (by kernel_rfl) (by kernel_rfl) (fun _ _ _ h => h) (Or.inl ⟨by rfl, fun w _ => (by go_simp)⟩) (by assumption) ?_; (try simp only [Act.put, List.setIfInBounds_toArray, List.set_cons_zero, List.set_cons_succ, Array.toArray_toList, List.getElem_toArray, List.getElem_cons_succ, List.getElem_cons_zero]))
          refine wpAnyH_ready (rs := [9]) (by kernel_rfl) (by simp) ?_
          refine AllReadyH.cons rfl (fun K hK => ?_) (AllReadyH.nil)
          · rw [if_pos (by rfl)]
            go_simp
            have z4 := RBlk.new (x5) Z7 30
            have hg4 := hHeld.size
            refine hK.out _ _ (hHeld.alloc hHeld.size _) (fun hHeld => ?_)
            clear hK K
            (try simp only [Act.put, List.setIfInBounds_toArray, List.set_cons_zero, List.set_cons_succ, Array.toArray_toList, List.getElem_toArray, List.getElem_cons_succ, List.getElem_cons_zero])
            refine wpAnyH_ready (rs := [10]) (by kernel_rfl) (by simp) ?_
            refine AllReadyH.cons rfl (fun K hK => ?_) (AllReadyH.nil)
            · rw [if_pos (by rfl)]
              refine wp_store_mid 30 _ _ rfl (x5.heap.size) 0 Z7 rfl rfl (z4).there sizeBk (one7 _ _ _ _ _ _ _) ?_
              have z5 := (z4).put (ds := Z7) rfl
              refine hK.out _ _ (below_setCells hg4 _ _ _ hHeld) (fun hHeld => ?_)
              clear hK K
              (try simp only [Act.put, List.setIfInBounds_toArray, List.set_cons_zero, List.set_cons_succ, Array.toArray_toList, List.getElem_toArray, List.getElem_cons_succ, List.getElem_cons_zero])
              (refine wpAnyH_take (i := 11) (v := .int .i64 13) rfl (by kernel_rfl) (by kernel_rfl) (by kernel_rfl) (fun _ _ _ h => h) (Or.inl ⟨by rfl, fun w _ => (by go_simp)⟩) (by assumption) ?_; (try simp only [Act.put, List.setIfInBounds_toArray, List.set_cons_zero, List.set_cons_succ, Array.toArray_toList, List.getElem_toArray, List.getElem_cons_succ, List.getElem_cons_zero]))
              refine wpAnyH_done (by kernel_rfl) ?_ _
              go_wp2_with fail
              go_meet
              exact ⟨rfl, hHeld⟩
        · rw [if_pos (by rfl)]
          go_simp
          have z3 := RBlk.new (x4) Z7 30
          have hg3 := hHeld.size
          refine hK.out _ _ (hHeld.alloc hHeld.size _) (fun hHeld => ?_)
          clear hK K
          (try simp only [Act.put, List.setIfInBounds_toArray, List.set_cons_zero, List.set_cons_succ, Array.toArray_toList, List.getElem_toArray, List.getElem_cons_succ, List.getElem_cons_zero])
          refine wpAnyH_ready (rs := [5]) (by kernel_rfl) (by simp) ?_
          refine AllReadyH.cons rfl (fun K hK => ?_) (AllReadyH.nil)
          · rw [if_pos (by rfl)]
            go_simp
            (go_at_call 7; refine (ugG_c _).mono ?_; rintro e x5 ⟨rfl, hb_x5⟩)
            go_wp2_with fail
            have z4 := (z3).below hb_x5 (z3).lt
            refine hK.out _ _ (hHeld.trans (hb_x5.mono hHeld.size)) (fun hHeld => ?_)
            clear hK K
            (try simp only [Act.put, List.setIfInBounds_toArray, List.set_cons_zero, List.set_cons_succ, Array.toArray_toList, List.getElem_toArray, List.getElem_cons_succ, List.getElem_cons_zero])
            (refine wpAnyH_take (i := 6) (v := .tuple #[.agg Z7, .int .i64 13]) rfl (by kernel_rfl) (by kernel_rfl) (by kernel_rfl) (fun _ _ _ h => h) (Or.inl ⟨by rfl, fun w _ => (by go_simp)⟩) (by assumption) ?_; (try simp only [Act.put, List.setIfInBounds_toArray, List.set_cons_zero, List.set_cons_succ, Array.toArray_toList, List.getElem_toArray, List.getElem_cons_succ, List.getElem_cons_zero]))
            (refine wpAnyH_take (i := 7) (v := .agg Z7) rfl (by kernel_rfl) (by kernel_rfl) (by kernel_rfl) (fun _ _ _ h => h) (Or.inl ⟨by rfl, fun w _ => (by go_simp)⟩) (by assumption) ?_; (try simp only [Act.put, List.setIfInBounds_toArray, List.set_cons_zero, List.set_cons_succ, Array.toArray_toList, List.getElem_toArray, List.getElem_cons_succ, List.getElem_cons_zero]))
            (refine wpAnyH_take (i := 8) (v := .int .i64 13) rfl (by kernel_rfl) (by kernel_rfl) (by kernel_rfl) (fun _ _ _ h => h) (Or.inl ⟨by rfl, fun w _ => (by go_simp)⟩) (by assumption) ?_; (try simp only [Act.put, List.setIfInBounds_toArray, List.set_cons_zero, List.set_cons_succ, Array.toArray_toList, List.getElem_toArray, List.getElem_cons_succ, List.getElem_cons_zero]))
            refine wpAnyH_ready (rs := [10]) (by kernel_rfl) (by simp) ?_
            refine AllReadyH.cons rfl (fun K hK => ?_) (AllReadyH.nil)
            · rw [if_pos (by rfl)]
              refine wp_store_mid 30 _ _ rfl (x4.heap.size) 0 Z7 rfl rfl (z4).there sizeBk (one7 _ _ _ _ _ _ _) ?_
              have z5 := (z4).put (ds := Z7) rfl
              refine hK.out _ _ (below_setCells hg3 _ _ _ hHeld) (fun hHeld => ?_)
              clear hK K
              (try simp only [Act.put, List.setIfInBounds_toArray, List.set_cons_zero, List.set_cons_succ, Array.toArray_toList, List.getElem_toArray, List.getElem_cons_succ, List.getElem_cons_zero])
              (refine wpAnyH_take (i := 11) (v := .int .i64 13) rfl (by kernel_rfl) (by kernel_rfl) (by kernel_rfl) (fun _ _ _ h => h) (Or.inl ⟨by rfl, fun w _ => (by go_simp)⟩) (by assumption) ?_; (try simp only [Act.put, List.setIfInBounds_toArray, List.set_cons_zero, List.set_cons_succ, Array.toArray_toList, List.getElem_toArray, List.getElem_cons_succ, List.getElem_cons_zero]))
              refine wpAnyH_done (by kernel_rfl) ?_ _
              go_wp2_with fail
              go_meet
              exact ⟨rfl, hHeld⟩
      · rw [if_pos (by rfl)]
        go_simp
        have z2 := RBlk.new (x1) Z7 30
        have hg2 := hHeld.size
        refine hK.out _ _ (hHeld.alloc hHeld.size _) (fun hHeld => ?_)
        clear hK K
        (try simp only [Act.put, List.setIfInBounds_toArray, List.set_cons_zero, List.set_cons_succ, Array.toArray_toList, List.getElem_toArray, List.getElem_cons_succ, List.getElem_cons_zero])
        refine wpAnyH_ready (rs := [4]) (by kernel_rfl) (by simp) ?_
        refine AllReadyH.cons rfl (fun K hK => ?_) (AllReadyH.nil)
        · rw [if_pos (by rfl)]
          go_simp
          (go_at_call 14; refine (genesis_c _).mono ?_; rintro e x4 ⟨rfl, hb_x4⟩)
          go_wp2_with fail
          have z3 := (z2).below hb_x4 (z2).lt
          refine hK.out _ _ (hHeld.trans (hb_x4.mono hHeld.size)) (fun hHeld => ?_)
          clear hK K
          (try simp only [Act.put, List.setIfInBounds_toArray, List.set_cons_zero, List.set_cons_succ, Array.toArray_toList, List.getElem_toArray, List.getElem_cons_succ, List.getElem_cons_zero])
          refine wpAnyH_ready (rs := [5]) (by kernel_rfl) (by simp) ?_
          refine AllReadyH.cons rfl (fun K hK => ?_) (AllReadyH.nil)
          · rw [if_pos (by rfl)]
            go_simp
            (go_at_call 7; refine (ugG_c _).mono ?_; rintro e x5 ⟨rfl, hb_x5⟩)
            go_wp2_with fail
            have z4 := (z3).below hb_x5 (z3).lt
            refine hK.out _ _ (hHeld.trans (hb_x5.mono hHeld.size)) (fun hHeld => ?_)
            clear hK K
            (try simp only [Act.put, List.setIfInBounds_toArray, List.set_cons_zero, List.set_cons_succ, Array.toArray_toList, List.getElem_toArray, List.getElem_cons_succ, List.getElem_cons_zero])
            (refine wpAnyH_take (i := 6) (v := .tuple #[.agg Z7, .int .i64 13]) rfl (by kernel_rfl) (by kernel_rfl) (by kernel_rfl) (fun _ _ _ h => h) (Or.inl ⟨by rfl, fun w _ => (by go_simp)⟩) (by assumption) ?_; (try simp only [Act.put, List.setIfInBounds_toArray, List.set_cons_zero, List.set_cons_succ, Array.toArray_toList, List.getElem_toArray, List.getElem_cons_succ, List.getElem_cons_zero]))
            (refine wpAnyH_take (i := 7) (v := .agg Z7) rfl (by kernel_rfl) (by kernel_rfl) (by kernel_rfl) (fun _ _ _ h => h) (Or.inl ⟨by rfl, fun w _ => (by go_simp)⟩) (by assumption) ?_; (try simp only [Act.put, List.setIfInBounds_toArray, List.set_cons_zero, List.set_cons_succ, Array.toArray_toList, List.getElem_toArray, List.getElem_cons_succ, List.getElem_cons_zero]))
            (refine wpAnyH_take (i := 8) (v := .int .i64 13) rfl (by kernel_rfl) (by kernel_rfl) (by kernel_rfl) (fun _ _ _ h => h) (Or.inl ⟨by rfl, fun w _ => (by go_simp)⟩) (by assumption) ?_; (try simp only [Act.put, List.setIfInBounds_toArray, List.set_cons_zero, List.set_cons_succ, Array.toArray_toList, List.getElem_toArray, List.getElem_cons_succ, List.getElem_cons_zero]))
            refine wpAnyH_ready (rs := [10]) (by kernel_rfl) (by simp) ?_
            refine AllReadyH.cons rfl (fun K hK => ?_) (AllReadyH.nil)
            · rw [if_pos (by rfl)]
              refine wp_store_mid 30 _ _ rfl (x1.heap.size) 0 Z7 rfl rfl (z4).there sizeBk (one7 _ _ _ _ _ _ _) ?_
              have z5 := (z4).put (ds := Z7) rfl
              refine hK.out _ _ (below_setCells hg2 _ _ _ hHeld) (fun hHeld => ?_)
              clear hK K
              (try simp only [Act.put, List.setIfInBounds_toArray, List.set_cons_zero, List.set_cons_succ, Array.toArray_toList, List.getElem_toArray, List.getElem_cons_succ, List.getElem_cons_zero])
              (refine wpAnyH_take (i := 11) (v := .int .i64 13) rfl (by kernel_rfl) (by kernel_rfl) (by kernel_rfl) (fun _ _ _ h => h) (Or.inl ⟨by rfl, fun w _ => (by go_simp)⟩) (by assumption) ?_; (try simp only [Act.put, List.setIfInBounds_toArray, List.set_cons_zero, List.set_cons_succ, Array.toArray_toList, List.getElem_toArray, List.getElem_cons_succ, List.getElem_cons_zero]))
              refine wpAnyH_done (by kernel_rfl) ?_ _
              go_wp2_with fail
              go_meet
              exact ⟨rfl, hHeld⟩
    · rw [if_pos (by rfl)]
      go_simp
      have z1 := RBlk.new (w3.drew) Z7 30
      have hg1 := hHeld.size
      refine hK.out _ _ (hHeld.alloc hHeld.size _) (fun hHeld => ?_)
      clear hK K
      (try simp only [Act.put, List.setIfInBounds_toArray, List.set_cons_zero, List.set_cons_succ, Array.toArray_toList, List.getElem_toArray, List.getElem_cons_succ, List.getElem_cons_zero])
      refine wpAnyH_ready (rs := [1]) (by kernel_rfl) (by simp) ?_
      refine AllReadyH.cons rfl (fun K hK => ?_) (AllReadyH.nil)
      · rw [if_pos (by rfl)]
        go_simp
        (go_at_call 14; refine (genesis_c _).mono ?_; rintro e x1 ⟨rfl, hb_x1⟩)
        go_wp2_with fail
        have z2 := (z1).below hb_x1 (z1).lt
        refine hK.out _ _ (hHeld.trans (hb_x1.mono hHeld.size)) (fun hHeld => ?_)
        clear hK K
        (try simp only [Act.put, List.setIfInBounds_toArray, List.set_cons_zero, List.set_cons_succ, Array.toArray_toList, List.getElem_toArray, List.getElem_cons_succ, List.getElem_cons_zero])
        (refine wpAnyH_take (i := 2) (v := .int .u64 32000000) rfl (by kernel_rfl) (by kernel_rfl) (by kernel_rfl) (fun _ _ _ h => h) (Or.inl ⟨by rfl, fun w _ => (by go_simp)⟩) (by assumption) ?_; (try simp only [Act.put, List.setIfInBounds_toArray, List.set_cons_zero, List.set_cons_succ, Array.toArray_toList, List.getElem_toArray, List.getElem_cons_succ, List.getElem_cons_zero]))
        (refine wpAnyH_take (i := 3) (v := .int .u64 32000001) rfl (by kernel_rfl) (by kernel_rfl) (by kernel_rfl) (fun _ _ _ h => h) (Or.inl ⟨by rfl, fun w _ => (by go_simp)⟩) (by assumption) ?_; (try simp only [Act.put, List.setIfInBounds_toArray, List.set_cons_zero, List.set_cons_succ, Array.toArray_toList, List.getElem_toArray, List.getElem_cons_succ, List.getElem_cons_zero]))
        refine wpAnyH_ready (rs := [4]) (by kernel_rfl) (by simp) ?_
        refine AllReadyH.cons rfl (fun K hK => ?_) (AllReadyH.nil)
        · rw [if_pos (by rfl)]
          go_simp
          (go_at_call 14; refine (genesis_c _).mono ?_; rintro e x4 ⟨rfl, hb_x4⟩)
          go_wp2_with fail
          have z3 := (z2).below hb_x4 (z2).lt
          refine hK.out _ _ (hHeld.trans (hb_x4.mono hHeld.size)) (fun hHeld => ?_)
          clear hK K
          (try simp only [Act.put, List.setIfInBounds_toArray, List.set_cons_zero, List.set_cons_succ, Array.toArray_toList, List.getElem_toArray, List.getElem_cons_succ, List.getElem_cons_zero])
          refine wpAnyH_ready (rs := [5]) (by kernel_rfl) (by simp) ?_
          refine AllReadyH.cons rfl (fun K hK => ?_) (AllReadyH.nil)
          · rw [if_pos (by rfl)]
            go_simp
            (go_at_call 7; refine (ugG_c _).mono ?_; rintro e x5 ⟨rfl, hb_x5⟩)
            go_wp2_with fail
            have z4 := (z3).below hb_x5 (z3).lt
            refine hK.out _ _ (hHeld.trans (hb_x5.mono hHeld.size)) (fun hHeld => ?_)
            clear hK K
            (try simp only [Act.put, List.setIfInBounds_toArray, List.set_cons_zero, List.set_cons_succ, Array.toArray_toList, List.getElem_toArray, List.getElem_cons_succ, List.getElem_cons_zero])
            (refine wpAnyH_take (i := 6) (v := .tuple #[.agg Z7, .int .i64 13]) rfl (by kernel_rfl) (by kernel_rfl) (by kernel_rfl) (fun _ _ _ h => h) (Or.inl ⟨by rfl, fun w _ => (by go_simp)⟩) (by assumption) ?_; (try simp only [Act.put, List.setIfInBounds_toArray, List.set_cons_zero, List.set_cons_succ, Array.toArray_toList, List.getElem_toArray, List.getElem_cons_succ, List.getElem_cons_zero]))
            (refine wpAnyH_take (i := 7) (v := .agg Z7) rfl (by kernel_rfl) (by kernel_rfl) (by kernel_rfl) (fun _ _ _ h => h) (Or.inl ⟨by rfl, fun w _ => (by go_simp)⟩) (by assumption) ?_; (try simp only [Act.put, List.setIfInBounds_toArray, List.set_cons_zero, List.set_cons_succ, Array.toArray_toList, List.getElem_toArray, List.getElem_cons_succ, List.getElem_cons_zero]))
            (refine wpAnyH_take (i := 8) (v := .int .i64 13) rfl (by kernel_rfl) (by kernel_rfl) (by kernel_rfl) (fun _ _ _ h => h) (Or.inl ⟨by rfl, fun w _ => (by go_simp)⟩) (by assumption) ?_; (try simp only [Act.put, List.setIfInBounds_toArray, List.set_cons_zero, List.set_cons_succ, Array.toArray_toList, List.getElem_toArray, List.getElem_cons_succ, List.getElem_cons_zero]))
            refine wpAnyH_ready (rs := [10]) (by kernel_rfl) (by simp) ?_
            refine AllReadyH.cons rfl (fun K hK => ?_) (AllReadyH.nil)
            · rw [if_pos (by rfl)]
              refine wp_store_mid 30 _ _ rfl (w3.drew.heap.size) 0 Z7 rfl rfl (z4).there sizeBk (one7 _ _ _ _ _ _ _) ?_
              have z5 := (z4).put (ds := Z7) rfl
              refine hK.out _ _ (below_setCells hg1 _ _ _ hHeld) (fun hHeld => ?_)
              clear hK K
              (try simp only [Act.put, List.setIfInBounds_toArray, List.set_cons_zero, List.set_cons_succ, Array.toArray_toList, List.getElem_toArray, List.getElem_cons_succ, List.getElem_cons_zero])
              (refine wpAnyH_take (i := 11) (v := .int .i64 13) rfl (by kernel_rfl) (by kernel_rfl) (by kernel_rfl) (fun _ _ _ h => h) (Or.inl ⟨by rfl, fun w _ => (by go_simp)⟩) (by assumption) ?_; (try simp only [Act.put, List.setIfInBounds_toArray, List.set_cons_zero, List.set_cons_succ, Array.toArray_toList, List.getElem_toArray, List.getElem_cons_succ, List.getElem_cons_zero]))
              refine wpAnyH_done (by kernel_rfl) ?_ _
              go_wp2_with fail
              go_meet
              exact ⟨rfl, hHeld⟩
  case rest =>
    obtain ⟨rfl, hb⟩ := hcut
    have HXc := HX.out.below hb HX.out.lt
    have hl3' := HXc.lt
    have HBc := hide (HB.out.trans (hb.mono HB.out.size))
    have d0 : wc.cell? ⟨w2.heap.size, 0, none⟩ = some (.int .u64 1) := HXc.cell 0
    have d1 : wc.cell? ⟨w2.heap.size, 1, none⟩ = some (.int .u64 0) := HXc.cell 1
    have d2 : wc.cell? ⟨w2.heap.size, 2, none⟩ = some (.int .u64 0) := HXc.cell 2
    have d3 : wc.cell? ⟨w2.heap.size, 3, none⟩ = some (.int .u64 100000000) := HXc.cell 3
    have d4 : wc.cell? ⟨w2.heap.size, 4, none⟩ = some (.int .u64 0) := HXc.cell 4
    have d5 : wc.cell? ⟨w2.heap.size, 5, none⟩ = some (.int .u64 0) := HXc.cell 5
    have d6 : wc.cell? ⟨w2.heap.size, 6, none⟩ = some (.int .u64 0) := HXc.cell 6
    clear hb HXc
    go_wp2_with fail
    go_region_held3 (fun w' => w'.cell? ⟨w2.heap.size, 0, none⟩ = some (.int .u64 1) ∧ w'.cell? ⟨w2.heap.size, 1, none⟩ = some (.int .u64 0) ∧ w'.cell? ⟨w2.heap.size, 2, none⟩ = some (.int .u64 0) ∧ w'.cell? ⟨w2.heap.size, 3, none⟩ = some (.int .u64 100000000) ∧ w'.cell? ⟨w2.heap.size, 4, none⟩ = some (.int .u64 0) ∧ w'.cell? ⟨w2.heap.size, 5, none⟩ = some (.int .u64 0) ∧ w'.cell? ⟨w2.heap.size, 6, none⟩ = some (.int .u64 0)) (simp (maxDischargeDepth := 16) [go_sem, *, World.cell?_alloc_some, World.cell?_setCell_far]) (first | (go_at_call 14; (with_reducible refine (genesis_c _).mono ?_); rintro e w4 ⟨rfl, hb4⟩; (have hs4 := hb4.size); (try simp only [World.size_alloc, World.size_setCell, World.size_drew, size_drewN] at hs4); (have hc4_0 : ∀ o, w4.cell? ⟨w2.heap.size, o, none⟩ = _ := fun o => hb4.cell (p := ⟨w2.heap.size, o, none⟩) (by ((try simp only [World.size_alloc, World.size_setCell, World.size_drew, size_drewN]); omega))); (have hf4_0 : ∀ o, w4.frozen? ⟨w2.heap.size, o, none⟩ = _ := fun o => hb4.frozen (p := ⟨w2.heap.size, o, none⟩) (by ((try simp only [World.size_alloc, World.size_setCell, World.size_drew, size_drewN]); omega))); (have z4_0 : w2.heap.size < w4.heap.size := (by omega))) | (go_at_call 15; (with_reducible refine (grG_c _).mono ?_); rintro e w5 ⟨rfl, hb5⟩; (have hs5 := hb5.size); (try simp only [World.size_alloc, World.size_setCell, World.size_drew, size_drewN] at hs5); (have hc5_0 : ∀ o, w5.cell? ⟨w2.heap.size, o, none⟩ = _ := fun o => hb5.cell (p := ⟨w2.heap.size, o, none⟩) (by ((try simp only [World.size_alloc, World.size_setCell, World.size_drew, size_drewN]); omega))); (have hf5_0 : ∀ o, w5.frozen? ⟨w2.heap.size, o, none⟩ = _ := fun o => hb5.frozen (p := ⟨w2.heap.size, o, none⟩) (by ((try simp only [World.size_alloc, World.size_setCell, World.size_drew, size_drewN]); omega))); (have z5_0 : w2.heap.size < w5.heap.size := (by omega))) | fail)
    have hBf := HBc.out
    go_wp2
    go_ret
    exact ⟨rfl, (by (repeat' (first | (with_reducible exact Below.refl _ _) | (with_reducible assumption) | (with_reducible refine Below.alloc ?_ ?_ _) | (with_reducible refine Below.drew ?_) | (with_reducible refine below_drewN ?_ _) | (with_reducible refine Below.setCell ?_ ?_ _) | (with_reducible refine below_step (by with_reducible assumption) ?_ ?_) | (first | (with_reducible exact Nat.le_refl _) | (with_reducible assumption) | omega | (simp only [World.size_alloc, World.size_setCell, World.size_drew, size_drewN]; omega) | (simp; omega) | (simp; done)))))⟩
end Go.Proofs.Ytkneiobohhhcpaa
