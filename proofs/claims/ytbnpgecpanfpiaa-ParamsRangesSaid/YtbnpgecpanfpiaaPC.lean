/- chapter 12: ParamsCommute, walked. -/
import Derived.WalkKit
import Derived.KernelRfl
import Derived.RowKit3
import Derived.Deep.LoopGhost
import Derived.Deep.QuietTactic
import Derived.BigQuiet
import Derived.WideLaws
import Derived.Laws.Rows
import Derived.Below
import Derived.Deep.Draws
import Derived.Outline
import Derived.LoopN
import Derived.Handy
import Derived.Laws.Externs
import Derived.Laws.BitsAllLaws
import Derived.Laws.BitsLemmas
import Derived.Deep.DeepCutAuto
import Derived.Deep.CutBlock
import Derived.Deep.RegionHeld3
import Derived.Test.YtbnpgecpanfpiaaPB
namespace Go.Proofs.Ytbnpgecpanfpiaa
open Go.RowKit
set_option linter.unusedVariables false
set_option linter.unusedSimpArgs false
theorem mod_b {x n : Int} (n0 : 0 < n) (n1 : n < 4294967296) (w : World) :
    Calls Try.prog 17 #[.int .i64 x, .int .i64 n] w fun e w' => e = .returned (.int .i64 (modV x n)) ∧ Below w.heap.size w w' :=
  (mod_c n0 n1 w).mono fun e w' ⟨he, hw⟩ => ⟨he, hw ▸ Below.refl _ _⟩
/-- What the four assignments answer. -/
theorem commute_facts {j k : Int} (j0 : 0 ≤ j) (j1 : j < 12) (k0 : 0 ≤ k) (k1 : k < 12) (hne : j ≠ k) (hx : ¬ (10 < 1 + j ∧ 10 < 1 + k)) {V1 V2 : Nat → Int} (hV1 : ∀ i, 0 ≤ V1 i ∧ V1 i < 18446744073709551616) (hV2 : ∀ i, 0 ≤ V2 i ∧ V2 i < 18446744073709551616) {E1 E2 : Int} {R1 R2 : Nat → Int} (e1 : setE Gen (1 + j) V1 = E1) (e2 : setE Gen (1 + k) V2 = E2) (r1 : setR Gen (1 + j) V1 = R1) (r2 : setR Gen (1 + k) V2 = R2) :
    E1 = 0 → ∃ R3 : Nat → Int, Hid (∀ w, Calls Try.prog 18 #[.agg (pC R1), .int .i64 (1 + k), .agg #[.int .u64 (V2 0), .int .u64 (V2 1), .int .u64 (V2 2), .int .u64 (V2 3)]] w fun e w' => e = .returned (.tuple #[.agg (pC R3), .int .i64 E2]) ∧ Below w.heap.size w w') ∧
      Hid (E2 = 0 → Hid (∀ w, Calls Try.prog 18 #[.agg (pC R2), .int .i64 (1 + j), .agg #[.int .u64 (V1 0), .int .u64 (V1 1), .int .u64 (V1 2), .int .u64 (V1 3)]] w fun e w' => e = .returned (.tuple #[.agg (pC R3), .int .i64 0]) ∧ Below w.heap.size w w')) := by
  intro h1
  rw [h1] at e1
  have hR1 : R1 = setP Gen (1 + j) V1 := by rw [← r1]; exact setR_set e1
  have hw1 : PW R1 := by rw [hR1]; exact setP_w Gen_w hV1 _
  have c1 := comm_E (P := Gen) (j := 1 + j) (k := 1 + k) (by omega) (by omega) (by omega) (by omega) (by omega) (by omega) Gen_ok (m := V1) (n := V2) e1
  rw [← hR1, e2] at c1
  have hE : setE R1 (1 + k) V2 = E2 := by
    by_cases h2 : E2 = 0
    · rw [h2]; exact c1.2 h2
    · rw [set_E (by omega) (by omega) (fun h => h2 (c1.1 h)), ← e2, set_E (by omega) (by omega) (by rw [e2]; exact h2)]
  refine ⟨setR R1 (1 + k) V2, ?_, ?_⟩
  · have h := fun w => set_c R1 hw1 V2 hV2 (1 + k) w
    rw [hE] at h
    exact h
  · intro h2
    rw [h2] at e2 hE
    have hR2 : R2 = setP Gen (1 + k) V2 := by rw [← r2]; exact setR_set e2
    have hw2 : PW R2 := by rw [hR2]; exact setP_w Gen_w hV2 _
    have c2 := comm_E (P := Gen) (j := 1 + k) (k := 1 + j) (by omega) (by omega) (by omega) (by omega) (by omega) (by omega) Gen_ok (m := V2) (n := V1) e2
    rw [← hR2, e1] at c2
    have hE' : setE R2 (1 + j) V1 = 0 := c2.2 rfl
    have h := fun w => set_c R2 hw2 V1 hV1 (1 + j) w
    rw [hE', setR_set hE', hR2, set_comm (by omega) (by omega) (by omega) (by omega) (by omega), ← hR1, ← setR_set hE, ← hR2] at h
    exact h
theorem cutU {f : World → Prop} {W w : World} {g1 g2 : Nat} {k1 a1 b1 c1 d1 e1 h1 k2 a2 b2 c2 d2 e2 h2 : Int} (hb : Below w.heap.size w W) (h : UBlk W g1 k1 a1 b1 c1 d1 e1 h1) (z : UBlk W g2 k2 a2 b2 c2 d2 e2 h2) (k : ∀ W', Hid (Below w.heap.size w W') → Hid (UBlk W' g1 k1 a1 b1 c1 d1 e1 h1) → Hid (UBlk W' g2 k2 a2 b2 c2 d2 e2 h2) → f W') : f W := k W hb h z
set_option maxRecDepth 20000 in
set_option maxHeartbeats 32000000 in
theorem Commute_in (N1 : Nat → Int) (hN1 : ∀ j, 0 ≤ N1 j ∧ N1 j < 18446744073709551616) (key1 few1 how1 : Int) (f1 : 0 ≤ few1) (g1 : few1 < 18446744073709551616) (h1 : 0 ≤ how1) (N2 : Nat → Int) (hN2 : ∀ j, 0 ≤ N2 j ∧ N2 j < 18446744073709551616) (key2 few2 how2 : Int) (f2 : 0 ≤ few2) (g2 : few2 < 18446744073709551616) (h2 : 0 ≤ how2) (w : World) :
    Calls Try.prog 6 #[.agg #[.int .i64 key1, .int .u64 (N1 0), .int .u64 (N1 1), .int .u64 (N1 2), .int .u64 (N1 3), .int .u64 few1, .int .u8 how1], .agg #[.int .i64 key2, .int .u64 (N2 0), .int .u64 (N2 1), .int .u64 (N2 2), .int .u64 (N2 3), .int .u64 few2, .int .u8 how2]] w fun e w' => e = .returned (.bool true) ∧ Below w.heap.size w w' := by
  have HVal1 := fun w => value_c (N := N1) (how := how1) key1 f1 g1 h1 w
  have hV1 := vL_w hN1 f1 g1 how1
  obtain ⟨V1, eV1⟩ : ∃ V, vL N1 few1 how1 = V := ⟨_, rfl⟩
  rw [eV1] at HVal1 hV1
  replace HVal1 := hide HVal1
  clear eV1 hN1 f1 g1 h1
  have HM1 := hide (fun w => mod_b (x := key1) (n := 12) (by omega) (by omega) w)
  have j0 : 0 ≤ modV key1 12 := Int.emod_nonneg _ (by omega)
  have j1 : modV key1 12 < 12 := Int.emod_lt_of_pos _ (by omega)
  obtain ⟨j, ej⟩ : ∃ x, modV key1 12 = x := ⟨_, rfl⟩
  rw [ej] at HM1 j0 j1
  have wj : IntKind.i64.wrap (1 + j) = 1 + j := by rw [IntKind.wrap_i64]; omega
  clear ej
  have HVal2 := fun w => value_c (N := N2) (how := how2) key2 f2 g2 h2 w
  have hV2 := vL_w hN2 f2 g2 how2
  obtain ⟨V2, eV2⟩ : ∃ V, vL N2 few2 how2 = V := ⟨_, rfl⟩
  rw [eV2] at HVal2 hV2
  replace HVal2 := hide HVal2
  clear eV2 hN2 f2 g2 h2
  have HM2 := hide (fun w => mod_b (x := key2) (n := 12) (by omega) (by omega) w)
  have k0 : 0 ≤ modV key2 12 := Int.emod_nonneg _ (by omega)
  have k1 : modV key2 12 < 12 := Int.emod_lt_of_pos _ (by omega)
  obtain ⟨k, ek⟩ : ∃ x, modV key2 12 = x := ⟨_, rfl⟩
  rw [ek] at HM2 k0 k1
  have wk : IntKind.i64.wrap (1 + k) = 1 + k := by rw [IntKind.wrap_i64]; omega
  clear ek
  have HU1 := hide ((UBlk.new w key1 (N1 0) (N1 1) (N1 2) (N1 3) few1 how1).alloc (.cells #[.int .i64 key2, .int .u64 (N2 0), .int .u64 (N2 1), .int .u64 (N2 2), .int .u64 (N2 3), .int .u64 few2, .int .u8 how2] 37))
  have HU2 := hide (UBlk.new (w.alloc (.cells #[.int .i64 key1, .int .u64 (N1 0), .int .u64 (N1 1), .int .u64 (N1 2), .int .u64 (N1 3), .int .u64 few1, .int .u8 how1] 37)) key2 (N2 0) (N2 1) (N2 2) (N2 3) few2 how2)
  simp only [World.size_alloc] at HU2
  have hB := hide (show Below w.heap.size w ((w.alloc (.cells #[.int .i64 key1, .int .u64 (N1 0), .int .u64 (N1 1), .int .u64 (N1 2), .int .u64 (N1 3), .int .u64 few1, .int .u8 how1] 37)).alloc (.cells #[.int .i64 key2, .int .u64 (N2 0), .int .u64 (N2 1), .int .u64 (N2 2), .int .u64 (N2 3), .int .u64 few2, .int .u8 how2] 37)) from ((Below.refl _ _).alloc (Nat.le_refl _) _).alloc (by simp) _)
  go_enter Try.func6, Try.ntmps6
  go_upto_region 1 with fail
  refine cutU hB.out HU1.out HU2.out ?_
  clear hB HU1 HU2
  intro w0 hB HU1 HU2
  have hl1 := HU1.out.lt
  have hl2 := HU2.out.lt
  go_cut [5, 6] (fun s5 s6 wx => s5 = .int .i64 (1 + j) ∧ s6 = .int .i64 (1 + k) ∧ Below w0.heap.size w0 wx)
  case first =>
    refine wp_region_held_drew (S := fun w' => Below w0.heap.size w0 w') (by kernel_rfl) ((Below.refl _ _).drew) (fun hHeld => ?_)
    (refine wpAnyH_take (i := 0) (v := .pointer (some ⟨w.heap.size, 0, none⟩)) rfl (by kernel_rfl) (by kernel_rfl) (by kernel_rfl) (fun _ _ _ h => h) (Or.inl ⟨by rfl, fun w _ => (by go_simp)⟩) (by assumption) ?_; (try simp only [Act.put, List.setIfInBounds_toArray, List.set_cons_zero, List.set_cons_succ, Array.toArray_toList, List.getElem_toArray, List.getElem_cons_succ, List.getElem_cons_zero]))
    (refine wpAnyH_take (i := 1) (v := .int .i64 key1) rfl (by kernel_rfl) (by kernel_rfl) (by kernel_rfl) (fun _ _ _ h => h) (Or.inl ⟨by rfl, fun w' h => (by have hc := (HU1.out.below h HU1.out.lt).cells.1; clear h; go_simp)⟩) (by assumption) ?_; (try simp only [Act.put, List.setIfInBounds_toArray, List.set_cons_zero, List.set_cons_succ, Array.toArray_toList, List.getElem_toArray, List.getElem_cons_succ, List.getElem_cons_zero]))
    (refine wpAnyH_take (i := 4) (v := .pointer (some ⟨w.heap.size + 1, 0, none⟩)) rfl (by kernel_rfl) (by kernel_rfl) (by kernel_rfl) (fun _ _ _ h => h) (Or.inl ⟨by rfl, fun w _ => (by go_simp)⟩) (by assumption) ?_; (try simp only [Act.put, List.setIfInBounds_toArray, List.set_cons_zero, List.set_cons_succ, Array.toArray_toList, List.getElem_toArray, List.getElem_cons_succ, List.getElem_cons_zero]))
    (refine wpAnyH_take (i := 5) (v := .int .i64 key2) rfl (by kernel_rfl) (by kernel_rfl) (by kernel_rfl) (fun _ _ _ h => h) (Or.inl ⟨by rfl, fun w' h => (by have hc := (HU2.out.below h HU2.out.lt).cells.1; clear h; go_simp)⟩) (by assumption) ?_; (try simp only [Act.put, List.setIfInBounds_toArray, List.set_cons_zero, List.set_cons_succ, Array.toArray_toList, List.getElem_toArray, List.getElem_cons_succ, List.getElem_cons_zero]))
    refine wpAnyH_ready (rs := [2]) (by kernel_rfl) (by simp) ?_
    refine AllReadyH.cons rfl (fun K hK => ?_) (AllReadyH.nil)
    · rw [if_pos (by rfl)]
      go_simp
      (go_at_call 17; refine (HM1.out _).mono ?_; rintro e x2 ⟨rfl, hb_x2⟩)
      go_wp2_with fail
      refine hK.out _ _ (hHeld.trans (hb_x2.mono hHeld.size)) (fun hHeld => ?_)
      clear hK K
      (try simp only [Act.put, List.setIfInBounds_toArray, List.set_cons_zero, List.set_cons_succ, Array.toArray_toList, List.getElem_toArray, List.getElem_cons_succ, List.getElem_cons_zero])
      (refine wpAnyH_take (i := 3) (v := .int .i64 (1 + j)) rfl (by kernel_rfl) (by kernel_rfl) (by kernel_rfl) (fun _ _ _ h => h) (Or.inl ⟨by rfl, fun w _ => (by go_simp)⟩) (by assumption) ?_; (try simp only [Act.put, List.setIfInBounds_toArray, List.set_cons_zero, List.set_cons_succ, Array.toArray_toList, List.getElem_toArray, List.getElem_cons_succ, List.getElem_cons_zero]))
      refine wpAnyH_ready (rs := [6]) (by kernel_rfl) (by simp) ?_
      refine AllReadyH.cons rfl (fun K hK => ?_) (AllReadyH.nil)
      · rw [if_pos (by rfl)]
        go_simp
        (go_at_call 17; refine (HM2.out _).mono ?_; rintro e x6 ⟨rfl, hb_x6⟩)
        go_wp2_with fail
        refine hK.out _ _ (hHeld.trans (hb_x6.mono hHeld.size)) (fun hHeld => ?_)
        clear hK K
        (try simp only [Act.put, List.setIfInBounds_toArray, List.set_cons_zero, List.set_cons_succ, Array.toArray_toList, List.getElem_toArray, List.getElem_cons_succ, List.getElem_cons_zero])
        (refine wpAnyH_take (i := 7) (v := .int .i64 (1 + k)) rfl (by kernel_rfl) (by kernel_rfl) (by kernel_rfl) (fun _ _ _ h => h) (Or.inl ⟨by rfl, fun w _ => (by go_simp)⟩) (by assumption) ?_; (try simp only [Act.put, List.setIfInBounds_toArray, List.set_cons_zero, List.set_cons_succ, Array.toArray_toList, List.getElem_toArray, List.getElem_cons_succ, List.getElem_cons_zero]))
        (refine wpAnyH_take (i := 8) (v := .int .i64 (1 + j)) rfl (by kernel_rfl) (by kernel_rfl) (by kernel_rfl) (fun _ _ _ h => h) (Or.inl ⟨by rfl, fun w _ => (by go_simp)⟩) (by assumption) ?_; (try simp only [Act.put, List.setIfInBounds_toArray, List.set_cons_zero, List.set_cons_succ, Array.toArray_toList, List.getElem_toArray, List.getElem_cons_succ, List.getElem_cons_zero]))
        (refine wpAnyH_take (i := 9) (v := .int .i64 (1 + k)) rfl (by kernel_rfl) (by kernel_rfl) (by kernel_rfl) (fun _ _ _ h => h) (Or.inl ⟨by rfl, fun w _ => (by go_simp)⟩) (by assumption) ?_; (try simp only [Act.put, List.setIfInBounds_toArray, List.set_cons_zero, List.set_cons_succ, Array.toArray_toList, List.getElem_toArray, List.getElem_cons_succ, List.getElem_cons_zero]))
        refine wpAnyH_done (by kernel_rfl) ?_ _
        go_wp2_with fail
        go_meet
        exact ⟨rfl, rfl, hHeld⟩
  case rest =>
    obtain ⟨rfl, rfl, hb⟩ := hcut
    obtain ⟨w3, ew⟩ : ∃ W, W = wc := ⟨_, rfl⟩
    rw [← ew] at hb ⊢
    clear ew
    replace hB := hide (hB.out.trans (hb.mono hB.out.size))
    replace HU1 := hide (HU1.out.below hb HU1.out.lt)
    replace HU2 := hide (HU2.out.below hb HU2.out.lt)
    have hl1' := HU1.out.lt
    have hl2' := HU2.out.lt
    have hsz3 := hB.out.size
    clear hb HM1 HM2
    by_cases hjk : j = k
    · have t1 : (1 + j == 1 + k) = true := by simp [hjk]
      have t2 : 1 + j = 1 + k := by omega
      go_wp2_with fail
      refine (awake12_c _).mono ?_
      rintro e wz ⟨rfl, hbz⟩
      have hBf := hB.out.trans (hbz.mono hB.out.size)
      clear hbz
      go_wp2
      go_ret
      exact ⟨rfl, hBf⟩
    have t1 : (1 + j == 1 + k) = false := by simp; omega
    have t2 : ¬ (1 + j = 1 + k) := by omega
    by_cases hx : 10 < 1 + j ∧ 10 < 1 + k
    · obtain ⟨t3, t4⟩ := hx
      go_wp2_with fail
      refine (awake12_c _).mono ?_
      rintro e wz ⟨rfl, hbz⟩
      have hBf := hB.out.trans (hbz.mono hB.out.size)
      clear hbz
      go_wp2
      go_ret
      exact ⟨rfl, hBf⟩
    have HS1 := fun w => set_c Gen Gen_w V1 hV1 (1 + j) w
    have HS2 := fun w => set_c Gen Gen_w V2 hV2 (1 + k) w
    obtain ⟨E1, e1⟩ : ∃ E, setE Gen (1 + j) V1 = E := ⟨_, rfl⟩
    obtain ⟨E2, e2⟩ : ∃ E, setE Gen (1 + k) V2 = E := ⟨_, rfl⟩
    obtain ⟨R1, r1⟩ : ∃ R, setR Gen (1 + j) V1 = R := ⟨_, rfl⟩
    obtain ⟨R2, r2⟩ : ∃ R, setR Gen (1 + k) V2 = R := ⟨_, rfl⟩
    have FA := hide (commute_facts j0 j1 k0 k1 hjk hx hV1 hV2 e1 e2 r1 r2)
    rw [e1, r1] at HS1
    rw [e2, r2] at HS2
    replace HS1 := hide HS1
    replace HS2 := hide HS2
    clear e1 e2 r1 r2
    go_upto_region 2 with fail
    go_cut [33] (fun s33 wx => s33 = .bool false ∧ w3 = wx)
    case first =>
      by_cases h10 : 10 < 1 + j
      · have h10' : ¬ (10 < 1 + k) := fun h => hx ⟨h10, h⟩
        have h10'' : 1 + k ≤ 10 := by omega
        go_wp2_with fail
        go_meet
        exact ⟨rfl, rfl⟩
      · have h10' : 1 + j ≤ 10 := by omega
        go_wp2_with fail
        go_meet
        exact ⟨rfl, rfl⟩
    case rest =>
      obtain ⟨rfl, ew⟩ := hcut
      subst ew
      clear hx hjk
      go_upto_region 4 with fail
      go_cut [7, 8] (fun s8 s9 wx => ∃ g : Nat, s8 = .pointer (some ⟨g, 0, none⟩) ∧ s9 = .int .i64 E1 ∧ Below w3.heap.size w3 wx ∧ RBlk wx g (pC R1) 26)
      case first =>
        refine wp_region_held_drew (S := fun w' => Below w3.heap.size w3 w') (by kernel_rfl) ((Below.refl _ _).drew) (fun hHeld => ?_)
        (refine wpAnyH_take (i := 1) (v := .int .i64 (1 + j)) rfl (by kernel_rfl) (by kernel_rfl) (by kernel_rfl) (fun _ _ _ h => h) (Or.inl ⟨by rfl, fun w _ => (by go_simp)⟩) (by assumption) ?_; (try simp only [Act.put, List.setIfInBounds_toArray, List.set_cons_zero, List.set_cons_succ, Array.toArray_toList, List.getElem_toArray, List.getElem_cons_succ, List.getElem_cons_zero]))
        (refine wpAnyH_take (i := 2) (v := _) rfl (by kernel_rfl) (by kernel_rfl) (by kernel_rfl) (fun _ _ _ h => h) (yieldsIf_load_mid (by rfl) 37 (.tmp 2) rfl (w.heap.size) 0 rfl (#[.int .i64 key1, .int .u64 (N1 0), .int .u64 (N1 1), .int .u64 (N1 2), .int .u64 (N1 3), .int .u64 few1, .int .u8 how1]).toList _ (fun w h => ((HU1.out.row).below h (HU1.out.row).lt).range) Try.underlying37 rfl (by rw [Array.length_toList]; exact size37')) (by assumption) ?_; (try simp only [Act.put, List.setIfInBounds_toArray, List.set_cons_zero, List.set_cons_succ, Array.toArray_toList, List.getElem_toArray, List.getElem_cons_succ, List.getElem_cons_zero]))
        refine wpAnyH_ready (rs := [0, 8]) (by kernel_rfl) (by simp) ?_
        refine AllReadyH.cons rfl (fun K hK => ?_) (AllReadyH.cons rfl (fun K hK => ?_) (AllReadyH.nil))
        · rw [if_pos (by rfl)]
          go_simp
          (go_at_call 14; refine (genesis_c _).mono ?_; rintro e y0 ⟨rfl, hb_y0⟩)
          go_wp2_with fail
          refine hK.out _ _ (hHeld.trans (hb_y0.mono hHeld.size)) (fun hHeld => ?_)
          clear hK K
          (try simp only [Act.put, List.setIfInBounds_toArray, List.set_cons_zero, List.set_cons_succ, Array.toArray_toList, List.getElem_toArray, List.getElem_cons_succ, List.getElem_cons_zero])
          refine wpAnyH_ready (rs := [3, 8]) (by kernel_rfl) (by simp) ?_
          refine AllReadyH.cons rfl (fun K hK => ?_) (AllReadyH.cons rfl (fun K hK => ?_) (AllReadyH.nil))
          · rw [if_pos (by rfl)]
            go_simp
            (go_at_call 19; refine (HVal1.out _).mono ?_; rintro e y3 ⟨rfl, hb_y3⟩)
            go_wp2_with fail
            refine hK.out _ _ (hHeld.trans (hb_y3.mono hHeld.size)) (fun hHeld => ?_)
            clear hK K
            (try simp only [Act.put, List.setIfInBounds_toArray, List.set_cons_zero, List.set_cons_succ, Array.toArray_toList, List.getElem_toArray, List.getElem_cons_succ, List.getElem_cons_zero])
            refine wpAnyH_ready (rs := [4, 8]) (by kernel_rfl) (by simp) ?_
            refine AllReadyH.cons rfl (fun K hK => ?_) (AllReadyH.cons rfl (fun K hK => ?_) (AllReadyH.nil))
            · rw [if_pos (by rfl)]
              go_simp
              (go_at_call 18; refine (HS1.out _).mono ?_; rintro e y4 ⟨rfl, hb_y4⟩)
              go_wp2_with fail
              refine hK.out _ _ (hHeld.trans (hb_y4.mono hHeld.size)) (fun hHeld => ?_)
              clear hK K
              (try simp only [Act.put, List.setIfInBounds_toArray, List.set_cons_zero, List.set_cons_succ, Array.toArray_toList, List.getElem_toArray, List.getElem_cons_succ, List.getElem_cons_zero])
              (refine wpAnyH_take (i := 5) (v := .tuple #[.agg (pC R1), .int .i64 E1]) rfl (by kernel_rfl) (by kernel_rfl) (by kernel_rfl) (fun _ _ _ h => h) (Or.inl ⟨by rfl, fun w _ => (by go_simp)⟩) (by assumption) ?_; (try simp only [Act.put, List.setIfInBounds_toArray, List.set_cons_zero, List.set_cons_succ, Array.toArray_toList, List.getElem_toArray, List.getElem_cons_succ, List.getElem_cons_zero]))
              (refine wpAnyH_take (i := 6) (v := .agg (pC R1)) rfl (by kernel_rfl) (by kernel_rfl) (by kernel_rfl) (fun _ _ _ h => h) (Or.inl ⟨by rfl, fun w _ => (by go_simp)⟩) (by assumption) ?_; (try simp only [Act.put, List.setIfInBounds_toArray, List.set_cons_zero, List.set_cons_succ, Array.toArray_toList, List.getElem_toArray, List.getElem_cons_succ, List.getElem_cons_zero]))
              (refine wpAnyH_take (i := 7) (v := .int .i64 E1) rfl (by kernel_rfl) (by kernel_rfl) (by kernel_rfl) (fun _ _ _ h => h) (Or.inl ⟨by rfl, fun w _ => (by go_simp)⟩) (by assumption) ?_; (try simp only [Act.put, List.setIfInBounds_toArray, List.set_cons_zero, List.set_cons_succ, Array.toArray_toList, List.getElem_toArray, List.getElem_cons_succ, List.getElem_cons_zero]))
              refine wpAnyH_ready (rs := [8]) (by kernel_rfl) (by simp) ?_
              refine AllReadyH.cons rfl (fun K hK => ?_) (AllReadyH.nil)
              · rw [if_pos (by rfl)]
                go_simp
                have z4 := RBlk.new (y4) (pC fun _ => 0) 26
                have hg4 := hHeld.size
                refine hK.out _ _ (hHeld.alloc hHeld.size _) (fun hHeld => ?_)
                clear hK K
                (try simp only [Act.put, List.setIfInBounds_toArray, List.set_cons_zero, List.set_cons_succ, Array.toArray_toList, List.getElem_toArray, List.getElem_cons_succ, List.getElem_cons_zero])
                refine wpAnyH_ready (rs := [9]) (by kernel_rfl) (by simp) ?_
                refine AllReadyH.cons rfl (fun K hK => ?_) (AllReadyH.nil)
                · rw [if_pos (by rfl)]
                  refine wp_store_mid 26 _ _ rfl (y4.heap.size) 0 (pC R1) rfl rfl (z4).there sizeP (pC_one _) ?_
                  have z5 := (z4).put (ds := (pC R1)) rfl
                  refine hK.out _ _ (below_setCells hg4 _ _ _ hHeld) (fun hHeld => ?_)
                  clear hK K
                  (try simp only [Act.put, List.setIfInBounds_toArray, List.set_cons_zero, List.set_cons_succ, Array.toArray_toList, List.getElem_toArray, List.getElem_cons_succ, List.getElem_cons_zero])
                  (refine wpAnyH_take (i := 10) (v := .int .i64 E1) rfl (by kernel_rfl) (by kernel_rfl) (by kernel_rfl) (fun _ _ _ h => h) (Or.inl ⟨by rfl, fun w _ => (by go_simp)⟩) (by assumption) ?_; (try simp only [Act.put, List.setIfInBounds_toArray, List.set_cons_zero, List.set_cons_succ, Array.toArray_toList, List.getElem_toArray, List.getElem_cons_succ, List.getElem_cons_zero]))
                  refine wpAnyH_done (by kernel_rfl) ?_ _
                  go_wp2_with fail
                  go_meet
                  exact ⟨_, rfl, rfl, hHeld, z5⟩
            · rw [if_pos (by rfl)]
              go_simp
              have z3 := RBlk.new (y3) (pC fun _ => 0) 26
              have hg3 := hHeld.size
              refine hK.out _ _ (hHeld.alloc hHeld.size _) (fun hHeld => ?_)
              clear hK K
              (try simp only [Act.put, List.setIfInBounds_toArray, List.set_cons_zero, List.set_cons_succ, Array.toArray_toList, List.getElem_toArray, List.getElem_cons_succ, List.getElem_cons_zero])
              refine wpAnyH_ready (rs := [4]) (by kernel_rfl) (by simp) ?_
              refine AllReadyH.cons rfl (fun K hK => ?_) (AllReadyH.nil)
              · rw [if_pos (by rfl)]
                go_simp
                (go_at_call 18; refine (HS1.out _).mono ?_; rintro e y4 ⟨rfl, hb_y4⟩)
                go_wp2_with fail
                have z4 := (z3).below hb_y4 (z3).lt
                refine hK.out _ _ (hHeld.trans (hb_y4.mono hHeld.size)) (fun hHeld => ?_)
                clear hK K
                (try simp only [Act.put, List.setIfInBounds_toArray, List.set_cons_zero, List.set_cons_succ, Array.toArray_toList, List.getElem_toArray, List.getElem_cons_succ, List.getElem_cons_zero])
                (refine wpAnyH_take (i := 5) (v := .tuple #[.agg (pC R1), .int .i64 E1]) rfl (by kernel_rfl) (by kernel_rfl) (by kernel_rfl) (fun _ _ _ h => h) (Or.inl ⟨by rfl, fun w _ => (by go_simp)⟩) (by assumption) ?_; (try simp only [Act.put, List.setIfInBounds_toArray, List.set_cons_zero, List.set_cons_succ, Array.toArray_toList, List.getElem_toArray, List.getElem_cons_succ, List.getElem_cons_zero]))
                (refine wpAnyH_take (i := 6) (v := .agg (pC R1)) rfl (by kernel_rfl) (by kernel_rfl) (by kernel_rfl) (fun _ _ _ h => h) (Or.inl ⟨by rfl, fun w _ => (by go_simp)⟩) (by assumption) ?_; (try simp only [Act.put, List.setIfInBounds_toArray, List.set_cons_zero, List.set_cons_succ, Array.toArray_toList, List.getElem_toArray, List.getElem_cons_succ, List.getElem_cons_zero]))
                (refine wpAnyH_take (i := 7) (v := .int .i64 E1) rfl (by kernel_rfl) (by kernel_rfl) (by kernel_rfl) (fun _ _ _ h => h) (Or.inl ⟨by rfl, fun w _ => (by go_simp)⟩) (by assumption) ?_; (try simp only [Act.put, List.setIfInBounds_toArray, List.set_cons_zero, List.set_cons_succ, Array.toArray_toList, List.getElem_toArray, List.getElem_cons_succ, List.getElem_cons_zero]))
                refine wpAnyH_ready (rs := [9]) (by kernel_rfl) (by simp) ?_
                refine AllReadyH.cons rfl (fun K hK => ?_) (AllReadyH.nil)
                · rw [if_pos (by rfl)]
                  refine wp_store_mid 26 _ _ rfl (y3.heap.size) 0 (pC R1) rfl rfl (z4).there sizeP (pC_one _) ?_
                  have z5 := (z4).put (ds := (pC R1)) rfl
                  refine hK.out _ _ (below_setCells hg3 _ _ _ hHeld) (fun hHeld => ?_)
                  clear hK K
                  (try simp only [Act.put, List.setIfInBounds_toArray, List.set_cons_zero, List.set_cons_succ, Array.toArray_toList, List.getElem_toArray, List.getElem_cons_succ, List.getElem_cons_zero])
                  (refine wpAnyH_take (i := 10) (v := .int .i64 E1) rfl (by kernel_rfl) (by kernel_rfl) (by kernel_rfl) (fun _ _ _ h => h) (Or.inl ⟨by rfl, fun w _ => (by go_simp)⟩) (by assumption) ?_; (try simp only [Act.put, List.setIfInBounds_toArray, List.set_cons_zero, List.set_cons_succ, Array.toArray_toList, List.getElem_toArray, List.getElem_cons_succ, List.getElem_cons_zero]))
                  refine wpAnyH_done (by kernel_rfl) ?_ _
                  go_wp2_with fail
                  go_meet
                  exact ⟨_, rfl, rfl, hHeld, z5⟩
          · rw [if_pos (by rfl)]
            go_simp
            have z2 := RBlk.new (y0) (pC fun _ => 0) 26
            have hg2 := hHeld.size
            refine hK.out _ _ (hHeld.alloc hHeld.size _) (fun hHeld => ?_)
            clear hK K
            (try simp only [Act.put, List.setIfInBounds_toArray, List.set_cons_zero, List.set_cons_succ, Array.toArray_toList, List.getElem_toArray, List.getElem_cons_succ, List.getElem_cons_zero])
            refine wpAnyH_ready (rs := [3]) (by kernel_rfl) (by simp) ?_
            refine AllReadyH.cons rfl (fun K hK => ?_) (AllReadyH.nil)
            · rw [if_pos (by rfl)]
              go_simp
              (go_at_call 19; refine (HVal1.out _).mono ?_; rintro e y3 ⟨rfl, hb_y3⟩)
              go_wp2_with fail
              have z3 := (z2).below hb_y3 (z2).lt
              refine hK.out _ _ (hHeld.trans (hb_y3.mono hHeld.size)) (fun hHeld => ?_)
              clear hK K
              (try simp only [Act.put, List.setIfInBounds_toArray, List.set_cons_zero, List.set_cons_succ, Array.toArray_toList, List.getElem_toArray, List.getElem_cons_succ, List.getElem_cons_zero])
              refine wpAnyH_ready (rs := [4]) (by kernel_rfl) (by simp) ?_
              refine AllReadyH.cons rfl (fun K hK => ?_) (AllReadyH.nil)
              · rw [if_pos (by rfl)]
                go_simp
                (go_at_call 18; refine (HS1.out _).mono ?_; rintro e y4 ⟨rfl, hb_y4⟩)
                go_wp2_with fail
                have z4 := (z3).below hb_y4 (z3).lt
                refine hK.out _ _ (hHeld.trans (hb_y4.mono hHeld.size)) (fun hHeld => ?_)
                clear hK K
                (try simp only [Act.put, List.setIfInBounds_toArray, List.set_cons_zero, List.set_cons_succ, Array.toArray_toList, List.getElem_toArray, List.getElem_cons_succ, List.getElem_cons_zero])
                (refine wpAnyH_take (i := 5) (v := .tuple #[.agg (pC R1), .int .i64 E1]) rfl (by kernel_rfl) (by kernel_rfl) (by kernel_rfl) (fun _ _ _ h => h) (Or.inl ⟨by rfl, fun w _ => (by go_simp)⟩) (by assumption) ?_; (try simp only [Act.put, List.setIfInBounds_toArray, List.set_cons_zero, List.set_cons_succ, Array.toArray_toList, List.getElem_toArray, List.getElem_cons_succ, List.getElem_cons_zero]))
                (refine wpAnyH_take (i := 6) (v := .agg (pC R1)) rfl (by kernel_rfl) (by kernel_rfl) (by kernel_rfl) (fun _ _ _ h => h) (Or.inl ⟨by rfl, fun w _ => (by go_simp)⟩) (by assumption) ?_; (try simp only [Act.put, List.setIfInBounds_toArray, List.set_cons_zero, List.set_cons_succ, Array.toArray_toList, List.getElem_toArray, List.getElem_cons_succ, List.getElem_cons_zero]))
                (refine wpAnyH_take (i := 7) (v := .int .i64 E1) rfl (by kernel_rfl) (by kernel_rfl) (by kernel_rfl) (fun _ _ _ h => h) (Or.inl ⟨by rfl, fun w _ => (by go_simp)⟩) (by assumption) ?_; (try simp only [Act.put, List.setIfInBounds_toArray, List.set_cons_zero, List.set_cons_succ, Array.toArray_toList, List.getElem_toArray, List.getElem_cons_succ, List.getElem_cons_zero]))
                refine wpAnyH_ready (rs := [9]) (by kernel_rfl) (by simp) ?_
                refine AllReadyH.cons rfl (fun K hK => ?_) (AllReadyH.nil)
                · rw [if_pos (by rfl)]
                  refine wp_store_mid 26 _ _ rfl (y0.heap.size) 0 (pC R1) rfl rfl (z4).there sizeP (pC_one _) ?_
                  have z5 := (z4).put (ds := (pC R1)) rfl
                  refine hK.out _ _ (below_setCells hg2 _ _ _ hHeld) (fun hHeld => ?_)
                  clear hK K
                  (try simp only [Act.put, List.setIfInBounds_toArray, List.set_cons_zero, List.set_cons_succ, Array.toArray_toList, List.getElem_toArray, List.getElem_cons_succ, List.getElem_cons_zero])
                  (refine wpAnyH_take (i := 10) (v := .int .i64 E1) rfl (by kernel_rfl) (by kernel_rfl) (by kernel_rfl) (fun _ _ _ h => h) (Or.inl ⟨by rfl, fun w _ => (by go_simp)⟩) (by assumption) ?_; (try simp only [Act.put, List.setIfInBounds_toArray, List.set_cons_zero, List.set_cons_succ, Array.toArray_toList, List.getElem_toArray, List.getElem_cons_succ, List.getElem_cons_zero]))
                  refine wpAnyH_done (by kernel_rfl) ?_ _
                  go_wp2_with fail
                  go_meet
                  exact ⟨_, rfl, rfl, hHeld, z5⟩
        · rw [if_pos (by rfl)]
          go_simp
          have z1 := RBlk.new (w3.drew) (pC fun _ => 0) 26
          have hg1 := hHeld.size
          refine hK.out _ _ (hHeld.alloc hHeld.size _) (fun hHeld => ?_)
          clear hK K
          (try simp only [Act.put, List.setIfInBounds_toArray, List.set_cons_zero, List.set_cons_succ, Array.toArray_toList, List.getElem_toArray, List.getElem_cons_succ, List.getElem_cons_zero])
          refine wpAnyH_ready (rs := [0]) (by kernel_rfl) (by simp) ?_
          refine AllReadyH.cons rfl (fun K hK => ?_) (AllReadyH.nil)
          · rw [if_pos (by rfl)]
            go_simp
            (go_at_call 14; refine (genesis_c _).mono ?_; rintro e y0 ⟨rfl, hb_y0⟩)
            go_wp2_with fail
            have z2 := (z1).below hb_y0 (z1).lt
            refine hK.out _ _ (hHeld.trans (hb_y0.mono hHeld.size)) (fun hHeld => ?_)
            clear hK K
            (try simp only [Act.put, List.setIfInBounds_toArray, List.set_cons_zero, List.set_cons_succ, Array.toArray_toList, List.getElem_toArray, List.getElem_cons_succ, List.getElem_cons_zero])
            refine wpAnyH_ready (rs := [3]) (by kernel_rfl) (by simp) ?_
            refine AllReadyH.cons rfl (fun K hK => ?_) (AllReadyH.nil)
            · rw [if_pos (by rfl)]
              go_simp
              (go_at_call 19; refine (HVal1.out _).mono ?_; rintro e y3 ⟨rfl, hb_y3⟩)
              go_wp2_with fail
              have z3 := (z2).below hb_y3 (z2).lt
              refine hK.out _ _ (hHeld.trans (hb_y3.mono hHeld.size)) (fun hHeld => ?_)
              clear hK K
              (try simp only [Act.put, List.setIfInBounds_toArray, List.set_cons_zero, List.set_cons_succ, Array.toArray_toList, List.getElem_toArray, List.getElem_cons_succ, List.getElem_cons_zero])
              refine wpAnyH_ready (rs := [4]) (by kernel_rfl) (by simp) ?_
              refine AllReadyH.cons rfl (fun K hK => ?_) (AllReadyH.nil)
              · rw [if_pos (by rfl)]
                go_simp
                (go_at_call 18; refine (HS1.out _).mono ?_; rintro e y4 ⟨rfl, hb_y4⟩)
                go_wp2_with fail
                have z4 := (z3).below hb_y4 (z3).lt
                refine hK.out _ _ (hHeld.trans (hb_y4.mono hHeld.size)) (fun hHeld => ?_)
                clear hK K
                (try simp only [Act.put, List.setIfInBounds_toArray, List.set_cons_zero, List.set_cons_succ, Array.toArray_toList, List.getElem_toArray, List.getElem_cons_succ, List.getElem_cons_zero])
                (refine wpAnyH_take (i := 5) (v := .tuple #[.agg (pC R1), .int .i64 E1]) rfl (by kernel_rfl) (by kernel_rfl) (by kernel_rfl) (fun _ _ _ h => h) (Or.inl ⟨by rfl, fun w _ => (by go_simp)⟩) (by assumption) ?_; (try simp only [Act.put, List.setIfInBounds_toArray, List.set_cons_zero, List.set_cons_succ, Array.toArray_toList, List.getElem_toArray, List.getElem_cons_succ, List.getElem_cons_zero]))
                (refine wpAnyH_take (i := 6) (v := .agg (pC R1)) rfl (by kernel_rfl) (by kernel_rfl) (by kernel_rfl) (fun _ _ _ h => h) (Or.inl ⟨by rfl, fun w _ => (by go_simp)⟩) (by assumption) ?_; (try simp only [Act.put, List.setIfInBounds_toArray, List.set_cons_zero, List.set_cons_succ, Array.toArray_toList, List.getElem_toArray, List.getElem_cons_succ, List.getElem_cons_zero]))
                (refine wpAnyH_take (i := 7) (v := .int .i64 E1) rfl (by kernel_rfl) (by kernel_rfl) (by kernel_rfl) (fun _ _ _ h => h) (Or.inl ⟨by rfl, fun w _ => (by go_simp)⟩) (by assumption) ?_; (try simp only [Act.put, List.setIfInBounds_toArray, List.set_cons_zero, List.set_cons_succ, Array.toArray_toList, List.getElem_toArray, List.getElem_cons_succ, List.getElem_cons_zero]))
                refine wpAnyH_ready (rs := [9]) (by kernel_rfl) (by simp) ?_
                refine AllReadyH.cons rfl (fun K hK => ?_) (AllReadyH.nil)
                · rw [if_pos (by rfl)]
                  refine wp_store_mid 26 _ _ rfl (w3.drew.heap.size) 0 (pC R1) rfl rfl (z4).there sizeP (pC_one _) ?_
                  have z5 := (z4).put (ds := (pC R1)) rfl
                  refine hK.out _ _ (below_setCells hg1 _ _ _ hHeld) (fun hHeld => ?_)
                  clear hK K
                  (try simp only [Act.put, List.setIfInBounds_toArray, List.set_cons_zero, List.set_cons_succ, Array.toArray_toList, List.getElem_toArray, List.getElem_cons_succ, List.getElem_cons_zero])
                  (refine wpAnyH_take (i := 10) (v := .int .i64 E1) rfl (by kernel_rfl) (by kernel_rfl) (by kernel_rfl) (fun _ _ _ h => h) (Or.inl ⟨by rfl, fun w _ => (by go_simp)⟩) (by assumption) ?_; (try simp only [Act.put, List.setIfInBounds_toArray, List.set_cons_zero, List.set_cons_succ, Array.toArray_toList, List.getElem_toArray, List.getElem_cons_succ, List.getElem_cons_zero]))
                  refine wpAnyH_done (by kernel_rfl) ?_ _
                  go_wp2_with fail
                  go_meet
                  exact ⟨_, rfl, rfl, hHeld, z5⟩
      case rest =>
        obtain ⟨gA, rfl, rfl, hb, hz⟩ := hcut
        obtain ⟨w4, ew⟩ : ∃ W, W = wc := ⟨_, rfl⟩
        rw [← ew] at hb hz ⊢
        clear ew
        have HA := hide hz
        replace hB := hide (hB.out.trans (hb.mono hB.out.size))
        replace HU1 := hide (HU1.out.below hb HU1.out.lt)
        replace HU2 := hide (HU2.out.below hb HU2.out.lt)
        have hl_HU1_w4 := HU1.out.lt
        have hl_HU2_w4 := HU2.out.lt
        have hl_HA_w4 := HA.out.lt
        have hsz_w4 := hB.out.size
        clear hb hz
        go_upto_region 5 with fail
        go_cut [9, 10] (fun s8 s9 wx => ∃ g : Nat, s8 = .pointer (some ⟨g, 0, none⟩) ∧ s9 = .int .i64 E2 ∧ Below w4.heap.size w4 wx ∧ RBlk wx g (pC R2) 26)
        case first =>
          refine wp_region_held_drew (S := fun w' => Below w4.heap.size w4 w') (by kernel_rfl) ((Below.refl _ _).drew) (fun hHeld => ?_)
          (refine wpAnyH_take (i := 1) (v := .int .i64 (1 + k)) rfl (by kernel_rfl) (by kernel_rfl) (by kernel_rfl) (fun _ _ _ h => h) (Or.inl ⟨by rfl, fun w _ => (by go_simp)⟩) (by assumption) ?_; (try simp only [Act.put, List.setIfInBounds_toArray, List.set_cons_zero, List.set_cons_succ, Array.toArray_toList, List.getElem_toArray, List.getElem_cons_succ, List.getElem_cons_zero]))
          (refine wpAnyH_take (i := 2) (v := _) rfl (by kernel_rfl) (by kernel_rfl) (by kernel_rfl) (fun _ _ _ h => h) (yieldsIf_load_mid (by rfl) 37 (.tmp 3) rfl (w.heap.size + 1) 0 rfl (#[.int .i64 key2, .int .u64 (N2 0), .int .u64 (N2 1), .int .u64 (N2 2), .int .u64 (N2 3), .int .u64 few2, .int .u8 how2]).toList _ (fun w h => ((HU2.out.row).below h (HU2.out.row).lt).range) Try.underlying37 rfl (by rw [Array.length_toList]; exact size37')) (by assumption) ?_; (try simp only [Act.put, List.setIfInBounds_toArray, List.set_cons_zero, List.set_cons_succ, Array.toArray_toList, List.getElem_toArray, List.getElem_cons_succ, List.getElem_cons_zero]))
          refine wpAnyH_ready (rs := [0, 8]) (by kernel_rfl) (by simp) ?_
          refine AllReadyH.cons rfl (fun K hK => ?_) (AllReadyH.cons rfl (fun K hK => ?_) (AllReadyH.nil))
          · rw [if_pos (by rfl)]
            go_simp
            (go_at_call 14; refine (genesis_c _).mono ?_; rintro e y0 ⟨rfl, hb_y0⟩)
            go_wp2_with fail
            refine hK.out _ _ (hHeld.trans (hb_y0.mono hHeld.size)) (fun hHeld => ?_)
            clear hK K
            (try simp only [Act.put, List.setIfInBounds_toArray, List.set_cons_zero, List.set_cons_succ, Array.toArray_toList, List.getElem_toArray, List.getElem_cons_succ, List.getElem_cons_zero])
            refine wpAnyH_ready (rs := [3, 8]) (by kernel_rfl) (by simp) ?_
            refine AllReadyH.cons rfl (fun K hK => ?_) (AllReadyH.cons rfl (fun K hK => ?_) (AllReadyH.nil))
            · rw [if_pos (by rfl)]
              go_simp
              (go_at_call 19; refine (HVal2.out _).mono ?_; rintro e y3 ⟨rfl, hb_y3⟩)
              go_wp2_with fail
              refine hK.out _ _ (hHeld.trans (hb_y3.mono hHeld.size)) (fun hHeld => ?_)
              clear hK K
              (try simp only [Act.put, List.setIfInBounds_toArray, List.set_cons_zero, List.set_cons_succ, Array.toArray_toList, List.getElem_toArray, List.getElem_cons_succ, List.getElem_cons_zero])
              refine wpAnyH_ready (rs := [4, 8]) (by kernel_rfl) (by simp) ?_
              refine AllReadyH.cons rfl (fun K hK => ?_) (AllReadyH.cons rfl (fun K hK => ?_) (AllReadyH.nil))
              · rw [if_pos (by rfl)]
                go_simp
                (go_at_call 18; refine (HS2.out _).mono ?_; rintro e y4 ⟨rfl, hb_y4⟩)
                go_wp2_with fail
                refine hK.out _ _ (hHeld.trans (hb_y4.mono hHeld.size)) (fun hHeld => ?_)
                clear hK K
                (try simp only [Act.put, List.setIfInBounds_toArray, List.set_cons_zero, List.set_cons_succ, Array.toArray_toList, List.getElem_toArray, List.getElem_cons_succ, List.getElem_cons_zero])
                (refine wpAnyH_take (i := 5) (v := .tuple #[.agg (pC R2), .int .i64 E2]) rfl (by kernel_rfl) (by kernel_rfl) (by kernel_rfl) (fun _ _ _ h => h) (Or.inl ⟨by rfl, fun w _ => (by go_simp)⟩) (by assumption) ?_; (try simp only [Act.put, List.setIfInBounds_toArray, List.set_cons_zero, List.set_cons_succ, Array.toArray_toList, List.getElem_toArray, List.getElem_cons_succ, List.getElem_cons_zero]))
                (refine wpAnyH_take (i := 6) (v := .agg (pC R2)) rfl (by kernel_rfl) (by kernel_rfl) (by kernel_rfl) (fun _ _ _ h => h) (Or.inl ⟨by rfl, fun w _ => (by go_simp)⟩) (by assumption) ?_; (try simp only [Act.put, List.setIfInBounds_toArray, List.set_cons_zero, List.set_cons_succ, Array.toArray_toList, List.getElem_toArray, List.getElem_cons_succ, List.getElem_cons_zero]))
                (refine wpAnyH_take (i := 7) (v := .int .i64 E2) rfl (by kernel_rfl) (by kernel_rfl) (by kernel_rfl) (fun _ _ _ h => h) (Or.inl ⟨by rfl, fun w _ => (by go_simp)⟩) (by assumption) ?_; (try simp only [Act.put, List.setIfInBounds_toArray, List.set_cons_zero, List.set_cons_succ, Array.toArray_toList, List.getElem_toArray, List.getElem_cons_succ, List.getElem_cons_zero]))
                refine wpAnyH_ready (rs := [8]) (by kernel_rfl) (by simp) ?_
                refine AllReadyH.cons rfl (fun K hK => ?_) (AllReadyH.nil)
                · rw [if_pos (by rfl)]
                  go_simp
                  have z4 := RBlk.new (y4) (pC fun _ => 0) 26
                  have hg4 := hHeld.size
                  refine hK.out _ _ (hHeld.alloc hHeld.size _) (fun hHeld => ?_)
                  clear hK K
                  (try simp only [Act.put, List.setIfInBounds_toArray, List.set_cons_zero, List.set_cons_succ, Array.toArray_toList, List.getElem_toArray, List.getElem_cons_succ, List.getElem_cons_zero])
                  refine wpAnyH_ready (rs := [9]) (by kernel_rfl) (by simp) ?_
                  refine AllReadyH.cons rfl (fun K hK => ?_) (AllReadyH.nil)
                  · rw [if_pos (by rfl)]
                    refine wp_store_mid 26 _ _ rfl (y4.heap.size) 0 (pC R2) rfl rfl (z4).there sizeP (pC_one _) ?_
                    have z5 := (z4).put (ds := (pC R2)) rfl
                    refine hK.out _ _ (below_setCells hg4 _ _ _ hHeld) (fun hHeld => ?_)
                    clear hK K
                    (try simp only [Act.put, List.setIfInBounds_toArray, List.set_cons_zero, List.set_cons_succ, Array.toArray_toList, List.getElem_toArray, List.getElem_cons_succ, List.getElem_cons_zero])
                    (refine wpAnyH_take (i := 10) (v := .int .i64 E2) rfl (by kernel_rfl) (by kernel_rfl) (by kernel_rfl) (fun _ _ _ h => h) (Or.inl ⟨by rfl, fun w _ => (by go_simp)⟩) (by assumption) ?_; (try simp only [Act.put, List.setIfInBounds_toArray, List.set_cons_zero, List.set_cons_succ, Array.toArray_toList, List.getElem_toArray, List.getElem_cons_succ, List.getElem_cons_zero]))
                    refine wpAnyH_done (by kernel_rfl) ?_ _
                    go_wp2_with fail
                    go_meet
                    exact ⟨_, rfl, rfl, hHeld, z5⟩
              · rw [if_pos (by rfl)]
                go_simp
                have z3 := RBlk.new (y3) (pC fun _ => 0) 26
                have hg3 := hHeld.size
                refine hK.out _ _ (hHeld.alloc hHeld.size _) (fun hHeld => ?_)
                clear hK K
                (try simp only [Act.put, List.setIfInBounds_toArray, List.set_cons_zero, List.set_cons_succ, Array.toArray_toList, List.getElem_toArray, List.getElem_cons_succ, List.getElem_cons_zero])
                refine wpAnyH_ready (rs := [4]) (by kernel_rfl) (by simp) ?_
                refine AllReadyH.cons rfl (fun K hK => ?_) (AllReadyH.nil)
                · rw [if_pos (by rfl)]
                  go_simp
                  (go_at_call 18; refine (HS2.out _).mono ?_; rintro e y4 ⟨rfl, hb_y4⟩)
                  go_wp2_with fail
                  have z4 := (z3).below hb_y4 (z3).lt
                  refine hK.out _ _ (hHeld.trans (hb_y4.mono hHeld.size)) (fun hHeld => ?_)
                  clear hK K
                  (try simp only [Act.put, List.setIfInBounds_toArray, List.set_cons_zero, List.set_cons_succ, Array.toArray_toList, List.getElem_toArray, List.getElem_cons_succ, List.getElem_cons_zero])
                  (refine wpAnyH_take (i := 5) (v := .tuple #[.agg (pC R2), .int .i64 E2]) rfl (by kernel_rfl) (by kernel_rfl) (by kernel_rfl) (fun _ _ _ h => h) (Or.inl ⟨by rfl, fun w _ => (by go_simp)⟩) (by assumption) ?_; (try simp only [Act.put, List.setIfInBounds_toArray, List.set_cons_zero, List.set_cons_succ, Array.toArray_toList, List.getElem_toArray, List.getElem_cons_succ, List.getElem_cons_zero]))
                  (refine wpAnyH_take (i := 6) (v := .agg (pC R2)) rfl (by kernel_rfl) (by kernel_rfl) (by kernel_rfl) (fun _ _ _ h => h) (Or.inl ⟨by rfl, fun w _ => (by go_simp)⟩) (by assumption) ?_; (try simp only [Act.put, List.setIfInBounds_toArray, List.set_cons_zero, List.set_cons_succ, Array.toArray_toList, List.getElem_toArray, List.getElem_cons_succ, List.getElem_cons_zero]))
                  (refine wpAnyH_take (i := 7) (v := .int .i64 E2) rfl (by kernel_rfl) (by kernel_rfl) (by kernel_rfl) (fun _ _ _ h => h) (Or.inl ⟨by rfl, fun w _ => (by go_simp)⟩) (by assumption) ?_; (try simp only [Act.put, List.setIfInBounds_toArray, List.set_cons_zero, List.set_cons_succ, Array.toArray_toList, List.getElem_toArray, List.getElem_cons_succ, List.getElem_cons_zero]))
                  refine wpAnyH_ready (rs := [9]) (by kernel_rfl) (by simp) ?_
                  refine AllReadyH.cons rfl (fun K hK => ?_) (AllReadyH.nil)
                  · rw [if_pos (by rfl)]
                    refine wp_store_mid 26 _ _ rfl (y3.heap.size) 0 (pC R2) rfl rfl (z4).there sizeP (pC_one _) ?_
                    have z5 := (z4).put (ds := (pC R2)) rfl
                    refine hK.out _ _ (below_setCells hg3 _ _ _ hHeld) (fun hHeld => ?_)
                    clear hK K
                    (try simp only [Act.put, List.setIfInBounds_toArray, List.set_cons_zero, List.set_cons_succ, Array.toArray_toList, List.getElem_toArray, List.getElem_cons_succ, List.getElem_cons_zero])
                    (refine wpAnyH_take (i := 10) (v := .int .i64 E2) rfl (by kernel_rfl) (by kernel_rfl) (by kernel_rfl) (fun _ _ _ h => h) (Or.inl ⟨by rfl, fun w _ => (by go_simp)⟩) (by assumption) ?_; (try simp only [Act.put, List.setIfInBounds_toArray, List.set_cons_zero, List.set_cons_succ, Array.toArray_toList, List.getElem_toArray, List.getElem_cons_succ, List.getElem_cons_zero]))
                    refine wpAnyH_done (by kernel_rfl) ?_ _
                    go_wp2_with fail
                    go_meet
                    exact ⟨_, rfl, rfl, hHeld, z5⟩
            · rw [if_pos (by rfl)]
              go_simp
              have z2 := RBlk.new (y0) (pC fun _ => 0) 26
              have hg2 := hHeld.size
              refine hK.out _ _ (hHeld.alloc hHeld.size _) (fun hHeld => ?_)
              clear hK K
              (try simp only [Act.put, List.setIfInBounds_toArray, List.set_cons_zero, List.set_cons_succ, Array.toArray_toList, List.getElem_toArray, List.getElem_cons_succ, List.getElem_cons_zero])
              refine wpAnyH_ready (rs := [3]) (by kernel_rfl) (by simp) ?_
              refine AllReadyH.cons rfl (fun K hK => ?_) (AllReadyH.nil)
              · rw [if_pos (by rfl)]
                go_simp
                (go_at_call 19; refine (HVal2.out _).mono ?_; rintro e y3 ⟨rfl, hb_y3⟩)
                go_wp2_with fail
                have z3 := (z2).below hb_y3 (z2).lt
                refine hK.out _ _ (hHeld.trans (hb_y3.mono hHeld.size)) (fun hHeld => ?_)
                clear hK K
                (try simp only [Act.put, List.setIfInBounds_toArray, List.set_cons_zero, List.set_cons_succ, Array.toArray_toList, List.getElem_toArray, List.getElem_cons_succ, List.getElem_cons_zero])
                refine wpAnyH_ready (rs := [4]) (by kernel_rfl) (by simp) ?_
                refine AllReadyH.cons rfl (fun K hK => ?_) (AllReadyH.nil)
                · rw [if_pos (by rfl)]
                  go_simp
                  (go_at_call 18; refine (HS2.out _).mono ?_; rintro e y4 ⟨rfl, hb_y4⟩)
                  go_wp2_with fail
                  have z4 := (z3).below hb_y4 (z3).lt
                  refine hK.out _ _ (hHeld.trans (hb_y4.mono hHeld.size)) (fun hHeld => ?_)
                  clear hK K
                  (try simp only [Act.put, List.setIfInBounds_toArray, List.set_cons_zero, List.set_cons_succ, Array.toArray_toList, List.getElem_toArray, List.getElem_cons_succ, List.getElem_cons_zero])
                  (refine wpAnyH_take (i := 5) (v := .tuple #[.agg (pC R2), .int .i64 E2]) rfl (by kernel_rfl) (by kernel_rfl) (by kernel_rfl) (fun _ _ _ h => h) (Or.inl ⟨by rfl, fun w _ => (by go_simp)⟩) (by assumption) ?_; (try simp only [Act.put, List.setIfInBounds_toArray, List.set_cons_zero, List.set_cons_succ, Array.toArray_toList, List.getElem_toArray, List.getElem_cons_succ, List.getElem_cons_zero]))
                  (refine wpAnyH_take (i := 6) (v := .agg (pC R2)) rfl (by kernel_rfl) (by kernel_rfl) (by kernel_rfl) (fun _ _ _ h => h) (Or.inl ⟨by rfl, fun w _ => (by go_simp)⟩) (by assumption) ?_; (try simp only [Act.put, List.setIfInBounds_toArray, List.set_cons_zero, List.set_cons_succ, Array.toArray_toList, List.getElem_toArray, List.getElem_cons_succ, List.getElem_cons_zero]))
                  (refine wpAnyH_take (i := 7) (v := .int .i64 E2) rfl (by kernel_rfl) (by kernel_rfl) (by kernel_rfl) (fun _ _ _ h => h) (Or.inl ⟨by rfl, fun w _ => (by go_simp)⟩) (by assumption) ?_; (try simp only [Act.put, List.setIfInBounds_toArray, List.set_cons_zero, List.set_cons_succ, Array.toArray_toList, List.getElem_toArray, List.getElem_cons_succ, List.getElem_cons_zero]))
                  refine wpAnyH_ready (rs := [9]) (by kernel_rfl) (by simp) ?_
                  refine AllReadyH.cons rfl (fun K hK => ?_) (AllReadyH.nil)
                  · rw [if_pos (by rfl)]
                    refine wp_store_mid 26 _ _ rfl (y0.heap.size) 0 (pC R2) rfl rfl (z4).there sizeP (pC_one _) ?_
                    have z5 := (z4).put (ds := (pC R2)) rfl
                    refine hK.out _ _ (below_setCells hg2 _ _ _ hHeld) (fun hHeld => ?_)
                    clear hK K
                    (try simp only [Act.put, List.setIfInBounds_toArray, List.set_cons_zero, List.set_cons_succ, Array.toArray_toList, List.getElem_toArray, List.getElem_cons_succ, List.getElem_cons_zero])
                    (refine wpAnyH_take (i := 10) (v := .int .i64 E2) rfl (by kernel_rfl) (by kernel_rfl) (by kernel_rfl) (fun _ _ _ h => h) (Or.inl ⟨by rfl, fun w _ => (by go_simp)⟩) (by assumption) ?_; (try simp only [Act.put, List.setIfInBounds_toArray, List.set_cons_zero, List.set_cons_succ, Array.toArray_toList, List.getElem_toArray, List.getElem_cons_succ, List.getElem_cons_zero]))
                    refine wpAnyH_done (by kernel_rfl) ?_ _
                    go_wp2_with fail
                    go_meet
                    exact ⟨_, rfl, rfl, hHeld, z5⟩
          · rw [if_pos (by rfl)]
            go_simp
            have z1 := RBlk.new (w4.drew) (pC fun _ => 0) 26
            have hg1 := hHeld.size
            refine hK.out _ _ (hHeld.alloc hHeld.size _) (fun hHeld => ?_)
            clear hK K
            (try simp only [Act.put, List.setIfInBounds_toArray, List.set_cons_zero, List.set_cons_succ, Array.toArray_toList, List.getElem_toArray, List.getElem_cons_succ, List.getElem_cons_zero])
            refine wpAnyH_ready (rs := [0]) (by kernel_rfl) (by simp) ?_
            refine AllReadyH.cons rfl (fun K hK => ?_) (AllReadyH.nil)
            · rw [if_pos (by rfl)]
              go_simp
              (go_at_call 14; refine (genesis_c _).mono ?_; rintro e y0 ⟨rfl, hb_y0⟩)
              go_wp2_with fail
              have z2 := (z1).below hb_y0 (z1).lt
              refine hK.out _ _ (hHeld.trans (hb_y0.mono hHeld.size)) (fun hHeld => ?_)
              clear hK K
              (try simp only [Act.put, List.setIfInBounds_toArray, List.set_cons_zero, List.set_cons_succ, Array.toArray_toList, List.getElem_toArray, List.getElem_cons_succ, List.getElem_cons_zero])
              refine wpAnyH_ready (rs := [3]) (by kernel_rfl) (by simp) ?_
              refine AllReadyH.cons rfl (fun K hK => ?_) (AllReadyH.nil)
              · rw [if_pos (by rfl)]
                go_simp
                (go_at_call 19; refine (HVal2.out _).mono ?_; rintro e y3 ⟨rfl, hb_y3⟩)
                go_wp2_with fail
                have z3 := (z2).below hb_y3 (z2).lt
                refine hK.out _ _ (hHeld.trans (hb_y3.mono hHeld.size)) (fun hHeld => ?_)
                clear hK K
                (try simp only [Act.put, List.setIfInBounds_toArray, List.set_cons_zero, List.set_cons_succ, Array.toArray_toList, List.getElem_toArray, List.getElem_cons_succ, List.getElem_cons_zero])
                refine wpAnyH_ready (rs := [4]) (by kernel_rfl) (by simp) ?_
                refine AllReadyH.cons rfl (fun K hK => ?_) (AllReadyH.nil)
                · rw [if_pos (by rfl)]
                  go_simp
                  (go_at_call 18; refine (HS2.out _).mono ?_; rintro e y4 ⟨rfl, hb_y4⟩)
                  go_wp2_with fail
                  have z4 := (z3).below hb_y4 (z3).lt
                  refine hK.out _ _ (hHeld.trans (hb_y4.mono hHeld.size)) (fun hHeld => ?_)
                  clear hK K
                  (try simp only [Act.put, List.setIfInBounds_toArray, List.set_cons_zero, List.set_cons_succ, Array.toArray_toList, List.getElem_toArray, List.getElem_cons_succ, List.getElem_cons_zero])
                  (refine wpAnyH_take (i := 5) (v := .tuple #[.agg (pC R2), .int .i64 E2]) rfl (by kernel_rfl) (by kernel_rfl) (by kernel_rfl) (fun _ _ _ h => h) (Or.inl ⟨by rfl, fun w _ => (by go_simp)⟩) (by assumption) ?_; (try simp only [Act.put, List.setIfInBounds_toArray, List.set_cons_zero, List.set_cons_succ, Array.toArray_toList, List.getElem_toArray, List.getElem_cons_succ, List.getElem_cons_zero]))
                  (refine wpAnyH_take (i := 6) (v := .agg (pC R2)) rfl (by kernel_rfl) (by kernel_rfl) (by kernel_rfl) (fun _ _ _ h => h) (Or.inl ⟨by rfl, fun w _ => (by go_simp)⟩) (by assumption) ?_; (try simp only [Act.put, List.setIfInBounds_toArray, List.set_cons_zero, List.set_cons_succ, Array.toArray_toList, List.getElem_toArray, List.getElem_cons_succ, List.getElem_cons_zero]))
                  (refine wpAnyH_take (i := 7) (v := .int .i64 E2) rfl (by kernel_rfl) (by kernel_rfl) (by kernel_rfl) (fun _ _ _ h => h) (Or.inl ⟨by rfl, fun w _ => (by go_simp)⟩) (by assumption) ?_; (try simp only [Act.put, List.setIfInBounds_toArray, List.set_cons_zero, List.set_cons_succ, Array.toArray_toList, List.getElem_toArray, List.getElem_cons_succ, List.getElem_cons_zero]))
                  refine wpAnyH_ready (rs := [9]) (by kernel_rfl) (by simp) ?_
                  refine AllReadyH.cons rfl (fun K hK => ?_) (AllReadyH.nil)
                  · rw [if_pos (by rfl)]
                    refine wp_store_mid 26 _ _ rfl (w4.drew.heap.size) 0 (pC R2) rfl rfl (z4).there sizeP (pC_one _) ?_
                    have z5 := (z4).put (ds := (pC R2)) rfl
                    refine hK.out _ _ (below_setCells hg1 _ _ _ hHeld) (fun hHeld => ?_)
                    clear hK K
                    (try simp only [Act.put, List.setIfInBounds_toArray, List.set_cons_zero, List.set_cons_succ, Array.toArray_toList, List.getElem_toArray, List.getElem_cons_succ, List.getElem_cons_zero])
                    (refine wpAnyH_take (i := 10) (v := .int .i64 E2) rfl (by kernel_rfl) (by kernel_rfl) (by kernel_rfl) (fun _ _ _ h => h) (Or.inl ⟨by rfl, fun w _ => (by go_simp)⟩) (by assumption) ?_; (try simp only [Act.put, List.setIfInBounds_toArray, List.set_cons_zero, List.set_cons_succ, Array.toArray_toList, List.getElem_toArray, List.getElem_cons_succ, List.getElem_cons_zero]))
                    refine wpAnyH_done (by kernel_rfl) ?_ _
                    go_wp2_with fail
                    go_meet
                    exact ⟨_, rfl, rfl, hHeld, z5⟩
        case rest =>
          obtain ⟨gB, rfl, rfl, hb, hz⟩ := hcut
          obtain ⟨w5, ew⟩ : ∃ W, W = wc := ⟨_, rfl⟩
          rw [← ew] at hb hz ⊢
          clear ew
          have HB := hide hz
          replace hB := hide (hB.out.trans (hb.mono hB.out.size))
          replace HU1 := hide (HU1.out.below hb HU1.out.lt)
          replace HU2 := hide (HU2.out.below hb HU2.out.lt)
          replace HA := hide (HA.out.below hb HA.out.lt)
          have hl_HU1_w5 := HU1.out.lt
          have hl_HU2_w5 := HU2.out.lt
          have hl_HA_w5 := HA.out.lt
          have hl_HB_w5 := HB.out.lt
          have hsz_w5 := hB.out.size
          clear hb hz
          by_cases hE1 : E1 = 0
          · subst hE1
            obtain ⟨R3, HS3, HF⟩ := FA.out rfl
            go_upto_region 7 with fail
            go_cut [11, 12] (fun s8 s9 wx => ∃ g : Nat, s8 = .pointer (some ⟨g, 0, none⟩) ∧ s9 = .int .i64 E2 ∧ Below w5.heap.size w5 wx ∧ RBlk wx g (pC R3) 26)
            case first =>
              refine wp_region_held_drew (S := fun w' => Below w5.heap.size w5 w') (by kernel_rfl) ((Below.refl _ _).drew) (fun hHeld => ?_)
              (refine wpAnyH_take (i := 0) (v := _) rfl (by kernel_rfl) (by kernel_rfl) (by kernel_rfl) (fun _ _ _ h => h) (yieldsIf_load_mid (by rfl) 26 (.tmp 7) rfl (gA) 0 rfl ((pC R1)).toList _ (fun w h => ((HA.out).below h (HA.out).lt).range) Try.underlying26 rfl (by rw [Array.length_toList]; exact sizeP)) (by assumption) ?_; (try simp only [Act.put, List.setIfInBounds_toArray, List.set_cons_zero, List.set_cons_succ, Array.toArray_toList, List.getElem_toArray, List.getElem_cons_succ, List.getElem_cons_zero]))
              (refine wpAnyH_take (i := 1) (v := .int .i64 (1 + k)) rfl (by kernel_rfl) (by kernel_rfl) (by kernel_rfl) (fun _ _ _ h => h) (Or.inl ⟨by rfl, fun w _ => (by go_simp)⟩) (by assumption) ?_; (try simp only [Act.put, List.setIfInBounds_toArray, List.set_cons_zero, List.set_cons_succ, Array.toArray_toList, List.getElem_toArray, List.getElem_cons_succ, List.getElem_cons_zero]))
              (refine wpAnyH_take (i := 2) (v := _) rfl (by kernel_rfl) (by kernel_rfl) (by kernel_rfl) (fun _ _ _ h => h) (yieldsIf_load_mid (by rfl) 37 (.tmp 3) rfl (w.heap.size + 1) 0 rfl (#[.int .i64 key2, .int .u64 (N2 0), .int .u64 (N2 1), .int .u64 (N2 2), .int .u64 (N2 3), .int .u64 few2, .int .u8 how2]).toList _ (fun w h => ((HU2.out.row).below h (HU2.out.row).lt).range) Try.underlying37 rfl (by rw [Array.length_toList]; exact size37')) (by assumption) ?_; (try simp only [Act.put, List.setIfInBounds_toArray, List.set_cons_zero, List.set_cons_succ, Array.toArray_toList, List.getElem_toArray, List.getElem_cons_succ, List.getElem_cons_zero]))
              refine wpAnyH_ready (rs := [3, 8]) (by kernel_rfl) (by simp) ?_
              refine AllReadyH.cons rfl (fun K hK => ?_) (AllReadyH.cons rfl (fun K hK => ?_) (AllReadyH.nil))
              · rw [if_pos (by rfl)]
                go_simp
                (go_at_call 19; refine (HVal2.out _).mono ?_; rintro e y3 ⟨rfl, hb_y3⟩)
                go_wp2_with fail
                refine hK.out _ _ (hHeld.trans (hb_y3.mono hHeld.size)) (fun hHeld => ?_)
                clear hK K
                (try simp only [Act.put, List.setIfInBounds_toArray, List.set_cons_zero, List.set_cons_succ, Array.toArray_toList, List.getElem_toArray, List.getElem_cons_succ, List.getElem_cons_zero])
                refine wpAnyH_ready (rs := [4, 8]) (by kernel_rfl) (by simp) ?_
                refine AllReadyH.cons rfl (fun K hK => ?_) (AllReadyH.cons rfl (fun K hK => ?_) (AllReadyH.nil))
                · rw [if_pos (by rfl)]
                  go_simp
                  (go_at_call 18; refine (HS3.out _).mono ?_; rintro e y4 ⟨rfl, hb_y4⟩)
                  go_wp2_with fail
                  refine hK.out _ _ (hHeld.trans (hb_y4.mono hHeld.size)) (fun hHeld => ?_)
                  clear hK K
                  (try simp only [Act.put, List.setIfInBounds_toArray, List.set_cons_zero, List.set_cons_succ, Array.toArray_toList, List.getElem_toArray, List.getElem_cons_succ, List.getElem_cons_zero])
                  (refine wpAnyH_take (i := 5) (v := .tuple #[.agg (pC R3), .int .i64 E2]) rfl (by kernel_rfl) (by kernel_rfl) (by kernel_rfl) (fun _ _ _ h => h) (Or.inl ⟨by rfl, fun w _ => (by go_simp)⟩) (by assumption) ?_; (try simp only [Act.put, List.setIfInBounds_toArray, List.set_cons_zero, List.set_cons_succ, Array.toArray_toList, List.getElem_toArray, List.getElem_cons_succ, List.getElem_cons_zero]))
                  (refine wpAnyH_take (i := 6) (v := .agg (pC R3)) rfl (by kernel_rfl) (by kernel_rfl) (by kernel_rfl) (fun _ _ _ h => h) (Or.inl ⟨by rfl, fun w _ => (by go_simp)⟩) (by assumption) ?_; (try simp only [Act.put, List.setIfInBounds_toArray, List.set_cons_zero, List.set_cons_succ, Array.toArray_toList, List.getElem_toArray, List.getElem_cons_succ, List.getElem_cons_zero]))
                  (refine wpAnyH_take (i := 7) (v := .int .i64 E2) rfl (by kernel_rfl) (by kernel_rfl) (by kernel_rfl) (fun _ _ _ h => h) (Or.inl ⟨by rfl, fun w _ => (by go_simp)⟩) (by assumption) ?_; (try simp only [Act.put, List.setIfInBounds_toArray, List.set_cons_zero, List.set_cons_succ, Array.toArray_toList, List.getElem_toArray, List.getElem_cons_succ, List.getElem_cons_zero]))
                  refine wpAnyH_ready (rs := [8]) (by kernel_rfl) (by simp) ?_
                  refine AllReadyH.cons rfl (fun K hK => ?_) (AllReadyH.nil)
                  · rw [if_pos (by rfl)]
                    go_simp
                    have z3 := RBlk.new (y4) (pC fun _ => 0) 26
                    have hg3 := hHeld.size
                    refine hK.out _ _ (hHeld.alloc hHeld.size _) (fun hHeld => ?_)
                    clear hK K
                    (try simp only [Act.put, List.setIfInBounds_toArray, List.set_cons_zero, List.set_cons_succ, Array.toArray_toList, List.getElem_toArray, List.getElem_cons_succ, List.getElem_cons_zero])
                    refine wpAnyH_ready (rs := [9]) (by kernel_rfl) (by simp) ?_
                    refine AllReadyH.cons rfl (fun K hK => ?_) (AllReadyH.nil)
                    · rw [if_pos (by rfl)]
                      refine wp_store_mid 26 _ _ rfl (y4.heap.size) 0 (pC R3) rfl rfl (z3).there sizeP (pC_one _) ?_
                      have z4 := (z3).put (ds := (pC R3)) rfl
                      refine hK.out _ _ (below_setCells hg3 _ _ _ hHeld) (fun hHeld => ?_)
                      clear hK K
                      (try simp only [Act.put, List.setIfInBounds_toArray, List.set_cons_zero, List.set_cons_succ, Array.toArray_toList, List.getElem_toArray, List.getElem_cons_succ, List.getElem_cons_zero])
                      (refine wpAnyH_take (i := 10) (v := .int .i64 E2) rfl (by kernel_rfl) (by kernel_rfl) (by kernel_rfl) (fun _ _ _ h => h) (Or.inl ⟨by rfl, fun w _ => (by go_simp)⟩) (by assumption) ?_; (try simp only [Act.put, List.setIfInBounds_toArray, List.set_cons_zero, List.set_cons_succ, Array.toArray_toList, List.getElem_toArray, List.getElem_cons_succ, List.getElem_cons_zero]))
                      refine wpAnyH_done (by kernel_rfl) ?_ _
                      go_wp2_with fail
                      go_meet
                      exact ⟨_, rfl, rfl, hHeld, z4⟩
                · rw [if_pos (by rfl)]
                  go_simp
                  have z2 := RBlk.new (y3) (pC fun _ => 0) 26
                  have hg2 := hHeld.size
                  refine hK.out _ _ (hHeld.alloc hHeld.size _) (fun hHeld => ?_)
                  clear hK K
                  (try simp only [Act.put, List.setIfInBounds_toArray, List.set_cons_zero, List.set_cons_succ, Array.toArray_toList, List.getElem_toArray, List.getElem_cons_succ, List.getElem_cons_zero])
                  refine wpAnyH_ready (rs := [4]) (by kernel_rfl) (by simp) ?_
                  refine AllReadyH.cons rfl (fun K hK => ?_) (AllReadyH.nil)
                  · rw [if_pos (by rfl)]
                    go_simp
                    (go_at_call 18; refine (HS3.out _).mono ?_; rintro e y4 ⟨rfl, hb_y4⟩)
                    go_wp2_with fail
                    have z3 := (z2).below hb_y4 (z2).lt
                    refine hK.out _ _ (hHeld.trans (hb_y4.mono hHeld.size)) (fun hHeld => ?_)
                    clear hK K
                    (try simp only [Act.put, List.setIfInBounds_toArray, List.set_cons_zero, List.set_cons_succ, Array.toArray_toList, List.getElem_toArray, List.getElem_cons_succ, List.getElem_cons_zero])
                    (refine wpAnyH_take (i := 5) (v := .tuple #[.agg (pC R3), .int .i64 E2]) rfl (by kernel_rfl) (by kernel_rfl) (by kernel_rfl) (fun _ _ _ h => h) (Or.inl ⟨by rfl, fun w _ => (by go_simp)⟩) (by assumption) ?_; (try simp only [Act.put, List.setIfInBounds_toArray, List.set_cons_zero, List.set_cons_succ, Array.toArray_toList, List.getElem_toArray, List.getElem_cons_succ, List.getElem_cons_zero]))
                    (refine wpAnyH_take (i := 6) (v := .agg (pC R3)) rfl (by kernel_rfl) (by kernel_rfl) (by kernel_rfl) (fun _ _ _ h => h) (Or.inl ⟨by rfl, fun w _ => (by go_simp)⟩) (by assumption) ?_; (try simp only [Act.put, List.setIfInBounds_toArray, List.set_cons_zero, List.set_cons_succ, Array.toArray_toList, List.getElem_toArray, List.getElem_cons_succ, List.getElem_cons_zero]))
                    (refine wpAnyH_take (i := 7) (v := .int .i64 E2) rfl (by kernel_rfl) (by kernel_rfl) (by kernel_rfl) (fun _ _ _ h => h) (Or.inl ⟨by rfl, fun w _ => (by go_simp)⟩) (by assumption) ?_; (try simp only [Act.put, List.setIfInBounds_toArray, List.set_cons_zero, List.set_cons_succ, Array.toArray_toList, List.getElem_toArray, List.getElem_cons_succ, List.getElem_cons_zero]))
                    refine wpAnyH_ready (rs := [9]) (by kernel_rfl) (by simp) ?_
                    refine AllReadyH.cons rfl (fun K hK => ?_) (AllReadyH.nil)
                    · rw [if_pos (by rfl)]
                      refine wp_store_mid 26 _ _ rfl (y3.heap.size) 0 (pC R3) rfl rfl (z3).there sizeP (pC_one _) ?_
                      have z4 := (z3).put (ds := (pC R3)) rfl
                      refine hK.out _ _ (below_setCells hg2 _ _ _ hHeld) (fun hHeld => ?_)
                      clear hK K
                      (try simp only [Act.put, List.setIfInBounds_toArray, List.set_cons_zero, List.set_cons_succ, Array.toArray_toList, List.getElem_toArray, List.getElem_cons_succ, List.getElem_cons_zero])
                      (refine wpAnyH_take (i := 10) (v := .int .i64 E2) rfl (by kernel_rfl) (by kernel_rfl) (by kernel_rfl) (fun _ _ _ h => h) (Or.inl ⟨by rfl, fun w _ => (by go_simp)⟩) (by assumption) ?_; (try simp only [Act.put, List.setIfInBounds_toArray, List.set_cons_zero, List.set_cons_succ, Array.toArray_toList, List.getElem_toArray, List.getElem_cons_succ, List.getElem_cons_zero]))
                      refine wpAnyH_done (by kernel_rfl) ?_ _
                      go_wp2_with fail
                      go_meet
                      exact ⟨_, rfl, rfl, hHeld, z4⟩
              · rw [if_pos (by rfl)]
                go_simp
                have z1 := RBlk.new (w5.drew) (pC fun _ => 0) 26
                have hg1 := hHeld.size
                refine hK.out _ _ (hHeld.alloc hHeld.size _) (fun hHeld => ?_)
                clear hK K
                (try simp only [Act.put, List.setIfInBounds_toArray, List.set_cons_zero, List.set_cons_succ, Array.toArray_toList, List.getElem_toArray, List.getElem_cons_succ, List.getElem_cons_zero])
                refine wpAnyH_ready (rs := [3]) (by kernel_rfl) (by simp) ?_
                refine AllReadyH.cons rfl (fun K hK => ?_) (AllReadyH.nil)
                · rw [if_pos (by rfl)]
                  go_simp
                  (go_at_call 19; refine (HVal2.out _).mono ?_; rintro e y3 ⟨rfl, hb_y3⟩)
                  go_wp2_with fail
                  have z2 := (z1).below hb_y3 (z1).lt
                  refine hK.out _ _ (hHeld.trans (hb_y3.mono hHeld.size)) (fun hHeld => ?_)
                  clear hK K
                  (try simp only [Act.put, List.setIfInBounds_toArray, List.set_cons_zero, List.set_cons_succ, Array.toArray_toList, List.getElem_toArray, List.getElem_cons_succ, List.getElem_cons_zero])
                  refine wpAnyH_ready (rs := [4]) (by kernel_rfl) (by simp) ?_
                  refine AllReadyH.cons rfl (fun K hK => ?_) (AllReadyH.nil)
                  · rw [if_pos (by rfl)]
                    go_simp
                    (go_at_call 18; refine (HS3.out _).mono ?_; rintro e y4 ⟨rfl, hb_y4⟩)
                    go_wp2_with fail
                    have z3 := (z2).below hb_y4 (z2).lt
                    refine hK.out _ _ (hHeld.trans (hb_y4.mono hHeld.size)) (fun hHeld => ?_)
                    clear hK K
                    (try simp only [Act.put, List.setIfInBounds_toArray, List.set_cons_zero, List.set_cons_succ, Array.toArray_toList, List.getElem_toArray, List.getElem_cons_succ, List.getElem_cons_zero])
                    (refine wpAnyH_take (i := 5) (v := .tuple #[.agg (pC R3), .int .i64 E2]) rfl (by kernel_rfl) (by kernel_rfl) (by kernel_rfl) (fun _ _ _ h => h) (Or.inl ⟨by rfl, fun w _ => (by go_simp)⟩) (by assumption) ?_; (try simp only [Act.put, List.setIfInBounds_toArray, List.set_cons_zero, List.set_cons_succ, Array.toArray_toList, List.getElem_toArray, List.getElem_cons_succ, List.getElem_cons_zero]))
                    (refine wpAnyH_take (i := 6) (v := .agg (pC R3)) rfl (by kernel_rfl) (by kernel_rfl) (by kernel_rfl) (fun _ _ _ h => h) (Or.inl ⟨by rfl, fun w _ => (by go_simp)⟩) (by assumption) ?_; (try simp only [Act.put, List.setIfInBounds_toArray, List.set_cons_zero, List.set_cons_succ, Array.toArray_toList, List.getElem_toArray, List.getElem_cons_succ, List.getElem_cons_zero]))
                    (refine wpAnyH_take (i := 7) (v := .int .i64 E2) rfl (by kernel_rfl) (by kernel_rfl) (by kernel_rfl) (fun _ _ _ h => h) (Or.inl ⟨by rfl, fun w _ => (by go_simp)⟩) (by assumption) ?_; (try simp only [Act.put, List.setIfInBounds_toArray, List.set_cons_zero, List.set_cons_succ, Array.toArray_toList, List.getElem_toArray, List.getElem_cons_succ, List.getElem_cons_zero]))
                    refine wpAnyH_ready (rs := [9]) (by kernel_rfl) (by simp) ?_
                    refine AllReadyH.cons rfl (fun K hK => ?_) (AllReadyH.nil)
                    · rw [if_pos (by rfl)]
                      refine wp_store_mid 26 _ _ rfl (w5.drew.heap.size) 0 (pC R3) rfl rfl (z3).there sizeP (pC_one _) ?_
                      have z4 := (z3).put (ds := (pC R3)) rfl
                      refine hK.out _ _ (below_setCells hg1 _ _ _ hHeld) (fun hHeld => ?_)
                      clear hK K
                      (try simp only [Act.put, List.setIfInBounds_toArray, List.set_cons_zero, List.set_cons_succ, Array.toArray_toList, List.getElem_toArray, List.getElem_cons_succ, List.getElem_cons_zero])
                      (refine wpAnyH_take (i := 10) (v := .int .i64 E2) rfl (by kernel_rfl) (by kernel_rfl) (by kernel_rfl) (fun _ _ _ h => h) (Or.inl ⟨by rfl, fun w _ => (by go_simp)⟩) (by assumption) ?_; (try simp only [Act.put, List.setIfInBounds_toArray, List.set_cons_zero, List.set_cons_succ, Array.toArray_toList, List.getElem_toArray, List.getElem_cons_succ, List.getElem_cons_zero]))
                      refine wpAnyH_done (by kernel_rfl) ?_ _
                      go_wp2_with fail
                      go_meet
                      exact ⟨_, rfl, rfl, hHeld, z4⟩
            case rest =>
              obtain ⟨gC, rfl, rfl, hb, hz⟩ := hcut
              obtain ⟨w6, ew⟩ : ∃ W, W = wc := ⟨_, rfl⟩
              rw [← ew] at hb hz ⊢
              clear ew
              have HC := hide hz
              replace hB := hide (hB.out.trans (hb.mono hB.out.size))
              replace HU1 := hide (HU1.out.below hb HU1.out.lt)
              replace HU2 := hide (HU2.out.below hb HU2.out.lt)
              replace HA := hide (HA.out.below hb HA.out.lt)
              replace HB := hide (HB.out.below hb HB.out.lt)
              have hl_HU1_w6 := HU1.out.lt
              have hl_HU2_w6 := HU2.out.lt
              have hl_HA_w6 := HA.out.lt
              have hl_HB_w6 := HB.out.lt
              have hl_HC_w6 := HC.out.lt
              have hsz_w6 := hB.out.size
              clear hb hz
              by_cases hE2 : E2 = 0
              · subst hE2
                have HS4 := HF.out rfl
                go_upto_region 11 with fail
                go_cut [13, 14] (fun s8 s9 wx => ∃ g : Nat, s8 = .pointer (some ⟨g, 0, none⟩) ∧ s9 = .int .i64 0 ∧ Below w6.heap.size w6 wx ∧ RBlk wx g (pC R3) 26)
                case first =>
                  refine wp_region_held_drew (S := fun w' => Below w6.heap.size w6 w') (by kernel_rfl) ((Below.refl _ _).drew) (fun hHeld => ?_)
                  (refine wpAnyH_take (i := 0) (v := _) rfl (by kernel_rfl) (by kernel_rfl) (by kernel_rfl) (fun _ _ _ h => h) (yieldsIf_load_mid (by rfl) 26 (.tmp 9) rfl (gB) 0 rfl ((pC R2)).toList _ (fun w h => ((HB.out).below h (HB.out).lt).range) Try.underlying26 rfl (by rw [Array.length_toList]; exact sizeP)) (by assumption) ?_; (try simp only [Act.put, List.setIfInBounds_toArray, List.set_cons_zero, List.set_cons_succ, Array.toArray_toList, List.getElem_toArray, List.getElem_cons_succ, List.getElem_cons_zero]))
                  (refine wpAnyH_take (i := 1) (v := .int .i64 (1 + j)) rfl (by kernel_rfl) (by kernel_rfl) (by kernel_rfl) (fun _ _ _ h => h) (Or.inl ⟨by rfl, fun w _ => (by go_simp)⟩) (by assumption) ?_; (try simp only [Act.put, List.setIfInBounds_toArray, List.set_cons_zero, List.set_cons_succ, Array.toArray_toList, List.getElem_toArray, List.getElem_cons_succ, List.getElem_cons_zero]))
                  (refine wpAnyH_take (i := 2) (v := _) rfl (by kernel_rfl) (by kernel_rfl) (by kernel_rfl) (fun _ _ _ h => h) (yieldsIf_load_mid (by rfl) 37 (.tmp 2) rfl (w.heap.size) 0 rfl (#[.int .i64 key1, .int .u64 (N1 0), .int .u64 (N1 1), .int .u64 (N1 2), .int .u64 (N1 3), .int .u64 few1, .int .u8 how1]).toList _ (fun w h => ((HU1.out.row).below h (HU1.out.row).lt).range) Try.underlying37 rfl (by rw [Array.length_toList]; exact size37')) (by assumption) ?_; (try simp only [Act.put, List.setIfInBounds_toArray, List.set_cons_zero, List.set_cons_succ, Array.toArray_toList, List.getElem_toArray, List.getElem_cons_succ, List.getElem_cons_zero]))
                  refine wpAnyH_ready (rs := [3, 8]) (by kernel_rfl) (by simp) ?_
                  refine AllReadyH.cons rfl (fun K hK => ?_) (AllReadyH.cons rfl (fun K hK => ?_) (AllReadyH.nil))
                  · rw [if_pos (by rfl)]
                    go_simp
                    (go_at_call 19; refine (HVal1.out _).mono ?_; rintro e y3 ⟨rfl, hb_y3⟩)
                    go_wp2_with fail
                    refine hK.out _ _ (hHeld.trans (hb_y3.mono hHeld.size)) (fun hHeld => ?_)
                    clear hK K
                    (try simp only [Act.put, List.setIfInBounds_toArray, List.set_cons_zero, List.set_cons_succ, Array.toArray_toList, List.getElem_toArray, List.getElem_cons_succ, List.getElem_cons_zero])
                    refine wpAnyH_ready (rs := [4, 8]) (by kernel_rfl) (by simp) ?_
                    refine AllReadyH.cons rfl (fun K hK => ?_) (AllReadyH.cons rfl (fun K hK => ?_) (AllReadyH.nil))
                    · rw [if_pos (by rfl)]
                      go_simp
                      (go_at_call 18; refine (HS4.out _).mono ?_; rintro e y4 ⟨rfl, hb_y4⟩)
                      go_wp2_with fail
                      refine hK.out _ _ (hHeld.trans (hb_y4.mono hHeld.size)) (fun hHeld => ?_)
                      clear hK K
                      (try simp only [Act.put, List.setIfInBounds_toArray, List.set_cons_zero, List.set_cons_succ, Array.toArray_toList, List.getElem_toArray, List.getElem_cons_succ, List.getElem_cons_zero])
                      (refine wpAnyH_take (i := 5) (v := .tuple #[.agg (pC R3), .int .i64 0]) rfl (by kernel_rfl) (by kernel_rfl) (by kernel_rfl) (fun _ _ _ h => h) (Or.inl ⟨by rfl, fun w _ => (by go_simp)⟩) (by assumption) ?_; (try simp only [Act.put, List.setIfInBounds_toArray, List.set_cons_zero, List.set_cons_succ, Array.toArray_toList, List.getElem_toArray, List.getElem_cons_succ, List.getElem_cons_zero]))
                      (refine wpAnyH_take (i := 6) (v := .agg (pC R3)) rfl (by kernel_rfl) (by kernel_rfl) (by kernel_rfl) (fun _ _ _ h => h) (Or.inl ⟨by rfl, fun w _ => (by go_simp)⟩) (by assumption) ?_; (try simp only [Act.put, List.setIfInBounds_toArray, List.set_cons_zero, List.set_cons_succ, Array.toArray_toList, List.getElem_toArray, List.getElem_cons_succ, List.getElem_cons_zero]))
                      (refine wpAnyH_take (i := 7) (v := .int .i64 0) rfl (by kernel_rfl) (by kernel_rfl) (by kernel_rfl) (fun _ _ _ h => h) (Or.inl ⟨by rfl, fun w _ => (by go_simp)⟩) (by assumption) ?_; (try simp only [Act.put, List.setIfInBounds_toArray, List.set_cons_zero, List.set_cons_succ, Array.toArray_toList, List.getElem_toArray, List.getElem_cons_succ, List.getElem_cons_zero]))
                      refine wpAnyH_ready (rs := [8]) (by kernel_rfl) (by simp) ?_
                      refine AllReadyH.cons rfl (fun K hK => ?_) (AllReadyH.nil)
                      · rw [if_pos (by rfl)]
                        go_simp
                        have z3 := RBlk.new (y4) (pC fun _ => 0) 26
                        have hg3 := hHeld.size
                        refine hK.out _ _ (hHeld.alloc hHeld.size _) (fun hHeld => ?_)
                        clear hK K
                        (try simp only [Act.put, List.setIfInBounds_toArray, List.set_cons_zero, List.set_cons_succ, Array.toArray_toList, List.getElem_toArray, List.getElem_cons_succ, List.getElem_cons_zero])
                        refine wpAnyH_ready (rs := [9]) (by kernel_rfl) (by simp) ?_
                        refine AllReadyH.cons rfl (fun K hK => ?_) (AllReadyH.nil)
                        · rw [if_pos (by rfl)]
                          refine wp_store_mid 26 _ _ rfl (y4.heap.size) 0 (pC R3) rfl rfl (z3).there sizeP (pC_one _) ?_
                          have z4 := (z3).put (ds := (pC R3)) rfl
                          refine hK.out _ _ (below_setCells hg3 _ _ _ hHeld) (fun hHeld => ?_)
                          clear hK K
                          (try simp only [Act.put, List.setIfInBounds_toArray, List.set_cons_zero, List.set_cons_succ, Array.toArray_toList, List.getElem_toArray, List.getElem_cons_succ, List.getElem_cons_zero])
                          (refine wpAnyH_take (i := 10) (v := .int .i64 0) rfl (by kernel_rfl) (by kernel_rfl) (by kernel_rfl) (fun _ _ _ h => h) (Or.inl ⟨by rfl, fun w _ => (by go_simp)⟩) (by assumption) ?_; (try simp only [Act.put, List.setIfInBounds_toArray, List.set_cons_zero, List.set_cons_succ, Array.toArray_toList, List.getElem_toArray, List.getElem_cons_succ, List.getElem_cons_zero]))
                          refine wpAnyH_done (by kernel_rfl) ?_ _
                          go_wp2_with fail
                          go_meet
                          exact ⟨_, rfl, rfl, hHeld, z4⟩
                    · rw [if_pos (by rfl)]
                      go_simp
                      have z2 := RBlk.new (y3) (pC fun _ => 0) 26
                      have hg2 := hHeld.size
                      refine hK.out _ _ (hHeld.alloc hHeld.size _) (fun hHeld => ?_)
                      clear hK K
                      (try simp only [Act.put, List.setIfInBounds_toArray, List.set_cons_zero, List.set_cons_succ, Array.toArray_toList, List.getElem_toArray, List.getElem_cons_succ, List.getElem_cons_zero])
                      refine wpAnyH_ready (rs := [4]) (by kernel_rfl) (by simp) ?_
                      refine AllReadyH.cons rfl (fun K hK => ?_) (AllReadyH.nil)
                      · rw [if_pos (by rfl)]
                        go_simp
                        (go_at_call 18; refine (HS4.out _).mono ?_; rintro e y4 ⟨rfl, hb_y4⟩)
                        go_wp2_with fail
                        have z3 := (z2).below hb_y4 (z2).lt
                        refine hK.out _ _ (hHeld.trans (hb_y4.mono hHeld.size)) (fun hHeld => ?_)
                        clear hK K
                        (try simp only [Act.put, List.setIfInBounds_toArray, List.set_cons_zero, List.set_cons_succ, Array.toArray_toList, List.getElem_toArray, List.getElem_cons_succ, List.getElem_cons_zero])
                        (refine wpAnyH_take (i := 5) (v := .tuple #[.agg (pC R3), .int .i64 0]) rfl (by kernel_rfl) (by kernel_rfl) (by kernel_rfl) (fun _ _ _ h => h) (Or.inl ⟨by rfl, fun w _ => (by go_simp)⟩) (by assumption) ?_; (try simp only [Act.put, List.setIfInBounds_toArray, List.set_cons_zero, List.set_cons_succ, Array.toArray_toList, List.getElem_toArray, List.getElem_cons_succ, List.getElem_cons_zero]))
                        (refine wpAnyH_take (i := 6) (v := .agg (pC R3)) rfl (by kernel_rfl) (by kernel_rfl) (by kernel_rfl) (fun _ _ _ h => h) (Or.inl ⟨by rfl, fun w _ => (by go_simp)⟩) (by assumption) ?_; (try simp only [Act.put, List.setIfInBounds_toArray, List.set_cons_zero, List.set_cons_succ, Array.toArray_toList, List.getElem_toArray, List.getElem_cons_succ, List.getElem_cons_zero]))
                        (refine wpAnyH_take (i := 7) (v := .int .i64 0) rfl (by kernel_rfl) (by kernel_rfl) (by kernel_rfl) (fun _ _ _ h => h) (Or.inl ⟨by rfl, fun w _ => (by go_simp)⟩) (by assumption) ?_; (try simp only [Act.put, List.setIfInBounds_toArray, List.set_cons_zero, List.set_cons_succ, Array.toArray_toList, List.getElem_toArray, List.getElem_cons_succ, List.getElem_cons_zero]))
                        refine wpAnyH_ready (rs := [9]) (by kernel_rfl) (by simp) ?_
                        refine AllReadyH.cons rfl (fun K hK => ?_) (AllReadyH.nil)
                        · rw [if_pos (by rfl)]
                          refine wp_store_mid 26 _ _ rfl (y3.heap.size) 0 (pC R3) rfl rfl (z3).there sizeP (pC_one _) ?_
                          have z4 := (z3).put (ds := (pC R3)) rfl
                          refine hK.out _ _ (below_setCells hg2 _ _ _ hHeld) (fun hHeld => ?_)
                          clear hK K
                          (try simp only [Act.put, List.setIfInBounds_toArray, List.set_cons_zero, List.set_cons_succ, Array.toArray_toList, List.getElem_toArray, List.getElem_cons_succ, List.getElem_cons_zero])
                          (refine wpAnyH_take (i := 10) (v := .int .i64 0) rfl (by kernel_rfl) (by kernel_rfl) (by kernel_rfl) (fun _ _ _ h => h) (Or.inl ⟨by rfl, fun w _ => (by go_simp)⟩) (by assumption) ?_; (try simp only [Act.put, List.setIfInBounds_toArray, List.set_cons_zero, List.set_cons_succ, Array.toArray_toList, List.getElem_toArray, List.getElem_cons_succ, List.getElem_cons_zero]))
                          refine wpAnyH_done (by kernel_rfl) ?_ _
                          go_wp2_with fail
                          go_meet
                          exact ⟨_, rfl, rfl, hHeld, z4⟩
                  · rw [if_pos (by rfl)]
                    go_simp
                    have z1 := RBlk.new (w6.drew) (pC fun _ => 0) 26
                    have hg1 := hHeld.size
                    refine hK.out _ _ (hHeld.alloc hHeld.size _) (fun hHeld => ?_)
                    clear hK K
                    (try simp only [Act.put, List.setIfInBounds_toArray, List.set_cons_zero, List.set_cons_succ, Array.toArray_toList, List.getElem_toArray, List.getElem_cons_succ, List.getElem_cons_zero])
                    refine wpAnyH_ready (rs := [3]) (by kernel_rfl) (by simp) ?_
                    refine AllReadyH.cons rfl (fun K hK => ?_) (AllReadyH.nil)
                    · rw [if_pos (by rfl)]
                      go_simp
                      (go_at_call 19; refine (HVal1.out _).mono ?_; rintro e y3 ⟨rfl, hb_y3⟩)
                      go_wp2_with fail
                      have z2 := (z1).below hb_y3 (z1).lt
                      refine hK.out _ _ (hHeld.trans (hb_y3.mono hHeld.size)) (fun hHeld => ?_)
                      clear hK K
                      (try simp only [Act.put, List.setIfInBounds_toArray, List.set_cons_zero, List.set_cons_succ, Array.toArray_toList, List.getElem_toArray, List.getElem_cons_succ, List.getElem_cons_zero])
                      refine wpAnyH_ready (rs := [4]) (by kernel_rfl) (by simp) ?_
                      refine AllReadyH.cons rfl (fun K hK => ?_) (AllReadyH.nil)
                      · rw [if_pos (by rfl)]
                        go_simp
                        (go_at_call 18; refine (HS4.out _).mono ?_; rintro e y4 ⟨rfl, hb_y4⟩)
                        go_wp2_with fail
                        have z3 := (z2).below hb_y4 (z2).lt
                        refine hK.out _ _ (hHeld.trans (hb_y4.mono hHeld.size)) (fun hHeld => ?_)
                        clear hK K
                        (try simp only [Act.put, List.setIfInBounds_toArray, List.set_cons_zero, List.set_cons_succ, Array.toArray_toList, List.getElem_toArray, List.getElem_cons_succ, List.getElem_cons_zero])
                        (refine wpAnyH_take (i := 5) (v := .tuple #[.agg (pC R3), .int .i64 0]) rfl (by kernel_rfl) (by kernel_rfl) (by kernel_rfl) (fun _ _ _ h => h) (Or.inl ⟨by rfl, fun w _ => (by go_simp)⟩) (by assumption) ?_; (try simp only [Act.put, List.setIfInBounds_toArray, List.set_cons_zero, List.set_cons_succ, Array.toArray_toList, List.getElem_toArray, List.getElem_cons_succ, List.getElem_cons_zero]))
                        (refine wpAnyH_take (i := 6) (v := .agg (pC R3)) rfl (by kernel_rfl) (by kernel_rfl) (by kernel_rfl) (fun _ _ _ h => h) (Or.inl ⟨by rfl, fun w _ => (by go_simp)⟩) (by assumption) ?_; (try simp only [Act.put, List.setIfInBounds_toArray, List.set_cons_zero, List.set_cons_succ, Array.toArray_toList, List.getElem_toArray, List.getElem_cons_succ, List.getElem_cons_zero]))
                        (refine wpAnyH_take (i := 7) (v := .int .i64 0) rfl (by kernel_rfl) (by kernel_rfl) (by kernel_rfl) (fun _ _ _ h => h) (Or.inl ⟨by rfl, fun w _ => (by go_simp)⟩) (by assumption) ?_; (try simp only [Act.put, List.setIfInBounds_toArray, List.set_cons_zero, List.set_cons_succ, Array.toArray_toList, List.getElem_toArray, List.getElem_cons_succ, List.getElem_cons_zero]))
                        refine wpAnyH_ready (rs := [9]) (by kernel_rfl) (by simp) ?_
                        refine AllReadyH.cons rfl (fun K hK => ?_) (AllReadyH.nil)
                        · rw [if_pos (by rfl)]
                          refine wp_store_mid 26 _ _ rfl (w6.drew.heap.size) 0 (pC R3) rfl rfl (z3).there sizeP (pC_one _) ?_
                          have z4 := (z3).put (ds := (pC R3)) rfl
                          refine hK.out _ _ (below_setCells hg1 _ _ _ hHeld) (fun hHeld => ?_)
                          clear hK K
                          (try simp only [Act.put, List.setIfInBounds_toArray, List.set_cons_zero, List.set_cons_succ, Array.toArray_toList, List.getElem_toArray, List.getElem_cons_succ, List.getElem_cons_zero])
                          (refine wpAnyH_take (i := 10) (v := .int .i64 0) rfl (by kernel_rfl) (by kernel_rfl) (by kernel_rfl) (fun _ _ _ h => h) (Or.inl ⟨by rfl, fun w _ => (by go_simp)⟩) (by assumption) ?_; (try simp only [Act.put, List.setIfInBounds_toArray, List.set_cons_zero, List.set_cons_succ, Array.toArray_toList, List.getElem_toArray, List.getElem_cons_succ, List.getElem_cons_zero]))
                          refine wpAnyH_done (by kernel_rfl) ?_ _
                          go_wp2_with fail
                          go_meet
                          exact ⟨_, rfl, rfl, hHeld, z4⟩
                case rest =>
                  obtain ⟨gD, rfl, rfl, hb, hz⟩ := hcut
                  obtain ⟨w7, ew⟩ : ∃ W, W = wc := ⟨_, rfl⟩
                  rw [← ew] at hb hz ⊢
                  clear ew
                  have HD := hide hz
                  replace hB := hide (hB.out.trans (hb.mono hB.out.size))
                  replace HC := hide (HC.out.below hb HC.out.lt)
                  have hl_HC_w7 := HC.out.lt
                  have hl_HD_w7 := HD.out.lt
                  have hsz_w7 := hB.out.size
                  clear hb hz
                  have HE := eqP_law R3
                  go_wp2_with (first | (refine wpList_load_row26g (P := R3) (by rfl) (.tmp 11) rfl (g := gC) rfl HC.out ?_) | (refine wpList_load_row26g (P := R3) (by rfl) (.tmp 13) rfl (g := gD) rfl HD.out ?_))
                  refine (awake12_c _).mono ?_
                  rintro e wz ⟨rfl, hbz⟩
                  have hBf := hB.out.trans (hbz.mono hB.out.size)
                  clear hbz
                  go_wp2
                  go_ret
                  exact ⟨rfl, hBf⟩
              · have h2 : (E2 == 0) = false := by simpa using hE2
                go_wp2_with fail
                refine (awake12_c _).mono ?_
                rintro e wz ⟨rfl, hbz⟩
                have hBf := hB.out.trans (hbz.mono hB.out.size)
                clear hbz
                go_wp2
                go_ret
                exact ⟨rfl, hBf⟩
          · have h1 : (E1 == 0) = false := by simpa using hE1
            go_wp2_with fail
            refine (awake12_c _).mono ?_
            rintro e wz ⟨rfl, hbz⟩
            have hBf := hB.out.trans (hbz.mono hB.out.size)
            clear hbz
            go_wp2
            go_ret
            exact ⟨rfl, hBf⟩
theorem ParamsCommute_walk (key1 a1 b1 c1 d1 few1 how1 key2 a2 b2 c2 d2 few2 how2 : Int) (w0 : (Lit.int .i64 key1).wf = true) (w1 : (Lit.int .u64 a1).wf = true) (w2 : (Lit.int .u64 b1).wf = true) (w3 : (Lit.int .u64 c1).wf = true) (w4 : (Lit.int .u64 d1).wf = true) (w5 : (Lit.int .u64 few1).wf = true) (w6 : (Lit.int .u8 how1).wf = true) (w7 : (Lit.int .i64 key2).wf = true) (w8 : (Lit.int .u64 a2).wf = true) (w9 : (Lit.int .u64 b2).wf = true) (w10 : (Lit.int .u64 c2).wf = true) (w11 : (Lit.int .u64 d2).wf = true) (w12 : (Lit.int .u64 few2).wf = true) (w13 : (Lit.int .u8 how2).wf = true) (w : World) :
    Calls Try.prog 6 #[.agg #[.int .i64 key1, .int .u64 a1, .int .u64 b1, .int .u64 c1, .int .u64 d1, .int .u64 few1, .int .u8 how1], .agg #[.int .i64 key2, .int .u64 a2, .int .u64 b2, .int .u64 c2, .int .u64 d2, .int .u64 few2, .int .u8 how2]] w fun e w' => e = .returned (.bool true) ∧ Below w.heap.size w w' := by
  obtain ⟨p5, q5⟩ := bounds_u64 w5
  obtain ⟨p6, q6⟩ := bounds_u8 w6
  obtain ⟨p12, q12⟩ := bounds_u64 w12
  obtain ⟨p13, q13⟩ := bounds_u8 w13
  exact Commute_in (n4 a1 b1 c1 d1) (n4_w w1 w2 w3 w4) key1 few1 how1 p5 (by omega) p6 (n4 a2 b2 c2 d2) (n4_w w8 w9 w10 w11) key2 few2 how2 p12 (by omega) p13 w
end Go.Proofs.Ytbnpgecpanfpiaa
