/- chapter 14: BasefeeMonotone, walked. -/
import Derived.WalkKit
import Derived.KernelRfl
import Derived.RowKit3
import Derived.Deep.LoopGhost
import Derived.Deep.QuietTactic
import Derived.BigQuiet
import Derived.WideLaws
import Derived.Laws.Rows
import Derived.Below
import Derived.Deep.Draws
import Derived.Outline
import Derived.LoopN
import Derived.Handy
import Derived.Laws.Externs
import Derived.Laws.BitsAllLaws
import Derived.Laws.BitsLemmas
import Derived.Deep.DeepCutAuto
import Derived.Deep.CutBlock
import Derived.Deep.RegionHeld3
import Derived.Test.YtiebdccdnaceaaaF6
namespace Go.Proofs.Ytiebdccdnaceaaa
open Go.RowKit
set_option linter.unusedVariables false
set_option linter.unusedSimpArgs false
theorem cut3 {f : World → Prop} {W w : World} {g b0 b1 b2 : Nat} {P Q0 Q1 Q2 : Nat → Int} (h : PBlk W g P ∧ Below w.heap.size w W) (z0 : PBlk W b0 Q0) (z1 : PBlk W b1 Q1) (z2 : PBlk W b2 Q2) (k : ∀ W', PBlk W' g P ∧ Below w.heap.size w W' → PBlk W' b0 Q0 → PBlk W' b1 Q1 → PBlk W' b2 Q2 → f W') : f W := k W h z0 z1 z2
theorem st1_w {P : Nat → Int} (hP : PW P) {x : Int} (x0 : 0 ≤ x) (x1 : x < 18446744073709551616) (i : Nat) : PW (st1 P i x) := by
  intro j
  unfold st1
  split
  · omega
  · exact hP j
def st4 (P : Nat → Int) (x : Int) : Nat → Int := st1 (st1 (st1 (st1 P 3 x) 4 0) 5 0) 6 0
theorem div_anti {a c c' : Int} (h0 : 0 < c) (h : c ≤ c') (ha : 0 ≤ a) : a / c' ≤ a / c := by
  have h1 : 0 ≤ a / c' := Int.ediv_nonneg ha (by omega)
  have h2 : a / c' * c' ≤ a := Int.ediv_mul_le _ (by omega)
  have h3 : a / c' * c ≤ a / c' * c' := Int.mul_le_mul_of_nonneg_left h h1
  exact Int.le_ediv_of_mul_le h0 (by omega)
theorem fe_le {P Q : Nat → Int} (hP : PW P) (hQ : PW Q) (h : fiV P = 0) (h' : fiV Q = 0) {b : Int} (b0 : 0 ≤ b) (b1 : b < 18446744073709551616) (hx : xqV b P ≤ xqV b Q) (hA : getN P 4 ≤ getN Q 4) : feV b P ≤ feV b Q := by
  obtain ⟨f1, f2⟩ := fe_val hP h b0 b1
  obtain ⟨g1, g2⟩ := fe_val hQ h' b0 b1
  have gx := xqV_rg hP h b0 b1
  have gy := xqV_rg hQ h' b0 b1
  rw [f2, g2]
  exact Nat.le_trans (se_mono gx.1 hx gy.2) (Nat.div_le_div_right (Nat.mul_le_mul_right _ hA))
theorem gm_facts {v u : Nat → Int} (hv : ∀ j, 0 ≤ v j ∧ v j < 18446744073709551616) (hu : ∀ j, 0 ≤ u j ∧ u j < 18446744073709551616) {P : Nat → Int} (eP : vpP v = P) {b : Int} (b0 : 0 ≤ b) (b1 : b < 18446744073709551616) :
    ∃ x1 x2 x3 : Int, IntKind.u64.wrap (P 1 + u 0 % 1000) = x1 ∧ IntKind.u64.wrap (P 2 + u 1 % 1000) = x2 ∧ IntKind.u64.wrap (P 3 + u 2 % 1152921504606846976) = x3 ∧ PW (st1 P 1 x1) ∧ PW (st1 P 2 x2) ∧ PW (st4 P x3) ∧ feE b P = 0 ∧ feE b (st1 P 1 x1) = 0 ∧ feE b (st1 P 2 x2) = 0 ∧ feE b (st4 P x3) = 0 ∧ feV b (st1 P 1 x1) ≤ feV b P ∧ feV b (st1 P 2 x2) ≤ feV b P ∧ feV b P ≤ feV b (st4 P x3) := by
  have hP := vp_w hv
  have hok := vp_ok hv
  obtain ⟨h0, h1, h2, h3, h7, h8, h12, h13, h17, h18⟩ := vp_rg hv
  have z : P 4 = 0 ∧ P 5 = 0 ∧ P 6 = 0 ∧ P 9 = 0 ∧ P 10 = 0 ∧ P 11 = 0 ∧ P 14 = 0 ∧ P 15 = 0 ∧ P 16 = 0 ∧ P 19 = 16 ∧ P 20 = 65536 := by rw [← eP]; exact ⟨rfl, rfl, rfl, rfl, rfl, rfl, rfl, rfl, rfl, rfl, rfl⟩
  rw [eP] at hP hok h0 h1 h2 h3 h7 h8 h12 h13 h17 h18
  obtain ⟨z4, z5, z6, z9, z10, z11, z14, z15, z16, z19, z20⟩ := z
  have hu0 := hu 0
  have hu1 := hu 1
  have hu2 := hu 2
  refine ⟨P 1 + u 0 % 1000, P 2 + u 1 % 1000, P 3 + u 2 % 1152921504606846976, by rw [wrap_mod]; omega, by rw [wrap_mod]; omega, by rw [wrap_mod]; omega, ?_⟩
  obtain ⟨x1, e1⟩ : ∃ x, P 1 + u 0 % 1000 = x := ⟨_, rfl⟩
  obtain ⟨x2, e2⟩ : ∃ x, P 2 + u 1 % 1000 = x := ⟨_, rfl⟩
  obtain ⟨x3, e3⟩ : ∃ x, P 3 + u 2 % 1152921504606846976 = x := ⟨_, rfl⟩
  rw [e1, e2, e3]
  have a1 : P 1 ≤ x1 ∧ x1 ≤ 1040 := by omega
  have a2 : P 2 ≤ x2 ∧ x2 ≤ 1300 := by omega
  have a3 : P 3 ≤ x3 ∧ x3 ≤ 2305843009213693952 := by omega
  clear e1 e2 e3 hu0 hu1 hu2
  have w1 : PW (st1 P 1 x1) := st1_w hP (by omega) (by omega) _
  have w2 : PW (st1 P 2 x2) := st1_w hP (by omega) (by omega) _
  have w3 : PW (st4 P x3) := st1_w (st1_w (st1_w (st1_w hP (by omega) (by omega) _) (Int.le_refl 0) (by omega) _) (Int.le_refl 0) (by omega) _) (Int.le_refl 0) (by omega) _
  have o1 : fiV (st1 P 1 x1) = 0 := valid_of w1 (show 1 ≤ P 0 ∧ P 0 ≤ 1099511627776 by omega) (show x1 ≤ 1048576 by omega) (show 1 ≤ P 2 ∧ P 2 ≤ 1048576 by omega) (show 1 ≤ P 3 ∧ P 4 = 0 ∧ P 5 = 0 ∧ P 6 = 0 from ⟨h3.1, z4, z5, z6⟩) (show 1 ≤ P 7 ∧ P 7 ≤ 1099511627776 by omega) ⟨z9, z10, z11⟩ (show P 12 ≤ 10000 by omega) ⟨z14, z15, z16⟩ (show 1 ≤ P 17 ∧ P 17 ≤ 1099511627776 by omega) (show 1 ≤ P 18 ∧ P 18 ≤ 1048576 by omega) (show P 19 ≤ 1048576 by omega) (show P 19 ≤ P 20 ∧ P 20 ≤ 16777216 by omega)
  have o2 : fiV (st1 P 2 x2) = 0 := valid_of w2 (show 1 ≤ P 0 ∧ P 0 ≤ 1099511627776 by omega) (show P 1 ≤ 1048576 by omega) (show 1 ≤ x2 ∧ x2 ≤ 1048576 by omega) (show 1 ≤ P 3 ∧ P 4 = 0 ∧ P 5 = 0 ∧ P 6 = 0 from ⟨h3.1, z4, z5, z6⟩) (show 1 ≤ P 7 ∧ P 7 ≤ 1099511627776 by omega) ⟨z9, z10, z11⟩ (show P 12 ≤ 10000 by omega) ⟨z14, z15, z16⟩ (show 1 ≤ P 17 ∧ P 17 ≤ 1099511627776 by omega) (show 1 ≤ P 18 ∧ P 18 ≤ 1048576 by omega) (show P 19 ≤ 1048576 by omega) (show P 19 ≤ P 20 ∧ P 20 ≤ 16777216 by omega)
  have o3 : fiV (st4 P x3) = 0 := valid_of w3 (show 1 ≤ P 0 ∧ P 0 ≤ 1099511627776 by omega) (show P 1 ≤ 1048576 by omega) (show 1 ≤ P 2 ∧ P 2 ≤ 1048576 by omega) (show 1 ≤ x3 ∧ (0 : Int) = 0 ∧ (0 : Int) = 0 ∧ (0 : Int) = 0 from ⟨by omega, rfl, rfl, rfl⟩) (show 1 ≤ P 7 ∧ P 7 ≤ 1099511627776 by omega) ⟨z9, z10, z11⟩ (show P 12 ≤ 10000 by omega) ⟨z14, z15, z16⟩ (show 1 ≤ P 17 ∧ P 17 ≤ 1099511627776 by omega) (show 1 ≤ P 18 ∧ P 18 ≤ 1048576 by omega) (show P 19 ≤ 1048576 by omega) (show P 19 ≤ P 20 ∧ P 20 ≤ 16777216 by omega)
  have n0 := getN4 hP z4 z5 z6
  have n1 : getN (st1 P 1 x1) 4 = getN P 4 := valL_congr ⟨rfl, rfl, rfl, rfl⟩
  have n2 : getN (st1 P 2 x2) 4 = getN P 4 := valL_congr ⟨rfl, rfl, rfl, rfl⟩
  have n3 : (getN (st4 P x3) 4 : Int) = x3 := getN4 w3 rfl rfl rfl
  have hpos : 0 < P 2 * P 0 := Int.mul_pos (by omega) (by omega)
  have d0 := drn_rg (b := b) (s := P 0) (t := P 1) b0 b1 (by omega) (by omega)
  have k1 : xqV b (st1 P 1 x1) ≤ xqV b P := min_mono (Int.ediv_le_ediv hpos (Int.mul_le_mul_of_nonneg_right (drn_anti (show 0 ≤ P 0 by omega) a1.1) (by omega)))
  have k2 : xqV b (st1 P 2 x2) ≤ xqV b P := min_mono (div_anti hpos (Int.mul_le_mul_of_nonneg_right a2.1 (show 0 ≤ P 0 by omega)) (show 0 ≤ drn b (P 0) (P 1) * 10000 by omega))
  have k3 : xqV b P ≤ xqV b (st4 P x3) := Int.le_refl _
  exact ⟨w1, w2, w3, (fe_val hP hok b0 b1).1, (fe_val w1 o1 b0 b1).1, (fe_val w2 o2 b0 b1).1, (fe_val w3 o3 b0 b1).1, fe_le w1 hP o1 hok b0 b1 k1 (by omega), fe_le w2 hP o2 hok b0 b1 k2 (by omega), fe_le hP w3 hok o3 b0 b1 k3 (by omega)⟩
theorem cut4 {f : World → Prop} {W w : World} {g g8 g9 g10 : Nat} {P Q R T : Nat → Int} (hb : Below w.heap.size w W) (h : PBlk W g P) (z0 : PBlk W g8 Q) (z1 : PBlk W g9 R) (z2 : PBlk W g10 T) (k : ∀ W', Hid (Below w.heap.size w W') → Hid (PBlk W' g P) → Hid (PBlk W' g8 Q) → Hid (PBlk W' g9 R) → Hid (PBlk W' g10 T) → f W') : f W := k W hb h z0 z1 z2
set_option maxRecDepth 20000 in
set_option maxHeartbeats 16000000 in
theorem bgm_c (v : Nat → Int) (hv : ∀ j, 0 ≤ v j ∧ v j < 18446744073709551616) (u : Nat → Int) (hu : ∀ j, 0 ≤ u j ∧ u j < 18446744073709551616) {b : Int} (b0 : 0 ≤ b) (b1 : b < 18446744073709551616) (w : World) :
    Calls Try.prog 7 #[.int .u64 b, .agg #[.int .u64 (v 0), .int .u64 (v 1), .int .u64 (v 2), .int .u64 (v 3), .int .u64 (v 4), .int .u64 (v 5), .int .u64 (v 6), .int .u64 (v 7)], .agg #[.int .u64 (u 0), .int .u64 (u 1), .int .u64 (u 2)]] w fun e w' => e = .returned (.bool true) ∧ Below w.heap.size w w' := by
  have HVP := hide (fun w => vp_c v hv w)
  have hP := vp_w hv
  obtain ⟨P, eP⟩ : ∃ P, vpP v = P := ⟨_, rfl⟩
  obtain ⟨x1, x2, x3, l1, l2, l3, p1, p2, p3, m0, m1, m2, m3, o1, o2, o3⟩ := gm_facts hv hu eP b0 b1
  rw [eP] at HVP hP
  clear eP
  have HF0 := hide (fun w => fee_c P hP b0 b1 w)
  have HF1 := hide (fun w => fee_c _ p1 b0 b1 w)
  have HF2 := hide (fun w => fee_c _ p2 b0 b1 w)
  have HF3 := hide (fun w => fee_c _ p3 b0 b1 w)
  have y0 := feV_lt b P
  have y1 := feV_lt b (st1 P 1 x1)
  have y2 := feV_lt b (st1 P 2 x2)
  have y3 := feV_lt b (st4 P x3)
  obtain ⟨Q, eQ⟩ : ∃ Q, st1 P 1 x1 = Q := ⟨_, rfl⟩
  obtain ⟨R, eR⟩ : ∃ R, st1 P 2 x2 = R := ⟨_, rfl⟩
  obtain ⟨T, eT⟩ : ∃ T, st4 P x3 = T := ⟨_, rfl⟩
  rw [m0] at HF0
  rw [m1] at HF1
  rw [m2] at HF2
  rw [m3] at HF3
  rw [eQ] at HF1 y1 o1
  rw [eR] at HF2 y2 o2
  rw [eT] at HF3 y3 o3
  obtain ⟨a0, ea0⟩ : ∃ a, feV b P = a := ⟨_, rfl⟩
  obtain ⟨a1, ea1⟩ : ∃ a, feV b Q = a := ⟨_, rfl⟩
  obtain ⟨a2, ea2⟩ : ∃ a, feV b R = a := ⟨_, rfl⟩
  obtain ⟨a3, ea3⟩ : ∃ a, feV b T = a := ⟨_, rfl⟩
  rw [ea0] at HF0 y0 o1 o2 o3
  rw [ea1] at HF1 y1 o1
  rw [ea2] at HF2 y2 o2
  rw [ea3] at HF3 y3 o3
  obtain ⟨j1, c1, i1⟩ := cmp_le o1
  obtain ⟨j2, c2, i2⟩ := cmp_le o2
  obtain ⟨j3, c3, i3⟩ := cmp_le o3
  have HC1 := hide (fun w => cmp_c (isU_lim y1) (isU_lim y0) w)
  have HC2 := hide (fun w => cmp_c (isU_lim y2) (isU_lim y0) w)
  have HC3 := hide (fun w => cmp_c (isU_lim y0) (isU_lim y3) w)
  rw [c1] at HC1
  rw [c2] at HC2
  rw [c3] at HC3
  have EQ := hide eQ
  have ER := hide eR
  have ET := hide eT
  clear eQ eR eT p1 p2 p3 m0 m1 m2 m3 o1 o2 o3 y0 y1 y2 y3 ea0 ea1 ea2 ea3 c1 c2 c3 hP
  go_enter Try.func7, Try.ntmps7
  go_wp2_with fail
  refine (HVP.out _).mono ?_
  rintro e w1 ⟨rfl, hb1⟩
  have hs1 := hb1.size
  try simp only [World.size_alloc, World.size_setCell, World.size_drew, size_drewN] at hs1
  have HZ := hide (PBlk.new w1 (fun _ => 0))
  have hsz : w.heap.size ≤ w1.heap.size := by omega
  have HB1 := hide (show Below w.heap.size w w1 from (((Below.refl _ _).alloc (Nat.le_refl _) _).alloc (by simp) _).trans (hb1.mono (by simp; omega)))
  have HM1 := hide (show w1.cell? ⟨w.heap.size + 1, 0, none⟩ = some (.int .u64 (u 0)) ∧ w1.cell? ⟨w.heap.size + 1, 1, none⟩ = some (.int .u64 (u 1)) ∧ w1.cell? ⟨w.heap.size + 1, 2, none⟩ = some (.int .u64 (u 2)) from ⟨(hb1.cell (p := ⟨w.heap.size + 1, 0, none⟩) (by simp)).trans (by simp [go_sem]), (hb1.cell (p := ⟨w.heap.size + 1, 1, none⟩) (by simp)).trans (by simp [go_sem]), (hb1.cell (p := ⟨w.heap.size + 1, 2, none⟩) (by simp)).trans (by simp [go_sem])⟩)
  clear hb1 HVP
  go_upto_region 2 with (refine wpList_store_row26 rfl (.tmp 7) (.tmp 20) rfl (g := w1.heap.size) P rfl rfl HZ.out ?_; intro w3 HP hB3 _; replace HP := hide HP; have hB := hide (hB3 w.heap.size w hsz (HB1.out.alloc hsz _)); have HM3 := hide (hB3 w1.heap.size w1 (Nat.le_refl _) ((Below.refl _ _).alloc (Nat.le_refl _) _)); have hlt := HP.out.lt; clear hB3 HZ)
  (try simp only [Act.put, List.setIfInBounds_toArray, List.set_cons_succ, List.set_cons_zero])
  go_cut [8, 9, 10] (fun s8 s9 s10 wx => ∃ g8 g9 g10 : Nat, s8 = .pointer (some ⟨g8, 0, none⟩) ∧ s9 = .pointer (some ⟨g9, 0, none⟩) ∧ s10 = .pointer (some ⟨g10, 0, none⟩) ∧ PBlk wx w1.heap.size P ∧ Below w3.heap.size w3 wx ∧ PBlk wx g8 P ∧ PBlk wx g9 P ∧ PBlk wx g10 P ∧ g8 ≠ g9 ∧ g8 ≠ g10 ∧ g9 ≠ g10 ∧ w1.heap.size < g8 ∧ w1.heap.size < g9 ∧ w1.heap.size < g10)
  case first =>
    have hK : PBlk w3.drew w1.heap.size P ∧ Below w3.heap.size w3 w3.drew := ⟨HP.out.drew, (Below.refl _ _).drew⟩
    refine wp_region_held_drew (S := fun w' => PBlk w' w1.heap.size P ∧ Below w3.heap.size w3 w') (by kernel_rfl) hK (fun hHeld => ?_)
    clear hK
    (refine wpAnyH_take (i := 0) (v := _) rfl (by kernel_rfl) (by kernel_rfl) (by kernel_rfl) (fun _ _ _ h => h) (yieldsIf_load_mid (by rfl) 26 (.tmp 7) rfl w1.heap.size 0 rfl (pC P).toList _ (fun w h => h.1.range) Try.underlying26 rfl (by rw [pC_len]; exact sizeP)) (by assumption) ?_; (try simp only [Act.put, List.setIfInBounds_toArray, List.set_cons_zero, List.set_cons_succ, Array.toArray_toList, List.getElem_toArray, List.getElem_cons_succ, List.getElem_cons_zero]))
    (refine wpAnyH_take (i := 1) (v := _) rfl (by kernel_rfl) (by kernel_rfl) (by kernel_rfl) (fun _ _ _ h => h) (yieldsIf_load_mid (by rfl) 26 (.tmp 7) rfl w1.heap.size 0 rfl (pC P).toList _ (fun w h => h.1.range) Try.underlying26 rfl (by rw [pC_len]; exact sizeP)) (by assumption) ?_; (try simp only [Act.put, List.setIfInBounds_toArray, List.set_cons_zero, List.set_cons_succ, Array.toArray_toList, List.getElem_toArray, List.getElem_cons_succ, List.getElem_cons_zero]))
    (refine wpAnyH_take (i := 2) (v := _) rfl (by kernel_rfl) (by kernel_rfl) (by kernel_rfl) (fun _ _ _ h => h) (yieldsIf_load_mid (by rfl) 26 (.tmp 7) rfl w1.heap.size 0 rfl (pC P).toList _ (fun w h => h.1.range) Try.underlying26 rfl (by rw [pC_len]; exact sizeP)) (by assumption) ?_; (try simp only [Act.put, List.setIfInBounds_toArray, List.set_cons_zero, List.set_cons_succ, Array.toArray_toList, List.getElem_toArray, List.getElem_cons_succ, List.getElem_cons_zero]))
    refine wpAnyH_ready (rs := [3, 4, 5]) (by kernel_rfl) (by simp) ?_
    refine AllReadyH.cons rfl (fun K hK => ?_) (AllReadyH.cons rfl (fun K hK => ?_) (AllReadyH.cons rfl (fun K hK => ?_) (AllReadyH.nil)))
    · rw [if_pos (by rfl)]
      go_simp
      have z0 := PBlk.new (w3.drew) (fun _ => 0)
      refine hK.out _ _ (KP.keep hHeld ((Below.refl _ _).alloc (Nat.le_refl _) _)) (fun hHeld => ?_)
      clear hK K
      (try simp only [Act.put, List.setIfInBounds_toArray, List.set_cons_zero, List.set_cons_succ, Array.toArray_toList, List.getElem_toArray, List.getElem_cons_succ, List.getElem_cons_zero])
      refine wpAnyH_ready (rs := [4, 5]) (by kernel_rfl) (by simp) ?_
      refine AllReadyH.cons rfl (fun K hK => ?_) (AllReadyH.cons rfl (fun K hK => ?_) (AllReadyH.nil))
      · rw [if_pos (by rfl)]
        go_simp
        replace z0 := z0.alloc (.cells (pC fun _ => 0) 26)
        have z1 := PBlk.new ((w3.drew.alloc (.cells (pC fun _ => 0) 26))) (fun _ => 0)
        refine hK.out _ _ (KP.keep hHeld ((Below.refl _ _).alloc (Nat.le_refl _) _)) (fun hHeld => ?_)
        clear hK K
        (try simp only [Act.put, List.setIfInBounds_toArray, List.set_cons_zero, List.set_cons_succ, Array.toArray_toList, List.getElem_toArray, List.getElem_cons_succ, List.getElem_cons_zero])
        refine wpAnyH_ready (rs := [5]) (by kernel_rfl) (by simp) ?_
        refine AllReadyH.cons rfl (fun K hK => ?_) (AllReadyH.nil)
        · rw [if_pos (by rfl)]
          go_simp
          replace z0 := z0.alloc (.cells (pC fun _ => 0) 26)
          replace z1 := z1.alloc (.cells (pC fun _ => 0) 26)
          have z2 := PBlk.new (((w3.drew.alloc (.cells (pC fun _ => 0) 26)).alloc (.cells (pC fun _ => 0) 26))) (fun _ => 0)
          refine hK.out _ _ (KP.keep hHeld ((Below.refl _ _).alloc (Nat.le_refl _) _)) (fun hHeld => ?_)
          clear hK K
          (try simp only [Act.put, List.setIfInBounds_toArray, List.set_cons_zero, List.set_cons_succ, Array.toArray_toList, List.getElem_toArray, List.getElem_cons_succ, List.getElem_cons_zero])
          simp only [World.size_alloc, World.size_drew] at z0 z1 z2
          refine cut3 hHeld z0 z1 z2 ?_
          clear hHeld z0 z1 z2
          intro W hHeld z0 z1 z2
          refine wpAnyH_ready (rs := [6]) (by kernel_rfl) (by simp) ?_
          refine AllReadyH.cons rfl (fun K hK => ?_) AllReadyH.nil
          rw [if_pos (by rfl)]
          refine wp_store_mid 26 _ _ rfl (w3.heap.size) 0 (pC P) rfl rfl z0.there sizeP (pC_one _) ?_
          refine hK.out _ _ ⟨hHeld.1.putFar (by omega) _, below_setCells (by omega) _ _ _ hHeld.2⟩ (fun hHeld => ?_)
          clear hK K
          replace z0 := z0.put P
          replace z1 := z1.putFar (b := w3.heap.size) (by omega) (pC P).toList
          replace z2 := z2.putFar (b := w3.heap.size) (by omega) (pC P).toList
          (try simp only [Act.put, List.setIfInBounds_toArray, List.set_cons_zero, List.set_cons_succ, Array.toArray_toList, List.getElem_toArray, List.getElem_cons_succ, List.getElem_cons_zero])
          refine cut3 hHeld z0 z1 z2 ?_
          clear hHeld z0 z1 z2
          intro W hHeld z0 z1 z2
          refine wpAnyH_ready (rs := [7]) (by kernel_rfl) (by simp) ?_
          refine AllReadyH.cons rfl (fun K hK => ?_) AllReadyH.nil
          rw [if_pos (by rfl)]
          refine wp_store_mid 26 _ _ rfl (w3.heap.size + 1) 0 (pC P) rfl rfl z1.there sizeP (pC_one _) ?_
          refine hK.out _ _ ⟨hHeld.1.putFar (by omega) _, below_setCells (by omega) _ _ _ hHeld.2⟩ (fun hHeld => ?_)
          clear hK K
          replace z0 := z0.putFar (b := w3.heap.size + 1) (by omega) (pC P).toList
          replace z1 := z1.put P
          replace z2 := z2.putFar (b := w3.heap.size + 1) (by omega) (pC P).toList
          (try simp only [Act.put, List.setIfInBounds_toArray, List.set_cons_zero, List.set_cons_succ, Array.toArray_toList, List.getElem_toArray, List.getElem_cons_succ, List.getElem_cons_zero])
          refine cut3 hHeld z0 z1 z2 ?_
          clear hHeld z0 z1 z2
          intro W hHeld z0 z1 z2
          refine wpAnyH_ready (rs := [8]) (by kernel_rfl) (by simp) ?_
          refine AllReadyH.cons rfl (fun K hK => ?_) AllReadyH.nil
          rw [if_pos (by rfl)]
          refine wp_store_mid 26 _ _ rfl (w3.heap.size + 1 + 1) 0 (pC P) rfl rfl z2.there sizeP (pC_one _) ?_
          refine hK.out _ _ ⟨hHeld.1.putFar (by omega) _, below_setCells (by omega) _ _ _ hHeld.2⟩ (fun hHeld => ?_)
          clear hK K
          replace z0 := z0.putFar (b := w3.heap.size + 1 + 1) (by omega) (pC P).toList
          replace z1 := z1.putFar (b := w3.heap.size + 1 + 1) (by omega) (pC P).toList
          replace z2 := z2.put P
          (try simp only [Act.put, List.setIfInBounds_toArray, List.set_cons_zero, List.set_cons_succ, Array.toArray_toList, List.getElem_toArray, List.getElem_cons_succ, List.getElem_cons_zero])
          refine cut3 hHeld z0 z1 z2 ?_
          clear hHeld z0 z1 z2
          intro W hHeld z0 z1 z2
          refine wpAnyH_done (by kernel_rfl) ?_ _
          go_wp2_with fail
          go_meet
          exact ⟨w3.heap.size, w3.heap.size + 1, w3.heap.size + 1 + 1, rfl, rfl, rfl, hHeld.1, hHeld.2, z0, z1, z2, by omega, by omega, by omega, by omega, by omega, by omega⟩
      · rw [if_pos (by rfl)]
        go_simp
        replace z0 := z0.alloc (.cells (pC fun _ => 0) 26)
        have z1 := PBlk.new ((w3.drew.alloc (.cells (pC fun _ => 0) 26))) (fun _ => 0)
        refine hK.out _ _ (KP.keep hHeld ((Below.refl _ _).alloc (Nat.le_refl _) _)) (fun hHeld => ?_)
        clear hK K
        (try simp only [Act.put, List.setIfInBounds_toArray, List.set_cons_zero, List.set_cons_succ, Array.toArray_toList, List.getElem_toArray, List.getElem_cons_succ, List.getElem_cons_zero])
        refine wpAnyH_ready (rs := [4]) (by kernel_rfl) (by simp) ?_
        refine AllReadyH.cons rfl (fun K hK => ?_) (AllReadyH.nil)
        · rw [if_pos (by rfl)]
          go_simp
          replace z0 := z0.alloc (.cells (pC fun _ => 0) 26)
          replace z1 := z1.alloc (.cells (pC fun _ => 0) 26)
          have z2 := PBlk.new (((w3.drew.alloc (.cells (pC fun _ => 0) 26)).alloc (.cells (pC fun _ => 0) 26))) (fun _ => 0)
          refine hK.out _ _ (KP.keep hHeld ((Below.refl _ _).alloc (Nat.le_refl _) _)) (fun hHeld => ?_)
          clear hK K
          (try simp only [Act.put, List.setIfInBounds_toArray, List.set_cons_zero, List.set_cons_succ, Array.toArray_toList, List.getElem_toArray, List.getElem_cons_succ, List.getElem_cons_zero])
          simp only [World.size_alloc, World.size_drew] at z0 z1 z2
          refine cut3 hHeld z0 z1 z2 ?_
          clear hHeld z0 z1 z2
          intro W hHeld z0 z1 z2
          refine wpAnyH_ready (rs := [6]) (by kernel_rfl) (by simp) ?_
          refine AllReadyH.cons rfl (fun K hK => ?_) AllReadyH.nil
          rw [if_pos (by rfl)]
          refine wp_store_mid 26 _ _ rfl (w3.heap.size) 0 (pC P) rfl rfl z0.there sizeP (pC_one _) ?_
          refine hK.out _ _ ⟨hHeld.1.putFar (by omega) _, below_setCells (by omega) _ _ _ hHeld.2⟩ (fun hHeld => ?_)
          clear hK K
          replace z0 := z0.put P
          replace z1 := z1.putFar (b := w3.heap.size) (by omega) (pC P).toList
          replace z2 := z2.putFar (b := w3.heap.size) (by omega) (pC P).toList
          (try simp only [Act.put, List.setIfInBounds_toArray, List.set_cons_zero, List.set_cons_succ, Array.toArray_toList, List.getElem_toArray, List.getElem_cons_succ, List.getElem_cons_zero])
          refine cut3 hHeld z0 z1 z2 ?_
          clear hHeld z0 z1 z2
          intro W hHeld z0 z1 z2
          refine wpAnyH_ready (rs := [7]) (by kernel_rfl) (by simp) ?_
          refine AllReadyH.cons rfl (fun K hK => ?_) AllReadyH.nil
          rw [if_pos (by rfl)]
          refine wp_store_mid 26 _ _ rfl (w3.heap.size + 1 + 1) 0 (pC P) rfl rfl z2.there sizeP (pC_one _) ?_
          refine hK.out _ _ ⟨hHeld.1.putFar (by omega) _, below_setCells (by omega) _ _ _ hHeld.2⟩ (fun hHeld => ?_)
          clear hK K
          replace z0 := z0.putFar (b := w3.heap.size + 1 + 1) (by omega) (pC P).toList
          replace z1 := z1.putFar (b := w3.heap.size + 1 + 1) (by omega) (pC P).toList
          replace z2 := z2.put P
          (try simp only [Act.put, List.setIfInBounds_toArray, List.set_cons_zero, List.set_cons_succ, Array.toArray_toList, List.getElem_toArray, List.getElem_cons_succ, List.getElem_cons_zero])
          refine cut3 hHeld z0 z1 z2 ?_
          clear hHeld z0 z1 z2
          intro W hHeld z0 z1 z2
          refine wpAnyH_ready (rs := [8]) (by kernel_rfl) (by simp) ?_
          refine AllReadyH.cons rfl (fun K hK => ?_) AllReadyH.nil
          rw [if_pos (by rfl)]
          refine wp_store_mid 26 _ _ rfl (w3.heap.size + 1) 0 (pC P) rfl rfl z1.there sizeP (pC_one _) ?_
          refine hK.out _ _ ⟨hHeld.1.putFar (by omega) _, below_setCells (by omega) _ _ _ hHeld.2⟩ (fun hHeld => ?_)
          clear hK K
          replace z0 := z0.putFar (b := w3.heap.size + 1) (by omega) (pC P).toList
          replace z1 := z1.put P
          replace z2 := z2.putFar (b := w3.heap.size + 1) (by omega) (pC P).toList
          (try simp only [Act.put, List.setIfInBounds_toArray, List.set_cons_zero, List.set_cons_succ, Array.toArray_toList, List.getElem_toArray, List.getElem_cons_succ, List.getElem_cons_zero])
          refine cut3 hHeld z0 z1 z2 ?_
          clear hHeld z0 z1 z2
          intro W hHeld z0 z1 z2
          refine wpAnyH_done (by kernel_rfl) ?_ _
          go_wp2_with fail
          go_meet
          exact ⟨w3.heap.size, w3.heap.size + 1 + 1, w3.heap.size + 1, rfl, rfl, rfl, hHeld.1, hHeld.2, z0, z2, z1, by omega, by omega, by omega, by omega, by omega, by omega⟩
    · rw [if_pos (by rfl)]
      go_simp
      have z0 := PBlk.new (w3.drew) (fun _ => 0)
      refine hK.out _ _ (KP.keep hHeld ((Below.refl _ _).alloc (Nat.le_refl _) _)) (fun hHeld => ?_)
      clear hK K
      (try simp only [Act.put, List.setIfInBounds_toArray, List.set_cons_zero, List.set_cons_succ, Array.toArray_toList, List.getElem_toArray, List.getElem_cons_succ, List.getElem_cons_zero])
      refine wpAnyH_ready (rs := [3, 5]) (by kernel_rfl) (by simp) ?_
      refine AllReadyH.cons rfl (fun K hK => ?_) (AllReadyH.cons rfl (fun K hK => ?_) (AllReadyH.nil))
      · rw [if_pos (by rfl)]
        go_simp
        replace z0 := z0.alloc (.cells (pC fun _ => 0) 26)
        have z1 := PBlk.new ((w3.drew.alloc (.cells (pC fun _ => 0) 26))) (fun _ => 0)
        refine hK.out _ _ (KP.keep hHeld ((Below.refl _ _).alloc (Nat.le_refl _) _)) (fun hHeld => ?_)
        clear hK K
        (try simp only [Act.put, List.setIfInBounds_toArray, List.set_cons_zero, List.set_cons_succ, Array.toArray_toList, List.getElem_toArray, List.getElem_cons_succ, List.getElem_cons_zero])
        refine wpAnyH_ready (rs := [5]) (by kernel_rfl) (by simp) ?_
        refine AllReadyH.cons rfl (fun K hK => ?_) (AllReadyH.nil)
        · rw [if_pos (by rfl)]
          go_simp
          replace z0 := z0.alloc (.cells (pC fun _ => 0) 26)
          replace z1 := z1.alloc (.cells (pC fun _ => 0) 26)
          have z2 := PBlk.new (((w3.drew.alloc (.cells (pC fun _ => 0) 26)).alloc (.cells (pC fun _ => 0) 26))) (fun _ => 0)
          refine hK.out _ _ (KP.keep hHeld ((Below.refl _ _).alloc (Nat.le_refl _) _)) (fun hHeld => ?_)
          clear hK K
          (try simp only [Act.put, List.setIfInBounds_toArray, List.set_cons_zero, List.set_cons_succ, Array.toArray_toList, List.getElem_toArray, List.getElem_cons_succ, List.getElem_cons_zero])
          simp only [World.size_alloc, World.size_drew] at z0 z1 z2
          refine cut3 hHeld z0 z1 z2 ?_
          clear hHeld z0 z1 z2
          intro W hHeld z0 z1 z2
          refine wpAnyH_ready (rs := [6]) (by kernel_rfl) (by simp) ?_
          refine AllReadyH.cons rfl (fun K hK => ?_) AllReadyH.nil
          rw [if_pos (by rfl)]
          refine wp_store_mid 26 _ _ rfl (w3.heap.size + 1) 0 (pC P) rfl rfl z1.there sizeP (pC_one _) ?_
          refine hK.out _ _ ⟨hHeld.1.putFar (by omega) _, below_setCells (by omega) _ _ _ hHeld.2⟩ (fun hHeld => ?_)
          clear hK K
          replace z0 := z0.putFar (b := w3.heap.size + 1) (by omega) (pC P).toList
          replace z1 := z1.put P
          replace z2 := z2.putFar (b := w3.heap.size + 1) (by omega) (pC P).toList
          (try simp only [Act.put, List.setIfInBounds_toArray, List.set_cons_zero, List.set_cons_succ, Array.toArray_toList, List.getElem_toArray, List.getElem_cons_succ, List.getElem_cons_zero])
          refine cut3 hHeld z0 z1 z2 ?_
          clear hHeld z0 z1 z2
          intro W hHeld z0 z1 z2
          refine wpAnyH_ready (rs := [7]) (by kernel_rfl) (by simp) ?_
          refine AllReadyH.cons rfl (fun K hK => ?_) AllReadyH.nil
          rw [if_pos (by rfl)]
          refine wp_store_mid 26 _ _ rfl (w3.heap.size) 0 (pC P) rfl rfl z0.there sizeP (pC_one _) ?_
          refine hK.out _ _ ⟨hHeld.1.putFar (by omega) _, below_setCells (by omega) _ _ _ hHeld.2⟩ (fun hHeld => ?_)
          clear hK K
          replace z0 := z0.put P
          replace z1 := z1.putFar (b := w3.heap.size) (by omega) (pC P).toList
          replace z2 := z2.putFar (b := w3.heap.size) (by omega) (pC P).toList
          (try simp only [Act.put, List.setIfInBounds_toArray, List.set_cons_zero, List.set_cons_succ, Array.toArray_toList, List.getElem_toArray, List.getElem_cons_succ, List.getElem_cons_zero])
          refine cut3 hHeld z0 z1 z2 ?_
          clear hHeld z0 z1 z2
          intro W hHeld z0 z1 z2
          refine wpAnyH_ready (rs := [8]) (by kernel_rfl) (by simp) ?_
          refine AllReadyH.cons rfl (fun K hK => ?_) AllReadyH.nil
          rw [if_pos (by rfl)]
          refine wp_store_mid 26 _ _ rfl (w3.heap.size + 1 + 1) 0 (pC P) rfl rfl z2.there sizeP (pC_one _) ?_
          refine hK.out _ _ ⟨hHeld.1.putFar (by omega) _, below_setCells (by omega) _ _ _ hHeld.2⟩ (fun hHeld => ?_)
          clear hK K
          replace z0 := z0.putFar (b := w3.heap.size + 1 + 1) (by omega) (pC P).toList
          replace z1 := z1.putFar (b := w3.heap.size + 1 + 1) (by omega) (pC P).toList
          replace z2 := z2.put P
          (try simp only [Act.put, List.setIfInBounds_toArray, List.set_cons_zero, List.set_cons_succ, Array.toArray_toList, List.getElem_toArray, List.getElem_cons_succ, List.getElem_cons_zero])
          refine cut3 hHeld z0 z1 z2 ?_
          clear hHeld z0 z1 z2
          intro W hHeld z0 z1 z2
          refine wpAnyH_done (by kernel_rfl) ?_ _
          go_wp2_with fail
          go_meet
          exact ⟨w3.heap.size + 1, w3.heap.size, w3.heap.size + 1 + 1, rfl, rfl, rfl, hHeld.1, hHeld.2, z1, z0, z2, by omega, by omega, by omega, by omega, by omega, by omega⟩
      · rw [if_pos (by rfl)]
        go_simp
        replace z0 := z0.alloc (.cells (pC fun _ => 0) 26)
        have z1 := PBlk.new ((w3.drew.alloc (.cells (pC fun _ => 0) 26))) (fun _ => 0)
        refine hK.out _ _ (KP.keep hHeld ((Below.refl _ _).alloc (Nat.le_refl _) _)) (fun hHeld => ?_)
        clear hK K
        (try simp only [Act.put, List.setIfInBounds_toArray, List.set_cons_zero, List.set_cons_succ, Array.toArray_toList, List.getElem_toArray, List.getElem_cons_succ, List.getElem_cons_zero])
        refine wpAnyH_ready (rs := [3]) (by kernel_rfl) (by simp) ?_
        refine AllReadyH.cons rfl (fun K hK => ?_) (AllReadyH.nil)
        · rw [if_pos (by rfl)]
          go_simp
          replace z0 := z0.alloc (.cells (pC fun _ => 0) 26)
          replace z1 := z1.alloc (.cells (pC fun _ => 0) 26)
          have z2 := PBlk.new (((w3.drew.alloc (.cells (pC fun _ => 0) 26)).alloc (.cells (pC fun _ => 0) 26))) (fun _ => 0)
          refine hK.out _ _ (KP.keep hHeld ((Below.refl _ _).alloc (Nat.le_refl _) _)) (fun hHeld => ?_)
          clear hK K
          (try simp only [Act.put, List.setIfInBounds_toArray, List.set_cons_zero, List.set_cons_succ, Array.toArray_toList, List.getElem_toArray, List.getElem_cons_succ, List.getElem_cons_zero])
          simp only [World.size_alloc, World.size_drew] at z0 z1 z2
          refine cut3 hHeld z0 z1 z2 ?_
          clear hHeld z0 z1 z2
          intro W hHeld z0 z1 z2
          refine wpAnyH_ready (rs := [6]) (by kernel_rfl) (by simp) ?_
          refine AllReadyH.cons rfl (fun K hK => ?_) AllReadyH.nil
          rw [if_pos (by rfl)]
          refine wp_store_mid 26 _ _ rfl (w3.heap.size + 1 + 1) 0 (pC P) rfl rfl z2.there sizeP (pC_one _) ?_
          refine hK.out _ _ ⟨hHeld.1.putFar (by omega) _, below_setCells (by omega) _ _ _ hHeld.2⟩ (fun hHeld => ?_)
          clear hK K
          replace z0 := z0.putFar (b := w3.heap.size + 1 + 1) (by omega) (pC P).toList
          replace z1 := z1.putFar (b := w3.heap.size + 1 + 1) (by omega) (pC P).toList
          replace z2 := z2.put P
          (try simp only [Act.put, List.setIfInBounds_toArray, List.set_cons_zero, List.set_cons_succ, Array.toArray_toList, List.getElem_toArray, List.getElem_cons_succ, List.getElem_cons_zero])
          refine cut3 hHeld z0 z1 z2 ?_
          clear hHeld z0 z1 z2
          intro W hHeld z0 z1 z2
          refine wpAnyH_ready (rs := [7]) (by kernel_rfl) (by simp) ?_
          refine AllReadyH.cons rfl (fun K hK => ?_) AllReadyH.nil
          rw [if_pos (by rfl)]
          refine wp_store_mid 26 _ _ rfl (w3.heap.size) 0 (pC P) rfl rfl z0.there sizeP (pC_one _) ?_
          refine hK.out _ _ ⟨hHeld.1.putFar (by omega) _, below_setCells (by omega) _ _ _ hHeld.2⟩ (fun hHeld => ?_)
          clear hK K
          replace z0 := z0.put P
          replace z1 := z1.putFar (b := w3.heap.size) (by omega) (pC P).toList
          replace z2 := z2.putFar (b := w3.heap.size) (by omega) (pC P).toList
          (try simp only [Act.put, List.setIfInBounds_toArray, List.set_cons_zero, List.set_cons_succ, Array.toArray_toList, List.getElem_toArray, List.getElem_cons_succ, List.getElem_cons_zero])
          refine cut3 hHeld z0 z1 z2 ?_
          clear hHeld z0 z1 z2
          intro W hHeld z0 z1 z2
          refine wpAnyH_ready (rs := [8]) (by kernel_rfl) (by simp) ?_
          refine AllReadyH.cons rfl (fun K hK => ?_) AllReadyH.nil
          rw [if_pos (by rfl)]
          refine wp_store_mid 26 _ _ rfl (w3.heap.size + 1) 0 (pC P) rfl rfl z1.there sizeP (pC_one _) ?_
          refine hK.out _ _ ⟨hHeld.1.putFar (by omega) _, below_setCells (by omega) _ _ _ hHeld.2⟩ (fun hHeld => ?_)
          clear hK K
          replace z0 := z0.putFar (b := w3.heap.size + 1) (by omega) (pC P).toList
          replace z1 := z1.put P
          replace z2 := z2.putFar (b := w3.heap.size + 1) (by omega) (pC P).toList
          (try simp only [Act.put, List.setIfInBounds_toArray, List.set_cons_zero, List.set_cons_succ, Array.toArray_toList, List.getElem_toArray, List.getElem_cons_succ, List.getElem_cons_zero])
          refine cut3 hHeld z0 z1 z2 ?_
          clear hHeld z0 z1 z2
          intro W hHeld z0 z1 z2
          refine wpAnyH_done (by kernel_rfl) ?_ _
          go_wp2_with fail
          go_meet
          exact ⟨w3.heap.size + 1 + 1, w3.heap.size, w3.heap.size + 1, rfl, rfl, rfl, hHeld.1, hHeld.2, z2, z0, z1, by omega, by omega, by omega, by omega, by omega, by omega⟩
    · rw [if_pos (by rfl)]
      go_simp
      have z0 := PBlk.new (w3.drew) (fun _ => 0)
      refine hK.out _ _ (KP.keep hHeld ((Below.refl _ _).alloc (Nat.le_refl _) _)) (fun hHeld => ?_)
      clear hK K
      (try simp only [Act.put, List.setIfInBounds_toArray, List.set_cons_zero, List.set_cons_succ, Array.toArray_toList, List.getElem_toArray, List.getElem_cons_succ, List.getElem_cons_zero])
      refine wpAnyH_ready (rs := [3, 4]) (by kernel_rfl) (by simp) ?_
      refine AllReadyH.cons rfl (fun K hK => ?_) (AllReadyH.cons rfl (fun K hK => ?_) (AllReadyH.nil))
      · rw [if_pos (by rfl)]
        go_simp
        replace z0 := z0.alloc (.cells (pC fun _ => 0) 26)
        have z1 := PBlk.new ((w3.drew.alloc (.cells (pC fun _ => 0) 26))) (fun _ => 0)
        refine hK.out _ _ (KP.keep hHeld ((Below.refl _ _).alloc (Nat.le_refl _) _)) (fun hHeld => ?_)
        clear hK K
        (try simp only [Act.put, List.setIfInBounds_toArray, List.set_cons_zero, List.set_cons_succ, Array.toArray_toList, List.getElem_toArray, List.getElem_cons_succ, List.getElem_cons_zero])
        refine wpAnyH_ready (rs := [4]) (by kernel_rfl) (by simp) ?_
        refine AllReadyH.cons rfl (fun K hK => ?_) (AllReadyH.nil)
        · rw [if_pos (by rfl)]
          go_simp
          replace z0 := z0.alloc (.cells (pC fun _ => 0) 26)
          replace z1 := z1.alloc (.cells (pC fun _ => 0) 26)
          have z2 := PBlk.new (((w3.drew.alloc (.cells (pC fun _ => 0) 26)).alloc (.cells (pC fun _ => 0) 26))) (fun _ => 0)
          refine hK.out _ _ (KP.keep hHeld ((Below.refl _ _).alloc (Nat.le_refl _) _)) (fun hHeld => ?_)
          clear hK K
          (try simp only [Act.put, List.setIfInBounds_toArray, List.set_cons_zero, List.set_cons_succ, Array.toArray_toList, List.getElem_toArray, List.getElem_cons_succ, List.getElem_cons_zero])
          simp only [World.size_alloc, World.size_drew] at z0 z1 z2
          refine cut3 hHeld z0 z1 z2 ?_
          clear hHeld z0 z1 z2
          intro W hHeld z0 z1 z2
          refine wpAnyH_ready (rs := [6]) (by kernel_rfl) (by simp) ?_
          refine AllReadyH.cons rfl (fun K hK => ?_) AllReadyH.nil
          rw [if_pos (by rfl)]
          refine wp_store_mid 26 _ _ rfl (w3.heap.size + 1) 0 (pC P) rfl rfl z1.there sizeP (pC_one _) ?_
          refine hK.out _ _ ⟨hHeld.1.putFar (by omega) _, below_setCells (by omega) _ _ _ hHeld.2⟩ (fun hHeld => ?_)
          clear hK K
          replace z0 := z0.putFar (b := w3.heap.size + 1) (by omega) (pC P).toList
          replace z1 := z1.put P
          replace z2 := z2.putFar (b := w3.heap.size + 1) (by omega) (pC P).toList
          (try simp only [Act.put, List.setIfInBounds_toArray, List.set_cons_zero, List.set_cons_succ, Array.toArray_toList, List.getElem_toArray, List.getElem_cons_succ, List.getElem_cons_zero])
          refine cut3 hHeld z0 z1 z2 ?_
          clear hHeld z0 z1 z2
          intro W hHeld z0 z1 z2
          refine wpAnyH_ready (rs := [7]) (by kernel_rfl) (by simp) ?_
          refine AllReadyH.cons rfl (fun K hK => ?_) AllReadyH.nil
          rw [if_pos (by rfl)]
          refine wp_store_mid 26 _ _ rfl (w3.heap.size + 1 + 1) 0 (pC P) rfl rfl z2.there sizeP (pC_one _) ?_
          refine hK.out _ _ ⟨hHeld.1.putFar (by omega) _, below_setCells (by omega) _ _ _ hHeld.2⟩ (fun hHeld => ?_)
          clear hK K
          replace z0 := z0.putFar (b := w3.heap.size + 1 + 1) (by omega) (pC P).toList
          replace z1 := z1.putFar (b := w3.heap.size + 1 + 1) (by omega) (pC P).toList
          replace z2 := z2.put P
          (try simp only [Act.put, List.setIfInBounds_toArray, List.set_cons_zero, List.set_cons_succ, Array.toArray_toList, List.getElem_toArray, List.getElem_cons_succ, List.getElem_cons_zero])
          refine cut3 hHeld z0 z1 z2 ?_
          clear hHeld z0 z1 z2
          intro W hHeld z0 z1 z2
          refine wpAnyH_ready (rs := [8]) (by kernel_rfl) (by simp) ?_
          refine AllReadyH.cons rfl (fun K hK => ?_) AllReadyH.nil
          rw [if_pos (by rfl)]
          refine wp_store_mid 26 _ _ rfl (w3.heap.size) 0 (pC P) rfl rfl z0.there sizeP (pC_one _) ?_
          refine hK.out _ _ ⟨hHeld.1.putFar (by omega) _, below_setCells (by omega) _ _ _ hHeld.2⟩ (fun hHeld => ?_)
          clear hK K
          replace z0 := z0.put P
          replace z1 := z1.putFar (b := w3.heap.size) (by omega) (pC P).toList
          replace z2 := z2.putFar (b := w3.heap.size) (by omega) (pC P).toList
          (try simp only [Act.put, List.setIfInBounds_toArray, List.set_cons_zero, List.set_cons_succ, Array.toArray_toList, List.getElem_toArray, List.getElem_cons_succ, List.getElem_cons_zero])
          refine cut3 hHeld z0 z1 z2 ?_
          clear hHeld z0 z1 z2
          intro W hHeld z0 z1 z2
          refine wpAnyH_done (by kernel_rfl) ?_ _
          go_wp2_with fail
          go_meet
          exact ⟨w3.heap.size + 1, w3.heap.size + 1 + 1, w3.heap.size, rfl, rfl, rfl, hHeld.1, hHeld.2, z1, z2, z0, by omega, by omega, by omega, by omega, by omega, by omega⟩
      · rw [if_pos (by rfl)]
        go_simp
        replace z0 := z0.alloc (.cells (pC fun _ => 0) 26)
        have z1 := PBlk.new ((w3.drew.alloc (.cells (pC fun _ => 0) 26))) (fun _ => 0)
        refine hK.out _ _ (KP.keep hHeld ((Below.refl _ _).alloc (Nat.le_refl _) _)) (fun hHeld => ?_)
        clear hK K
        (try simp only [Act.put, List.setIfInBounds_toArray, List.set_cons_zero, List.set_cons_succ, Array.toArray_toList, List.getElem_toArray, List.getElem_cons_succ, List.getElem_cons_zero])
        refine wpAnyH_ready (rs := [3]) (by kernel_rfl) (by simp) ?_
        refine AllReadyH.cons rfl (fun K hK => ?_) (AllReadyH.nil)
        · rw [if_pos (by rfl)]
          go_simp
          replace z0 := z0.alloc (.cells (pC fun _ => 0) 26)
          replace z1 := z1.alloc (.cells (pC fun _ => 0) 26)
          have z2 := PBlk.new (((w3.drew.alloc (.cells (pC fun _ => 0) 26)).alloc (.cells (pC fun _ => 0) 26))) (fun _ => 0)
          refine hK.out _ _ (KP.keep hHeld ((Below.refl _ _).alloc (Nat.le_refl _) _)) (fun hHeld => ?_)
          clear hK K
          (try simp only [Act.put, List.setIfInBounds_toArray, List.set_cons_zero, List.set_cons_succ, Array.toArray_toList, List.getElem_toArray, List.getElem_cons_succ, List.getElem_cons_zero])
          simp only [World.size_alloc, World.size_drew] at z0 z1 z2
          refine cut3 hHeld z0 z1 z2 ?_
          clear hHeld z0 z1 z2
          intro W hHeld z0 z1 z2
          refine wpAnyH_ready (rs := [6]) (by kernel_rfl) (by simp) ?_
          refine AllReadyH.cons rfl (fun K hK => ?_) AllReadyH.nil
          rw [if_pos (by rfl)]
          refine wp_store_mid 26 _ _ rfl (w3.heap.size + 1 + 1) 0 (pC P) rfl rfl z2.there sizeP (pC_one _) ?_
          refine hK.out _ _ ⟨hHeld.1.putFar (by omega) _, below_setCells (by omega) _ _ _ hHeld.2⟩ (fun hHeld => ?_)
          clear hK K
          replace z0 := z0.putFar (b := w3.heap.size + 1 + 1) (by omega) (pC P).toList
          replace z1 := z1.putFar (b := w3.heap.size + 1 + 1) (by omega) (pC P).toList
          replace z2 := z2.put P
          (try simp only [Act.put, List.setIfInBounds_toArray, List.set_cons_zero, List.set_cons_succ, Array.toArray_toList, List.getElem_toArray, List.getElem_cons_succ, List.getElem_cons_zero])
          refine cut3 hHeld z0 z1 z2 ?_
          clear hHeld z0 z1 z2
          intro W hHeld z0 z1 z2
          refine wpAnyH_ready (rs := [7]) (by kernel_rfl) (by simp) ?_
          refine AllReadyH.cons rfl (fun K hK => ?_) AllReadyH.nil
          rw [if_pos (by rfl)]
          refine wp_store_mid 26 _ _ rfl (w3.heap.size + 1) 0 (pC P) rfl rfl z1.there sizeP (pC_one _) ?_
          refine hK.out _ _ ⟨hHeld.1.putFar (by omega) _, below_setCells (by omega) _ _ _ hHeld.2⟩ (fun hHeld => ?_)
          clear hK K
          replace z0 := z0.putFar (b := w3.heap.size + 1) (by omega) (pC P).toList
          replace z1 := z1.put P
          replace z2 := z2.putFar (b := w3.heap.size + 1) (by omega) (pC P).toList
          (try simp only [Act.put, List.setIfInBounds_toArray, List.set_cons_zero, List.set_cons_succ, Array.toArray_toList, List.getElem_toArray, List.getElem_cons_succ, List.getElem_cons_zero])
          refine cut3 hHeld z0 z1 z2 ?_
          clear hHeld z0 z1 z2
          intro W hHeld z0 z1 z2
          refine wpAnyH_ready (rs := [8]) (by kernel_rfl) (by simp) ?_
          refine AllReadyH.cons rfl (fun K hK => ?_) AllReadyH.nil
          rw [if_pos (by rfl)]
          refine wp_store_mid 26 _ _ rfl (w3.heap.size) 0 (pC P) rfl rfl z0.there sizeP (pC_one _) ?_
          refine hK.out _ _ ⟨hHeld.1.putFar (by omega) _, below_setCells (by omega) _ _ _ hHeld.2⟩ (fun hHeld => ?_)
          clear hK K
          replace z0 := z0.put P
          replace z1 := z1.putFar (b := w3.heap.size) (by omega) (pC P).toList
          replace z2 := z2.putFar (b := w3.heap.size) (by omega) (pC P).toList
          (try simp only [Act.put, List.setIfInBounds_toArray, List.set_cons_zero, List.set_cons_succ, Array.toArray_toList, List.getElem_toArray, List.getElem_cons_succ, List.getElem_cons_zero])
          refine cut3 hHeld z0 z1 z2 ?_
          clear hHeld z0 z1 z2
          intro W hHeld z0 z1 z2
          refine wpAnyH_done (by kernel_rfl) ?_ _
          go_wp2_with fail
          go_meet
          exact ⟨w3.heap.size + 1 + 1, w3.heap.size + 1, w3.heap.size, rfl, rfl, rfl, hHeld.1, hHeld.2, z2, z1, z0, by omega, by omega, by omega, by omega, by omega, by omega⟩
  case rest =>
    obtain ⟨g8, g9, g10, rfl, rfl, rfl, hp, hb, k8, k9, k10, d1, d2, d3, d4, d5, d6⟩ := hcut
    have hB2 := hide (hB.out.trans (hb.mono hB.out.size))
    have hm := (HM3.out.trans (hb.mono HM3.out.size))
    obtain ⟨c0, c1, c2⟩ := HM1.out
    have q0 := (hm.cell (p := ⟨w.heap.size + 1, 0, none⟩) (by dsimp only; omega)).trans c0
    have q1 := (hm.cell (p := ⟨w.heap.size + 1, 1, none⟩) (by dsimp only; omega)).trans c1
    have q2 := (hm.cell (p := ⟨w.heap.size + 1, 2, none⟩) (by dsimp only; omega)).trans c2
    have HP := hide hp
    have H8 := hide k8
    have H9 := hide k9
    have H10 := hide k10
    have s1 := hp.cell (i := 1) (by omega)
    have s2 := hp.cell (i := 2) (by omega)
    have s3 := hp.cell (i := 3) (by omega)
    have t1 := k8.cell (i := 1) (by omega)
    have f1 := k8.free 1
    have t2 := k9.cell (i := 2) (by omega)
    have f2 := k9.free 2
    have t3 := k10.cell (i := 3) (by omega)
    have f3 := k10.free 3
    have t4 := k10.cell (i := 4) (by omega)
    have f4 := k10.free 4
    have t5 := k10.cell (i := 5) (by omega)
    have f5 := k10.free 5
    have t6 := k10.cell (i := 6) (by omega)
    have f6 := k10.free 6
    have d1' := d1.symm
    have d2' := d2.symm
    have d3' := d3.symm
    have hu0 := hu 0
    have hu1 := hu 1
    have hu2 := hu 2
    have e8 : ¬ (g8 = w1.heap.size) := by omega
    have e9 : ¬ (g9 = w1.heap.size) := by omega
    have e10 : ¬ (g10 = w1.heap.size) := by omega
    have e8' : ¬ (g8 = w.heap.size + 1) := by omega
    have e9' : ¬ (g9 = w.heap.size + 1) := by omega
    have e10' : ¬ (g10 = w.heap.size + 1) := by omega
    clear hp hb k8 k9 k10 hm c0 c1 c2 HM1 HM3 hB HB1
    go_upto_region 6 with fail
    refine cut4 (w := w) (g := w1.heap.size) (g8 := g8) (g9 := g9) (g10 := g10) (P := P) (Q := st1 P 1 x1) (R := st1 P 2 x2) (T := st4 P x3) ((((((hB2.out.setCell (by dsimp only; omega) _).setCell (by dsimp only; omega) _).setCell (by dsimp only; omega) _).setCell (by dsimp only; omega) _).setCell (by dsimp only; omega) _).setCell (by dsimp only; omega) _) ((((((HP.out.far (by omega) _).far (by omega) _).far (by omega) _).far (by omega) _).far (by omega) _).far (by omega) _) ((((((H8.out.st (by omega) x1).far (by omega) _).far (by omega) _).far (by omega) _).far (by omega) _).far (by omega) _) ((((((H9.out.far (by omega) _).st (by omega) x2).far (by omega) _).far (by omega) _).far (by omega) _).far (by omega) _) ((((((H10.out.far (by omega) _).far (by omega) _).st (by omega) x3).st (by omega) 0).st (by omega) 0).st (by omega) 0) ?_
    rw [EQ.out, ER.out, ET.out]
    clear HP H8 H9 H10 hB2 s1 s2 s3 t1 f1 t2 f2 t3 f3 t4 f4 t5 f5 t6 f6 q0 q1 q2 hu0 hu1 hu2 l1 l2 l3 EQ ER ET
    intro W hB HP H8 H9 H10
    have hl1 := HP.out.lt
    have hl2 := H8.out.lt
    have hl3 := H9.out.lt
    have hl4 := H10.out.lt
    go_wp2_with (refine wpList_load_row26 (P := P) rfl _ rfl (g := w1.heap.size) rfl (by (repeat' (first | exact HP.out | (with_reducible refine PBlk.alloc ?_ _) | (with_reducible refine PBlk.drew ?_) | (refine PBlk.far ?_ (by omega) _)))) ?_)
    refine (HF0.out _).mono ?_
    rintro e w2 ⟨rfl, hb2⟩
    have hs2 := hb2.size
    try simp only [World.size_alloc, World.size_setCell, World.size_drew, size_drewN] at hs2
    replace H8 := hide (PBlk.below (P := Q) (g := g8) (by (repeat' (first | exact H8.out | (with_reducible refine PBlk.alloc ?_ _) | (with_reducible refine PBlk.drew ?_) | (refine PBlk.far ?_ (by omega) _)))) hb2 (by first | assumption | omega | (simp only [World.size_alloc, World.size_setCell, World.size_drew, size_drewN]; omega)))
    have hlt_H8_2 := H8.out.lt
    replace H9 := hide (PBlk.below (P := R) (g := g9) (by (repeat' (first | exact H9.out | (with_reducible refine PBlk.alloc ?_ _) | (with_reducible refine PBlk.drew ?_) | (refine PBlk.far ?_ (by omega) _)))) hb2 (by first | assumption | omega | (simp only [World.size_alloc, World.size_setCell, World.size_drew, size_drewN]; omega)))
    have hlt_H9_2 := H9.out.lt
    replace H10 := hide (PBlk.below (P := T) (g := g10) (by (repeat' (first | exact H10.out | (with_reducible refine PBlk.alloc ?_ _) | (with_reducible refine PBlk.drew ?_) | (refine PBlk.far ?_ (by omega) _)))) hb2 (by first | assumption | omega | (simp only [World.size_alloc, World.size_setCell, World.size_drew, size_drewN]; omega)))
    have hlt_H10_2 := H10.out.lt
    go_wp2_with (refine wpList_load_row26 (P := Q) rfl _ rfl (g := g8) rfl (by (repeat' (first | exact H8.out | (with_reducible refine PBlk.alloc ?_ _) | (with_reducible refine PBlk.drew ?_) | (refine PBlk.far ?_ (by omega) _)))) ?_)
    refine (HF1.out _).mono ?_
    rintro e w3 ⟨rfl, hb3⟩
    have hs3 := hb3.size
    try simp only [World.size_alloc, World.size_setCell, World.size_drew, size_drewN] at hs3
    have hc3_0 : ∀ o, w3.cell? ⟨w2.heap.size, o, none⟩ = _ := fun o => hb3.cell (p := ⟨w2.heap.size, o, none⟩) (by ((try simp only [World.size_alloc, World.size_setCell, World.size_drew, size_drewN]); omega))
    have hf3_0 : ∀ o, w3.frozen? ⟨w2.heap.size, o, none⟩ = _ := fun o => hb3.frozen (p := ⟨w2.heap.size, o, none⟩) (by ((try simp only [World.size_alloc, World.size_setCell, World.size_drew, size_drewN]); omega))
    have z3_0 : w2.heap.size < w3.heap.size := (by omega)
    replace H9 := hide (PBlk.below (P := R) (g := g9) (by (repeat' (first | exact H9.out | (with_reducible refine PBlk.alloc ?_ _) | (with_reducible refine PBlk.drew ?_) | (refine PBlk.far ?_ (by omega) _)))) hb3 (by first | assumption | omega | (simp only [World.size_alloc, World.size_setCell, World.size_drew, size_drewN]; omega)))
    have hlt_H9_3 := H9.out.lt
    replace H10 := hide (PBlk.below (P := T) (g := g10) (by (repeat' (first | exact H10.out | (with_reducible refine PBlk.alloc ?_ _) | (with_reducible refine PBlk.drew ?_) | (refine PBlk.far ?_ (by omega) _)))) hb3 (by first | assumption | omega | (simp only [World.size_alloc, World.size_setCell, World.size_drew, size_drewN]; omega)))
    have hlt_H10_3 := H10.out.lt
    go_wp2_with (refine wpList_load_row26 (P := R) rfl _ rfl (g := g9) rfl (by (repeat' (first | exact H9.out | (with_reducible refine PBlk.alloc ?_ _) | (with_reducible refine PBlk.drew ?_) | (refine PBlk.far ?_ (by omega) _)))) ?_)
    refine (HF2.out _).mono ?_
    rintro e w4 ⟨rfl, hb4⟩
    have hs4 := hb4.size
    try simp only [World.size_alloc, World.size_setCell, World.size_drew, size_drewN] at hs4
    have hc4_0 : ∀ o, w4.cell? ⟨w2.heap.size, o, none⟩ = _ := fun o => hb4.cell (p := ⟨w2.heap.size, o, none⟩) (by ((try simp only [World.size_alloc, World.size_setCell, World.size_drew, size_drewN]); omega))
    have hf4_0 : ∀ o, w4.frozen? ⟨w2.heap.size, o, none⟩ = _ := fun o => hb4.frozen (p := ⟨w2.heap.size, o, none⟩) (by ((try simp only [World.size_alloc, World.size_setCell, World.size_drew, size_drewN]); omega))
    have z4_0 : w2.heap.size < w4.heap.size := (by omega)
    have hc4_1 : ∀ o, w4.cell? ⟨w3.heap.size, o, none⟩ = _ := fun o => hb4.cell (p := ⟨w3.heap.size, o, none⟩) (by ((try simp only [World.size_alloc, World.size_setCell, World.size_drew, size_drewN]); omega))
    have hf4_1 : ∀ o, w4.frozen? ⟨w3.heap.size, o, none⟩ = _ := fun o => hb4.frozen (p := ⟨w3.heap.size, o, none⟩) (by ((try simp only [World.size_alloc, World.size_setCell, World.size_drew, size_drewN]); omega))
    have z4_1 : w3.heap.size < w4.heap.size := (by omega)
    replace H10 := hide (PBlk.below (P := T) (g := g10) (by (repeat' (first | exact H10.out | (with_reducible refine PBlk.alloc ?_ _) | (with_reducible refine PBlk.drew ?_) | (refine PBlk.far ?_ (by omega) _)))) hb4 (by first | assumption | omega | (simp only [World.size_alloc, World.size_setCell, World.size_drew, size_drewN]; omega)))
    have hlt_H10_4 := H10.out.lt
    go_wp2_with (refine wpList_load_row26 (P := T) rfl _ rfl (g := g10) rfl (by (repeat' (first | exact H10.out | (with_reducible refine PBlk.alloc ?_ _) | (with_reducible refine PBlk.drew ?_) | (refine PBlk.far ?_ (by omega) _)))) ?_)
    refine (HF3.out _).mono ?_
    rintro e w5 ⟨rfl, hb5⟩
    have hs5 := hb5.size
    try simp only [World.size_alloc, World.size_setCell, World.size_drew, size_drewN] at hs5
    have hc5_0 : ∀ o, w5.cell? ⟨w2.heap.size, o, none⟩ = _ := fun o => hb5.cell (p := ⟨w2.heap.size, o, none⟩) (by ((try simp only [World.size_alloc, World.size_setCell, World.size_drew, size_drewN]); omega))
    have hf5_0 : ∀ o, w5.frozen? ⟨w2.heap.size, o, none⟩ = _ := fun o => hb5.frozen (p := ⟨w2.heap.size, o, none⟩) (by ((try simp only [World.size_alloc, World.size_setCell, World.size_drew, size_drewN]); omega))
    have z5_0 : w2.heap.size < w5.heap.size := (by omega)
    have hc5_1 : ∀ o, w5.cell? ⟨w3.heap.size, o, none⟩ = _ := fun o => hb5.cell (p := ⟨w3.heap.size, o, none⟩) (by ((try simp only [World.size_alloc, World.size_setCell, World.size_drew, size_drewN]); omega))
    have hf5_1 : ∀ o, w5.frozen? ⟨w3.heap.size, o, none⟩ = _ := fun o => hb5.frozen (p := ⟨w3.heap.size, o, none⟩) (by ((try simp only [World.size_alloc, World.size_setCell, World.size_drew, size_drewN]); omega))
    have z5_1 : w3.heap.size < w5.heap.size := (by omega)
    have hc5_2 : ∀ o, w5.cell? ⟨w4.heap.size, o, none⟩ = _ := fun o => hb5.cell (p := ⟨w4.heap.size, o, none⟩) (by ((try simp only [World.size_alloc, World.size_setCell, World.size_drew, size_drewN]); omega))
    have hf5_2 : ∀ o, w5.frozen? ⟨w4.heap.size, o, none⟩ = _ := fun o => hb5.frozen (p := ⟨w4.heap.size, o, none⟩) (by ((try simp only [World.size_alloc, World.size_setCell, World.size_drew, size_drewN]); omega))
    have z5_2 : w4.heap.size < w5.heap.size := (by omega)
    go_wp2_with fail
    refine (HC1.out _).mono ?_
    rintro e w6 ⟨rfl, hb6⟩
    have hs6 := hb6.size
    try simp only [World.size_alloc, World.size_setCell, World.size_drew, size_drewN] at hs6
    have hc6_0 : ∀ o, w6.cell? ⟨w2.heap.size, o, none⟩ = _ := fun o => hb6.cell (p := ⟨w2.heap.size, o, none⟩) (by ((try simp only [World.size_alloc, World.size_setCell, World.size_drew, size_drewN]); omega))
    have hf6_0 : ∀ o, w6.frozen? ⟨w2.heap.size, o, none⟩ = _ := fun o => hb6.frozen (p := ⟨w2.heap.size, o, none⟩) (by ((try simp only [World.size_alloc, World.size_setCell, World.size_drew, size_drewN]); omega))
    have z6_0 : w2.heap.size < w6.heap.size := (by omega)
    have hc6_1 : ∀ o, w6.cell? ⟨w3.heap.size, o, none⟩ = _ := fun o => hb6.cell (p := ⟨w3.heap.size, o, none⟩) (by ((try simp only [World.size_alloc, World.size_setCell, World.size_drew, size_drewN]); omega))
    have hf6_1 : ∀ o, w6.frozen? ⟨w3.heap.size, o, none⟩ = _ := fun o => hb6.frozen (p := ⟨w3.heap.size, o, none⟩) (by ((try simp only [World.size_alloc, World.size_setCell, World.size_drew, size_drewN]); omega))
    have z6_1 : w3.heap.size < w6.heap.size := (by omega)
    have hc6_2 : ∀ o, w6.cell? ⟨w4.heap.size, o, none⟩ = _ := fun o => hb6.cell (p := ⟨w4.heap.size, o, none⟩) (by ((try simp only [World.size_alloc, World.size_setCell, World.size_drew, size_drewN]); omega))
    have hf6_2 : ∀ o, w6.frozen? ⟨w4.heap.size, o, none⟩ = _ := fun o => hb6.frozen (p := ⟨w4.heap.size, o, none⟩) (by ((try simp only [World.size_alloc, World.size_setCell, World.size_drew, size_drewN]); omega))
    have z6_2 : w4.heap.size < w6.heap.size := (by omega)
    have hc6_3 : ∀ o, w6.cell? ⟨w5.heap.size, o, none⟩ = _ := fun o => hb6.cell (p := ⟨w5.heap.size, o, none⟩) (by ((try simp only [World.size_alloc, World.size_setCell, World.size_drew, size_drewN]); omega))
    have hf6_3 : ∀ o, w6.frozen? ⟨w5.heap.size, o, none⟩ = _ := fun o => hb6.frozen (p := ⟨w5.heap.size, o, none⟩) (by ((try simp only [World.size_alloc, World.size_setCell, World.size_drew, size_drewN]); omega))
    have z6_3 : w5.heap.size < w6.heap.size := (by omega)
    go_wp2_with fail
    refine (HC2.out _).mono ?_
    rintro e w7 ⟨rfl, hb7⟩
    have hs7 := hb7.size
    try simp only [World.size_alloc, World.size_setCell, World.size_drew, size_drewN] at hs7
    have hc7_0 : ∀ o, w7.cell? ⟨w2.heap.size, o, none⟩ = _ := fun o => hb7.cell (p := ⟨w2.heap.size, o, none⟩) (by ((try simp only [World.size_alloc, World.size_setCell, World.size_drew, size_drewN]); omega))
    have hf7_0 : ∀ o, w7.frozen? ⟨w2.heap.size, o, none⟩ = _ := fun o => hb7.frozen (p := ⟨w2.heap.size, o, none⟩) (by ((try simp only [World.size_alloc, World.size_setCell, World.size_drew, size_drewN]); omega))
    have z7_0 : w2.heap.size < w7.heap.size := (by omega)
    have hc7_1 : ∀ o, w7.cell? ⟨w3.heap.size, o, none⟩ = _ := fun o => hb7.cell (p := ⟨w3.heap.size, o, none⟩) (by ((try simp only [World.size_alloc, World.size_setCell, World.size_drew, size_drewN]); omega))
    have hf7_1 : ∀ o, w7.frozen? ⟨w3.heap.size, o, none⟩ = _ := fun o => hb7.frozen (p := ⟨w3.heap.size, o, none⟩) (by ((try simp only [World.size_alloc, World.size_setCell, World.size_drew, size_drewN]); omega))
    have z7_1 : w3.heap.size < w7.heap.size := (by omega)
    have hc7_2 : ∀ o, w7.cell? ⟨w4.heap.size, o, none⟩ = _ := fun o => hb7.cell (p := ⟨w4.heap.size, o, none⟩) (by ((try simp only [World.size_alloc, World.size_setCell, World.size_drew, size_drewN]); omega))
    have hf7_2 : ∀ o, w7.frozen? ⟨w4.heap.size, o, none⟩ = _ := fun o => hb7.frozen (p := ⟨w4.heap.size, o, none⟩) (by ((try simp only [World.size_alloc, World.size_setCell, World.size_drew, size_drewN]); omega))
    have z7_2 : w4.heap.size < w7.heap.size := (by omega)
    have hc7_3 : ∀ o, w7.cell? ⟨w5.heap.size, o, none⟩ = _ := fun o => hb7.cell (p := ⟨w5.heap.size, o, none⟩) (by ((try simp only [World.size_alloc, World.size_setCell, World.size_drew, size_drewN]); omega))
    have hf7_3 : ∀ o, w7.frozen? ⟨w5.heap.size, o, none⟩ = _ := fun o => hb7.frozen (p := ⟨w5.heap.size, o, none⟩) (by ((try simp only [World.size_alloc, World.size_setCell, World.size_drew, size_drewN]); omega))
    have z7_3 : w5.heap.size < w7.heap.size := (by omega)
    go_wp2_with fail
    refine (HC3.out _).mono ?_
    rintro e w8 ⟨rfl, hb8⟩
    have hs8 := hb8.size
    try simp only [World.size_alloc, World.size_setCell, World.size_drew, size_drewN] at hs8
    have hc8_0 : ∀ o, w8.cell? ⟨w2.heap.size, o, none⟩ = _ := fun o => hb8.cell (p := ⟨w2.heap.size, o, none⟩) (by ((try simp only [World.size_alloc, World.size_setCell, World.size_drew, size_drewN]); omega))
    have hf8_0 : ∀ o, w8.frozen? ⟨w2.heap.size, o, none⟩ = _ := fun o => hb8.frozen (p := ⟨w2.heap.size, o, none⟩) (by ((try simp only [World.size_alloc, World.size_setCell, World.size_drew, size_drewN]); omega))
    have z8_0 : w2.heap.size < w8.heap.size := (by omega)
    have hc8_1 : ∀ o, w8.cell? ⟨w3.heap.size, o, none⟩ = _ := fun o => hb8.cell (p := ⟨w3.heap.size, o, none⟩) (by ((try simp only [World.size_alloc, World.size_setCell, World.size_drew, size_drewN]); omega))
    have hf8_1 : ∀ o, w8.frozen? ⟨w3.heap.size, o, none⟩ = _ := fun o => hb8.frozen (p := ⟨w3.heap.size, o, none⟩) (by ((try simp only [World.size_alloc, World.size_setCell, World.size_drew, size_drewN]); omega))
    have z8_1 : w3.heap.size < w8.heap.size := (by omega)
    have hc8_2 : ∀ o, w8.cell? ⟨w4.heap.size, o, none⟩ = _ := fun o => hb8.cell (p := ⟨w4.heap.size, o, none⟩) (by ((try simp only [World.size_alloc, World.size_setCell, World.size_drew, size_drewN]); omega))
    have hf8_2 : ∀ o, w8.frozen? ⟨w4.heap.size, o, none⟩ = _ := fun o => hb8.frozen (p := ⟨w4.heap.size, o, none⟩) (by ((try simp only [World.size_alloc, World.size_setCell, World.size_drew, size_drewN]); omega))
    have z8_2 : w4.heap.size < w8.heap.size := (by omega)
    have hc8_3 : ∀ o, w8.cell? ⟨w5.heap.size, o, none⟩ = _ := fun o => hb8.cell (p := ⟨w5.heap.size, o, none⟩) (by ((try simp only [World.size_alloc, World.size_setCell, World.size_drew, size_drewN]); omega))
    have hf8_3 : ∀ o, w8.frozen? ⟨w5.heap.size, o, none⟩ = _ := fun o => hb8.frozen (p := ⟨w5.heap.size, o, none⟩) (by ((try simp only [World.size_alloc, World.size_setCell, World.size_drew, size_drewN]); omega))
    have z8_3 : w5.heap.size < w8.heap.size := (by omega)
    go_wp2_with fail
    refine (awake14_c _).mono ?_
    rintro e w9 ⟨rfl, hb9⟩
    have hs9 := hb9.size
    try simp only [World.size_alloc, World.size_setCell, World.size_drew, size_drewN] at hs9
    have hc9_0 : ∀ o, w9.cell? ⟨w2.heap.size, o, none⟩ = _ := fun o => hb9.cell (p := ⟨w2.heap.size, o, none⟩) (by ((try simp only [World.size_alloc, World.size_setCell, World.size_drew, size_drewN]); omega))
    have hf9_0 : ∀ o, w9.frozen? ⟨w2.heap.size, o, none⟩ = _ := fun o => hb9.frozen (p := ⟨w2.heap.size, o, none⟩) (by ((try simp only [World.size_alloc, World.size_setCell, World.size_drew, size_drewN]); omega))
    have z9_0 : w2.heap.size < w9.heap.size := (by omega)
    have hc9_1 : ∀ o, w9.cell? ⟨w3.heap.size, o, none⟩ = _ := fun o => hb9.cell (p := ⟨w3.heap.size, o, none⟩) (by ((try simp only [World.size_alloc, World.size_setCell, World.size_drew, size_drewN]); omega))
    have hf9_1 : ∀ o, w9.frozen? ⟨w3.heap.size, o, none⟩ = _ := fun o => hb9.frozen (p := ⟨w3.heap.size, o, none⟩) (by ((try simp only [World.size_alloc, World.size_setCell, World.size_drew, size_drewN]); omega))
    have z9_1 : w3.heap.size < w9.heap.size := (by omega)
    have hc9_2 : ∀ o, w9.cell? ⟨w4.heap.size, o, none⟩ = _ := fun o => hb9.cell (p := ⟨w4.heap.size, o, none⟩) (by ((try simp only [World.size_alloc, World.size_setCell, World.size_drew, size_drewN]); omega))
    have hf9_2 : ∀ o, w9.frozen? ⟨w4.heap.size, o, none⟩ = _ := fun o => hb9.frozen (p := ⟨w4.heap.size, o, none⟩) (by ((try simp only [World.size_alloc, World.size_setCell, World.size_drew, size_drewN]); omega))
    have z9_2 : w4.heap.size < w9.heap.size := (by omega)
    have hc9_3 : ∀ o, w9.cell? ⟨w5.heap.size, o, none⟩ = _ := fun o => hb9.cell (p := ⟨w5.heap.size, o, none⟩) (by ((try simp only [World.size_alloc, World.size_setCell, World.size_drew, size_drewN]); omega))
    have hf9_3 : ∀ o, w9.frozen? ⟨w5.heap.size, o, none⟩ = _ := fun o => hb9.frozen (p := ⟨w5.heap.size, o, none⟩) (by ((try simp only [World.size_alloc, World.size_setCell, World.size_drew, size_drewN]); omega))
    have z9_3 : w5.heap.size < w9.heap.size := (by omega)
    have hB' := hB.out
    go_wp2
    go_ret
    exact ⟨rfl, (by (repeat' (first | (with_reducible exact Below.refl _ _) | (with_reducible assumption) | (with_reducible refine Below.alloc ?_ ?_ _) | (with_reducible refine Below.drew ?_) | (with_reducible refine below_drewN ?_ _) | (with_reducible refine Below.setCell ?_ ?_ _) | (with_reducible refine below_step (by with_reducible assumption) ?_ ?_) | (first | (with_reducible exact Nat.le_refl _) | (with_reducible assumption) | omega | (simp only [World.size_alloc, World.size_setCell, World.size_drew, size_drewN]; omega) | (simp; omega) | (simp; done)))))⟩
theorem BasefeeMonotone_walk (b x0 x1 x2 x3 x4 x5 x6 x7 y0 y1 y2 : Int) (w0 : (Lit.int .u64 b).wf = true) (w1 : (Lit.int .u64 x0).wf = true) (w2 : (Lit.int .u64 x1).wf = true) (w3 : (Lit.int .u64 x2).wf = true) (w4 : (Lit.int .u64 x3).wf = true) (w5 : (Lit.int .u64 x4).wf = true) (w6 : (Lit.int .u64 x5).wf = true) (w7 : (Lit.int .u64 x6).wf = true) (w8 : (Lit.int .u64 x7).wf = true) (w9 : (Lit.int .u64 y0).wf = true) (w10 : (Lit.int .u64 y1).wf = true) (w11 : (Lit.int .u64 y2).wf = true) (w : World) :
    Calls Try.prog 7 #[.int .u64 b, .agg #[.int .u64 x0, .int .u64 x1, .int .u64 x2, .int .u64 x3, .int .u64 x4, .int .u64 x5, .int .u64 x6, .int .u64 x7], .agg #[.int .u64 y0, .int .u64 y1, .int .u64 y2]] w fun e w' => e = .returned (.bool true) ∧ Below w.heap.size w w' := by
  obtain ⟨p1, q1⟩ := bounds_u64 w0
  exact bgm_c (v8 x0 x1 x2 x3 x4 x5 x6 x7) (v8_w w1 w2 w3 w4 w5 w6 w7 w8) (v8 y0 y1 y2 0 0 0 0 0) (v8_w w9 w10 w11 rfl rfl rfl rfl rfl) p1 (by omega) w
end Go.Proofs.Ytiebdccdnaceaaa
