/- chapter 14: BaseFeeMinimum, walked. -/
import Derived.WalkKit
import Derived.KernelRfl
import Derived.RowKit3
import Derived.Deep.LoopGhost
import Derived.Deep.QuietTactic
import Derived.BigQuiet
import Derived.WideLaws
import Derived.Laws.Rows
import Derived.Below
import Derived.Deep.Draws
import Derived.Outline
import Derived.LoopN
import Derived.Handy
import Derived.Laws.Externs
import Derived.Laws.BitsAllLaws
import Derived.Laws.BitsLemmas
import Derived.Deep.DeepCutAuto
import Derived.Deep.CutBlock
import Derived.Deep.RegionHeld3
import Derived.Test.YtiebdccdnaceaaaF4
namespace Go.Proofs.Ytiebdccdnaceaaa
open Go.RowKit
set_option linter.unusedVariables false
set_option linter.unusedSimpArgs false
theorem PBlk.four {w : World} {g : Nat} {P : Nat → Int} (h : PBlk w g P) : w.cell? ⟨g, 0, none⟩ = some (.int .u64 (P 0)) ∧ w.cell? ⟨g, 1, none⟩ = some (.int .u64 (P 1)) ∧ w.cell? ⟨g, 2, none⟩ = some (.int .u64 (P 2)) :=
  ⟨h.cell (by omega), h.cell (by omega), h.cell (by omega)⟩
theorem vp_prod {v : Nat → Int} (hv : ∀ j, 0 ≤ v j ∧ v j < 18446744073709551616) : ∃ L, IntKind.u64.wrap (vpP v 0 * vpP v 1) = L ∧ L = vpP v 0 * vpP v 1 ∧ 0 ≤ L ∧ L ≤ 43980465111040 := by
  obtain ⟨h0, h1, h2, h3, h7, h8, h12, h13, h17, h18⟩ := vp_rg hv
  have m0 : 0 ≤ vpP v 0 * vpP v 1 := Int.mul_nonneg h0.1 h1.1
  have m1 : vpP v 0 * vpP v 1 ≤ 1099511627776 * 40 := Int.mul_le_mul h0.2.2 (by omega) h1.1 (by omega)
  exact ⟨_, by rw [wrap_mod, Int.emod_eq_of_lt m0 (by omega)], rfl, m0, by omega⟩
theorem load_row26 {w' : World} {g : Nat} {P : Nat → Int} (h : PBlk w' g P) : (Instr.loadAt 26 (.pointer (some ⟨g, 0, none⟩))).run Try.prog w' = .ok (.agg (pC P)) w' := by
  have := run_loadAt_mid (P := Try.prog) w' g 0 26 (pC P).toList _ h.range Try.underlying26 rfl (by rw [pC_len]; exact sizeP)
  rw [Array.toArray_toList] at this
  exact this
theorem KP.keep {w0 w w' : World} {g : Nat} {P : Nat → Int} (h : PBlk w g P ∧ Below w0.heap.size w0 w) (hb : Below w.heap.size w w') : PBlk w' g P ∧ Below w0.heap.size w0 w' := ⟨h.1.below hb h.1.lt, h.2.trans (hb.mono h.2.size)⟩
set_option maxRecDepth 20000 in
set_option maxHeartbeats 16000000 in
theorem bfn_c (v : Nat → Int) (hv : ∀ j, 0 ≤ v j ∧ v j < 18446744073709551616) {b : Int} (b0 : 0 ≤ b) (b1 : b < 18446744073709551616) (w : World) :
    Calls Try.prog 5 #[.int .u64 b, .agg #[.int .u64 (v 0), .int .u64 (v 1), .int .u64 (v 2), .int .u64 (v 3), .int .u64 (v 4), .int .u64 (v 5), .int .u64 (v 6), .int .u64 (v 7)]] w fun e w' => e = .returned (.bool true) ∧ Below w.heap.size w w' := by
  have HVP := hide (fun w => vp_c v hv w)
  have hP := vp_w hv
  have hok := vp_ok hv
  obtain ⟨L, eL, eL', L0, L1⟩ := vp_prod hv
  obtain ⟨P, eP⟩ : ∃ P, vpP v = P := ⟨_, rfl⟩
  rw [eP] at HVP hP hok eL eL'
  clear eP
  have hA := (valid_rg hP hok).2.2.2.2.2.2.1
  have UA := feeU hP
  obtain ⟨A, eA⟩ : ∃ A, getN P 4 = A := ⟨_, rfl⟩
  rw [eA] at UA hA
  have eW : IntKind.u64.wrap (L + 1) = L + 1 := by rw [wrap_mod]; omega
  have eM : b.tmod (L + 1) = b % (L + 1) := Int.tmod_eq_emod_of_nonneg b0
  have x0 := Int.emod_nonneg b (show L + 1 ≠ 0 by omega)
  have x1 := Int.emod_lt_of_pos b (show 0 < L + 1 by omega)
  obtain ⟨x, ex⟩ : ∃ x, b % (L + 1) = x := ⟨_, rfl⟩
  rw [ex] at eM x0 x1
  obtain ⟨f1, f2⟩ := fe_val hP hok x0 (by omega)
  obtain ⟨g1, g2⟩ := fe_val hP hok L0 (by omega)
  have zx : xqV x P = 0 := xq_zero (by omega)
  have zL : xqV L P = 0 := xq_zero (by omega)
  rw [zx, se_zero, eA] at f2
  rw [zL, se_zero, eA] at g2
  have HX := hide (fun w => fee_c P hP x0 (by omega : x < 18446744073709551616) w)
  have HL := hide (fun w => fee_c P hP L0 (by omega : L < 18446744073709551616) w)
  have HE := hide (fun w => exponent_c P hP L0 (by omega : L < 18446744073709551616) w)
  rw [f1, f2] at HX
  rw [g1, g2] at HL
  rw [xV, xE, if_pos hok, if_pos hok, zL] at HE
  obtain ⟨u0, u1, u2, u3⟩ := UA.lims
  rw [← u0, ← u1, ← u2, ← u3] at HX HL
  have n1 : ¬ (L + 1 = 0) := by omega
  have n2 : (L + 1 == 0) = false := by simp; omega
  clear f1 f2 g1 g2 zx zL u0 u1 u2 u3 UA hA eA hok x1 ex eL'
  have huP := Try.underlying26
  have hiP : (Try.prog.info? 26).map (·.size) = some (pC P).toList.length := by rw [pC_len]; exact sizeP
  go_enter Try.func5, Try.ntmps5
  go_wp2_with fail
  refine (HVP.out _).mono ?_
  rintro e w1 ⟨rfl, hb1⟩
  have hs1 := hb1.size
  try simp only [World.size_alloc, World.size_setCell, World.size_drew, size_drewN] at hs1
  have HZ := hide (PBlk.new w1 (fun _ => 0))
  have hsz : w.heap.size ≤ w1.heap.size := by omega
  have HB1 := hide (show Below w.heap.size w w1 from ((Below.refl _ _).alloc (Nat.le_refl _) _).trans (hb1.mono (by simp)))
  clear hb1 HVP
  go_upto_region 3 with (refine wpList_store_row26 rfl (.tmp 5) (.tmp 14) rfl (g := w1.heap.size) P rfl rfl HZ.out ?_; intro w3 HP hB3 _; replace HP := hide HP; have hB := hide (hB3 w.heap.size w hsz (HB1.out.alloc hsz _)); have hlt := HP.out.lt; clear hB3 HZ; obtain ⟨m0, m1, m2⟩ := HP.out.four)
  go_cut [7, 8] (fun s7 s8 wx => ∃ g : Nat, s7 = .pointer (some ⟨g, 0, none⟩) ∧ s8 = .int .i64 0 ∧ PBlk wx w1.heap.size P ∧ Below w.heap.size w wx ∧ Box wx g (P 3) (P 4) (P 5) (P 6))
  case first =>
    have hK : PBlk w3.drew w1.heap.size P ∧ Below w.heap.size w w3.drew := ⟨HP.out.drew, hB.out.drew⟩
    refine wp_region_held_drew (S := fun w' => PBlk w' w1.heap.size P ∧ Below w.heap.size w w') (by kernel_rfl) hK (fun hHeld => ?_)
    clear hK
    (refine wpAnyH_take (i := 0) (v := .int .u64 b) rfl (by kernel_rfl) (by kernel_rfl) (by kernel_rfl) (fun _ _ _ h => h) (Or.inl ⟨by rfl, fun w _ => (by go_simp)⟩) (by assumption) ?_; (try simp only [Act.put, List.setIfInBounds_toArray, List.set_cons_zero, List.set_cons_succ, Array.toArray_toList, List.getElem_toArray, List.getElem_cons_succ, List.getElem_cons_zero]))
    (refine wpAnyH_take (i := 1) (v := .int .u64 L) rfl (by kernel_rfl) (by kernel_rfl) (by kernel_rfl) (fun _ _ _ h => h) (Or.inl ⟨by rfl, fun w _ => (by go_simp)⟩) (by assumption) ?_; (try simp only [Act.put, List.setIfInBounds_toArray, List.set_cons_zero, List.set_cons_succ, Array.toArray_toList, List.getElem_toArray, List.getElem_cons_succ, List.getElem_cons_zero]))
    (refine wpAnyH_take (i := 2) (v := .int .u64 (L + 1)) rfl (by kernel_rfl) (by kernel_rfl) (by kernel_rfl) (fun _ _ _ h => h) (Or.inl ⟨by rfl, fun w _ => (by go_simp)⟩) (by assumption) ?_; (try simp only [Act.put, List.setIfInBounds_toArray, List.set_cons_zero, List.set_cons_succ, Array.toArray_toList, List.getElem_toArray, List.getElem_cons_succ, List.getElem_cons_zero]))
    (refine wpAnyH_take (i := 3) (v := .int .u64 x) rfl (by kernel_rfl) (by kernel_rfl) (by kernel_rfl) (fun _ _ _ h => h) (Or.inl ⟨by rfl, fun w _ => (by go_simp)⟩) (by assumption) ?_; (try simp only [Act.put, List.setIfInBounds_toArray, List.set_cons_zero, List.set_cons_succ, Array.toArray_toList, List.getElem_toArray, List.getElem_cons_succ, List.getElem_cons_zero]))
    (refine wpAnyH_take (i := 4) (v := _) rfl (by kernel_rfl) (by kernel_rfl) (by kernel_rfl) (fun _ _ _ h => h) (yieldsIf_load_mid (by rfl) 26 (.tmp 5) rfl w1.heap.size 0 rfl (pC P).toList _ (fun w h => h.1.range) Try.underlying26 rfl (by rw [pC_len]; exact sizeP)) (by assumption) ?_; (try simp only [Act.put, List.setIfInBounds_toArray, List.set_cons_zero, List.set_cons_succ, Array.toArray_toList, List.getElem_toArray, List.getElem_cons_succ, List.getElem_cons_zero]))
    refine wpAnyH_ready (rs := [5, 9]) (by kernel_rfl) (by simp) ?_
    refine AllReadyH.cons rfl (fun K hK => ?_) (AllReadyH.cons rfl (fun K hK => ?_) AllReadyH.nil)
    · rw [if_pos (by rfl)]
      go_simp
      (go_at_call 12; refine (HX.out _).mono ?_; rintro e w4 ⟨rfl, hb4⟩)
      go_wp2_with fail
      have hH4 := KP.keep hHeld hb4
      refine hK.out _ _ hH4 (fun hHeld => ?_)
      clear hK K
      (try simp only [Act.put, List.setIfInBounds_toArray, List.set_cons_zero, List.set_cons_succ, Array.toArray_toList, List.getElem_toArray, List.getElem_cons_succ, List.getElem_cons_zero])
      (refine wpAnyH_take (i := 6) (v := .tuple #[.agg #[.int .u64 (P 3), .int .u64 (P 4), .int .u64 (P 5), .int .u64 (P 6)], .int .i64 0]) rfl (by kernel_rfl) (by kernel_rfl) (by kernel_rfl) (fun _ _ _ h => h) (Or.inl ⟨by rfl, fun w _ => (by go_simp)⟩) (by assumption) ?_; (try simp only [Act.put, List.setIfInBounds_toArray, List.set_cons_zero, List.set_cons_succ, Array.toArray_toList, List.getElem_toArray, List.getElem_cons_succ, List.getElem_cons_zero]))
      (refine wpAnyH_take (i := 7) (v := .agg #[.int .u64 (P 3), .int .u64 (P 4), .int .u64 (P 5), .int .u64 (P 6)]) rfl (by kernel_rfl) (by kernel_rfl) (by kernel_rfl) (fun _ _ _ h => h) (Or.inl ⟨by rfl, fun w _ => (by go_simp)⟩) (by assumption) ?_; (try simp only [Act.put, List.setIfInBounds_toArray, List.set_cons_zero, List.set_cons_succ, Array.toArray_toList, List.getElem_toArray, List.getElem_cons_succ, List.getElem_cons_zero]))
      (refine wpAnyH_take (i := 8) (v := .int .i64 0) rfl (by kernel_rfl) (by kernel_rfl) (by kernel_rfl) (fun _ _ _ h => h) (Or.inl ⟨by rfl, fun w _ => (by go_simp)⟩) (by assumption) ?_; (try simp only [Act.put, List.setIfInBounds_toArray, List.set_cons_zero, List.set_cons_succ, Array.toArray_toList, List.getElem_toArray, List.getElem_cons_succ, List.getElem_cons_zero]))
      refine wpAnyH_ready (rs := [9]) (by kernel_rfl) (by simp) ?_
      refine AllReadyH.cons rfl (fun K hK => ?_) AllReadyH.nil
      rw [if_pos (by rfl)]
      go_simp
      refine hK.out _ _ (KP.keep hHeld ((Below.refl _ _).alloc (Nat.le_refl _) _)) (fun hHeld => ?_)
      clear hK K
      (try simp only [Act.put, List.setIfInBounds_toArray, List.set_cons_zero, List.set_cons_succ, Array.toArray_toList, List.getElem_toArray, List.getElem_cons_succ, List.getElem_cons_zero])
      refine wpAnyH_ready (rs := [10]) (by kernel_rfl) (by simp) ?_
      refine AllReadyH.cons rfl (fun K hK => ?_) AllReadyH.nil
      rw [if_pos (by rfl)]
      go_simp
      refine hK.out _ _ (KP.keep hH4 ((Below.refl _ _).alloc (Nat.le_refl _) _)) (fun hHeld => ?_)
      clear hK K
      (try simp only [Act.put, List.setIfInBounds_toArray, List.set_cons_zero, List.set_cons_succ, Array.toArray_toList, List.getElem_toArray, List.getElem_cons_succ, List.getElem_cons_zero])
      (refine wpAnyH_take (i := 11) (v := .int .i64 0) rfl (by kernel_rfl) (by kernel_rfl) (by kernel_rfl) (fun _ _ _ h => h) (Or.inl ⟨by rfl, fun w _ => (by go_simp)⟩) (by assumption) ?_; (try simp only [Act.put, List.setIfInBounds_toArray, List.set_cons_zero, List.set_cons_succ, Array.toArray_toList, List.getElem_toArray, List.getElem_cons_succ, List.getElem_cons_zero]))
      
      refine wpAnyH_done (by kernel_rfl) ?_ _
      go_wp2_with fail
      go_meet
      exact ⟨_, rfl, rfl, hHeld.1, hHeld.2, Box.new _ _ _ _ _ _⟩
    · rw [if_pos (by rfl)]
      go_simp
      refine hK.out _ _ (KP.keep hHeld ((Below.refl _ _).alloc (Nat.le_refl _) _)) (fun hHeld => ?_)
      clear hK K
      (try simp only [Act.put, List.setIfInBounds_toArray, List.set_cons_zero, List.set_cons_succ, Array.toArray_toList, List.getElem_toArray, List.getElem_cons_succ, List.getElem_cons_zero])
      refine wpAnyH_ready (rs := [5]) (by kernel_rfl) (by simp) ?_
      refine AllReadyH.cons rfl (fun K hK => ?_) AllReadyH.nil
      rw [if_pos (by rfl)]
      go_simp
      (go_at_call 12; refine (HX.out _).mono ?_; rintro e w4 ⟨rfl, hb4⟩)
      go_wp2_with fail
      have hH4 := KP.keep hHeld hb4
      refine hK.out _ _ hH4 (fun hHeld => ?_)
      clear hK K
      (try simp only [Act.put, List.setIfInBounds_toArray, List.set_cons_zero, List.set_cons_succ, Array.toArray_toList, List.getElem_toArray, List.getElem_cons_succ, List.getElem_cons_zero])
      (refine wpAnyH_take (i := 6) (v := .tuple #[.agg #[.int .u64 (P 3), .int .u64 (P 4), .int .u64 (P 5), .int .u64 (P 6)], .int .i64 0]) rfl (by kernel_rfl) (by kernel_rfl) (by kernel_rfl) (fun _ _ _ h => h) (Or.inl ⟨by rfl, fun w _ => (by go_simp)⟩) (by assumption) ?_; (try simp only [Act.put, List.setIfInBounds_toArray, List.set_cons_zero, List.set_cons_succ, Array.toArray_toList, List.getElem_toArray, List.getElem_cons_succ, List.getElem_cons_zero]))
      (refine wpAnyH_take (i := 7) (v := .agg #[.int .u64 (P 3), .int .u64 (P 4), .int .u64 (P 5), .int .u64 (P 6)]) rfl (by kernel_rfl) (by kernel_rfl) (by kernel_rfl) (fun _ _ _ h => h) (Or.inl ⟨by rfl, fun w _ => (by go_simp)⟩) (by assumption) ?_; (try simp only [Act.put, List.setIfInBounds_toArray, List.set_cons_zero, List.set_cons_succ, Array.toArray_toList, List.getElem_toArray, List.getElem_cons_succ, List.getElem_cons_zero]))
      (refine wpAnyH_take (i := 8) (v := .int .i64 0) rfl (by kernel_rfl) (by kernel_rfl) (by kernel_rfl) (fun _ _ _ h => h) (Or.inl ⟨by rfl, fun w _ => (by go_simp)⟩) (by assumption) ?_; (try simp only [Act.put, List.setIfInBounds_toArray, List.set_cons_zero, List.set_cons_succ, Array.toArray_toList, List.getElem_toArray, List.getElem_cons_succ, List.getElem_cons_zero]))
      have BX : Box w4 w3.heap.size 0 0 0 0 := (Box.new w3.drew 0 0 0 0 _).below hb4 (by simp)
      have HBX := hide BX
      obtain ⟨c0, c1, c2, c3, j0, j1, j2, j3, jlt⟩ := BX
      have hsw : w.heap.size ≤ w3.heap.size := by omega
      refine wpAnyH_ready (rs := [10]) (by kernel_rfl) (by simp) ?_
      refine AllReadyH.cons rfl (fun K hK => ?_) AllReadyH.nil
      rw [if_pos (by rfl)]
      go_simp
      refine hK.out _ _ (⟨(((hH4.1.far (by omega) _).far (by omega) _).far (by omega) _).far (by omega) _, (((hH4.2.setCell hsw _).setCell hsw _).setCell hsw _).setCell hsw _⟩) (fun hHeld => ?_)
      clear hK K
      (try simp only [Act.put, List.setIfInBounds_toArray, List.set_cons_zero, List.set_cons_succ, Array.toArray_toList, List.getElem_toArray, List.getElem_cons_succ, List.getElem_cons_zero])
      (refine wpAnyH_take (i := 11) (v := .int .i64 0) rfl (by kernel_rfl) (by kernel_rfl) (by kernel_rfl) (fun _ _ _ h => h) (Or.inl ⟨by rfl, fun w _ => (by go_simp)⟩) (by assumption) ?_; (try simp only [Act.put, List.setIfInBounds_toArray, List.set_cons_zero, List.set_cons_succ, Array.toArray_toList, List.getElem_toArray, List.getElem_cons_succ, List.getElem_cons_zero]))
      
      refine wpAnyH_done (by kernel_rfl) ?_ _
      go_wp2_with fail
      go_meet
      exact ⟨_, rfl, rfl, hHeld.1, hHeld.2, HBX.out.put _ _ _ _⟩
  case rest =>
    obtain ⟨g, rfl, rfl, hp5, hb5, bx5⟩ := hcut
    clear HP hB
    have HP := hide hp5
    have HBX := hide bx5
    have hB := hide hb5
    have hlt := hp5.lt
    have hgl := bx5.lt
    clear hp5 hb5 bx5
    go_wp2_with (refine wpList_load_row26 (P := P) rfl _ rfl rfl (by (repeat' (first | exact HP.out | (with_reducible refine PBlk.alloc ?_ _) | (with_reducible refine PBlk.drew ?_) | (refine PBlk.far ?_ (by omega) _)))) ?_)
    refine (HL.out _).mono ?_
    rintro e w2 ⟨rfl, hb2⟩
    have hs2 := hb2.size
    try simp only [World.size_alloc, World.size_setCell, World.size_drew, size_drewN] at hs2
    replace HP := hide (PBlk.below (P := P) (g := w1.heap.size) (by (repeat' (first | exact HP.out | (with_reducible refine PBlk.alloc ?_ _) | (with_reducible refine PBlk.drew ?_) | (refine PBlk.far ?_ (by omega) _)))) hb2 (by first | assumption | omega | (simp only [World.size_alloc, World.size_setCell, World.size_drew, size_drewN]; omega)))
    have hlt2 := HP.out.lt
    replace HBX := hide (HBX.out.below hb2 hgl)
    have hgl2 := HBX.out.lt
    go_wp2_with (refine wpList_load_row26 (P := P) rfl _ rfl rfl (by (repeat' (first | exact HP.out | (with_reducible refine PBlk.alloc ?_ _) | (with_reducible refine PBlk.drew ?_) | (refine PBlk.far ?_ (by omega) _)))) ?_)
    refine (HE.out _).mono ?_
    rintro e w3 ⟨rfl, hb3⟩
    have hs3 := hb3.size
    try simp only [World.size_alloc, World.size_setCell, World.size_drew, size_drewN] at hs3
    have hc3_0 : ∀ o, w3.cell? ⟨w2.heap.size, o, none⟩ = _ := fun o => hb3.cell (p := ⟨w2.heap.size, o, none⟩) (by ((try simp only [World.size_alloc, World.size_setCell, World.size_drew, size_drewN]); omega))
    have hf3_0 : ∀ o, w3.frozen? ⟨w2.heap.size, o, none⟩ = _ := fun o => hb3.frozen (p := ⟨w2.heap.size, o, none⟩) (by ((try simp only [World.size_alloc, World.size_setCell, World.size_drew, size_drewN]); omega))
    have z3_0 : w2.heap.size < w3.heap.size := (by omega)
    replace HP := hide (PBlk.below (P := P) (g := w1.heap.size) (by (repeat' (first | exact HP.out | (with_reducible refine PBlk.alloc ?_ _) | (with_reducible refine PBlk.drew ?_) | (refine PBlk.far ?_ (by omega) _)))) hb3 (by first | assumption | omega | (simp only [World.size_alloc, World.size_setCell, World.size_drew, size_drewN]; omega)))
    have hlt3 := HP.out.lt
    replace HBX := hide ((HBX.out.alloc _).below hb3 (by simp; omega))
    obtain ⟨m3, m4, m5, m6⟩ := HP.out.fee
    obtain ⟨n3, n4, n5, n6, -, -, -, -, -⟩ := HBX.out
    go_wp2_with fail
    refine (awake14_c _).mono ?_
    rintro e w4 ⟨rfl, hb4⟩
    have hs4 := hb4.size
    try simp only [World.size_alloc, World.size_setCell, World.size_drew, size_drewN] at hs4
    have hc4_0 : ∀ o, w4.cell? ⟨w2.heap.size, o, none⟩ = _ := fun o => hb4.cell (p := ⟨w2.heap.size, o, none⟩) (by ((try simp only [World.size_alloc, World.size_setCell, World.size_drew, size_drewN]); omega))
    have hf4_0 : ∀ o, w4.frozen? ⟨w2.heap.size, o, none⟩ = _ := fun o => hb4.frozen (p := ⟨w2.heap.size, o, none⟩) (by ((try simp only [World.size_alloc, World.size_setCell, World.size_drew, size_drewN]); omega))
    have z4_0 : w2.heap.size < w4.heap.size := (by omega)
    have hB' := hB.out
    go_wp2
    go_ret
    exact ⟨rfl, (by (repeat' (first | (with_reducible exact Below.refl _ _) | (with_reducible assumption) | (with_reducible refine Below.alloc ?_ ?_ _) | (with_reducible refine Below.drew ?_) | (with_reducible refine below_drewN ?_ _) | (with_reducible refine Below.setCell ?_ ?_ _) | (with_reducible refine below_step (by with_reducible assumption) ?_ ?_) | (first | (with_reducible exact Nat.le_refl _) | (with_reducible assumption) | omega | (simp only [World.size_alloc, World.size_setCell, World.size_drew, size_drewN]; omega) | (simp; omega) | (simp; done)))))⟩
theorem BaseFeeMinimum_walk (b x0 x1 x2 x3 x4 x5 x6 x7 : Int) (w0 : (Lit.int .u64 b).wf = true) (w1 : (Lit.int .u64 x0).wf = true) (w2 : (Lit.int .u64 x1).wf = true) (w3 : (Lit.int .u64 x2).wf = true) (w4 : (Lit.int .u64 x3).wf = true) (w5 : (Lit.int .u64 x4).wf = true) (w6 : (Lit.int .u64 x5).wf = true) (w7 : (Lit.int .u64 x6).wf = true) (w8 : (Lit.int .u64 x7).wf = true) (w : World) :
    Calls Try.prog 5 #[.int .u64 b, .agg #[.int .u64 x0, .int .u64 x1, .int .u64 x2, .int .u64 x3, .int .u64 x4, .int .u64 x5, .int .u64 x6, .int .u64 x7]] w fun e w' => e = .returned (.bool true) ∧ Below w.heap.size w w' := by
  obtain ⟨p1, q1⟩ := bounds_u64 w0
  exact bfn_c (v8 x0 x1 x2 x3 x4 x5 x6 x7) (v8_w w1 w2 w3 w4 w5 w6 w7 w8) p1 (by omega) w
end Go.Proofs.Ytiebdccdnaceaaa
