/- chapter 15: BlockSplitUse, walked. -/
import Derived.WalkKit
import Derived.KernelRfl
import Derived.RowKit3
import Derived.Deep.LoopGhost
import Derived.Deep.QuietTactic
import Derived.BigQuiet
import Derived.WideLaws
import Derived.Laws.Rows
import Derived.Below
import Derived.Deep.Draws
import Derived.Outline
import Derived.LoopN
import Derived.Handy
import Derived.Laws.Externs
import Derived.Laws.BitsAllLaws
import Derived.Laws.BitsLemmas
import Derived.Deep.DeepCutAuto
import Derived.Deep.CutBlock
import Derived.Deep.RegionHeld3
import Derived.Test.YtkneiobohhhcpaaG3
namespace Go.Proofs.Ytkneiobohhhcpaa
open Go.RowKit
set_option linter.unusedVariables false
set_option linter.unusedSimpArgs false
def v8 (x0 x1 x2 x3 x4 x5 x6 x7 : Int) : Nat → Int
  | 0 => x0 | 1 => x1 | 2 => x2 | 3 => x3 | 4 => x4 | 5 => x5 | 6 => x6 | 7 => x7 | _ => 0
theorem v8_w {x0 x1 x2 x3 x4 x5 x6 x7 : Int} (w0 : (Lit.int .u64 x0).wf = true) (w1 : (Lit.int .u64 x1).wf = true) (w2 : (Lit.int .u64 x2).wf = true) (w3 : (Lit.int .u64 x3).wf = true) (w4 : (Lit.int .u64 x4).wf = true) (w5 : (Lit.int .u64 x5).wf = true) (w6 : (Lit.int .u64 x6).wf = true) (w7 : (Lit.int .u64 x7).wf = true) (j : Nat) : 0 ≤ v8 x0 x1 x2 x3 x4 x5 x6 x7 j ∧ v8 x0 x1 x2 x3 x4 x5 x6 x7 j < 18446744073709551616 := by
  have b0 := bounds_u64 w0; have b1 := bounds_u64 w1; have b2 := bounds_u64 w2; have b3 := bounds_u64 w3; have b4 := bounds_u64 w4; have b5 := bounds_u64 w5; have b6 := bounds_u64 w6; have b7 := bounds_u64 w7
  unfold v8
  split <;> omega
theorem cutB {f : World → Prop} {W w : World} {g b : Nat} {P : Nat → Int} {cs : Array Value} {T : TypeId} (hb : Below w.heap.size w W) (h : PBlk W g P) (z : RBlk W b cs T) (k : ∀ W', Hid (Below w.heap.size w W') → Hid (PBlk W' g P) → Hid (RBlk W' b cs T) → f W') : f W := k W hb h z
theorem ugY {u x : Int} {P : Nat → Int} (h : u ≤ P 7) (hx : x ≤ P 7 - u) (f3 f4 f5 f6 : Int) (hP : PW P) (u0 : 0 ≤ u) (x0 : 0 ≤ x) (w : World) : Calls Try.prog 7 #[.agg #[.int .u64 1, .int .u64 0, .int .u64 u, .int .u64 f3, .int .u64 f4, .int .u64 f5, .int .u64 f6], .int .u64 x, .agg (pC P)] w fun e w' => e = .returned (.tuple #[.agg #[.int .u64 1, .int .u64 0, .int .u64 (u + x), .int .u64 f3, .int .u64 f4, .int .u64 f5, .int .u64 f6], .int .i64 0]) ∧ Below w.heap.size w w' := by
  have b7 := hP 7
  have h' := ug_c 1 0 u f3 f4 f5 f6 x P hP u0 (by omega) x0 w
  have e : ¬ grV u P < x := by unfold grV; split <;> omega
  simp only [ugE, ugB, e, if_false] at h'
  exact h'
theorem ugN {u x : Int} {P : Nat → Int} (h : u ≤ P 7) (hx : P 7 - u < x) (f3 f4 f5 f6 : Int) (hP : PW P) (u0 : 0 ≤ u) (x0 : 0 ≤ x) (w : World) : Calls Try.prog 7 #[.agg #[.int .u64 1, .int .u64 0, .int .u64 u, .int .u64 f3, .int .u64 f4, .int .u64 f5, .int .u64 f6], .int .u64 x, .agg (pC P)] w fun e w' => e = .returned (.tuple #[.agg Z7, .int .i64 13]) ∧ Below w.heap.size w w' := by
  have b7 := hP 7
  have h' := ug_c 1 0 u f3 f4 f5 f6 x P hP u0 (by omega) x0 w
  have e : grV u P < x := by unfold grV; split <;> omega
  simp only [ugE, ugB, e, if_true] at h'
  exact h'
set_option maxRecDepth 20000 in
set_option maxHeartbeats 16000000 in
theorem bsu_c (v : Nat → Int) (hv : ∀ j, 0 ≤ v j ∧ v j < 18446744073709551616) {a x y : Int} (a0 : 0 ≤ a) (x0 : 0 ≤ x) (y0 : 0 ≤ y) (w : World) :
    Calls Try.prog 3 #[.agg #[.int .u64 (v 0), .int .u64 (v 1), .int .u64 (v 2), .int .u64 (v 3), .int .u64 (v 4), .int .u64 (v 5), .int .u64 (v 6), .int .u64 (v 7)], .int .u64 a, .int .u64 x, .int .u64 y] w fun e w' => e = .returned (.bool true) ∧ Below w.heap.size w w' := by
  have HVP := hide (fun w => vp_c v hv w)
  have hP := vp_w hv
  obtain ⟨h0, h1, h2, h3, h7, -⟩ := vp_rg hv
  obtain ⟨P, eP⟩ : ∃ P, vpP v = P := ⟨_, rfl⟩
  rw [eP] at HVP hP h7
  clear eP h0 h1 h2 h3
  obtain ⟨u, eu, u0, u1⟩ := tmod_ex (x := a) (K := P 7 + 1) a0 (by omega)
  obtain ⟨m, em, m0, m1⟩ := tmod_ex (x := x) (K := P 7 + 2) x0 (by omega)
  obtain ⟨n, en, n0, n1⟩ := tmod_ex (x := y) (K := P 7 + 2) y0 (by omega)
  have e1 : IntKind.u64.wrap (P 7 + 1) = P 7 + 1 := by rw [wrap_mod]; omega
  have e2 : IntKind.u64.wrap (P 7 + 2) = P 7 + 2 := by rw [wrap_mod]; omega
  have e3 : IntKind.u64.wrap (m + n) = m + n := by rw [wrap_mod]; omega
  have g1 : ¬ (P 7 + 1 = 0) := by omega
  have g2 : ¬ (P 7 + 2 = 0) := by omega
  have g3 : (P 7 + 1 == 0) = false := by simp; omega
  have g4 : (P 7 + 2 == 0) = false := by simp; omega
  rcases Int.lt_or_le (P 7 - u) m with hm | hm
  · have HU1 := hide (fun w => ugN (u := u) (x := m + n) (P := P) (by omega) (by omega) (P 3) (P 4) (P 5) (P 6) hP u0 (by omega) w)
    have HU2 := hide (fun w => ugN (u := u) (x := m) (P := P) (by omega) (by omega) (P 3) (P 4) (P 5) (P 6) hP u0 (by omega) w)
    clear hm
    go_enter Try.func3, Try.ntmps3
    go_wp2_with fail
    refine (HVP.out _).mono ?_
    rintro e w1 ⟨rfl, hb1⟩
    have hs1 := hb1.size
    simp only [World.size_alloc] at hs1
    have HZ := hide (PBlk.new w1 (fun _ => 0))
    have hsz : w.heap.size ≤ w1.heap.size := by omega
    have HB1 := hide (show Below w.heap.size w w1 from ((Below.refl _ _).alloc (Nat.le_refl _) _).trans (hb1.mono (by simp)))
    clear hb1 HVP
    go_upto_region 2 with (refine wpList_store_row26 rfl (.tmp 9) (.tmp 20) rfl (g := w1.heap.size) P rfl rfl HZ.out ?_; intro w3 HP hB3 _; replace HP := hide HP; have HB := hide (hB3 w.heap.size w hsz (HB1.out.alloc hsz _)); have hlt := HP.out.lt; clear hB3 HZ)
    (try simp only [Act.put, List.setIfInBounds_toArray, List.set_cons_succ, List.set_cons_zero])
    have d7 := HP.out.cell (i := 7) (by omega)
    obtain ⟨d3, d4, d5, d6⟩ := HP.out.fee
    go_region_held3 (fun w' => w'.cell? ⟨w1.heap.size, 7, none⟩ = some (.int .u64 (P 7)) ∧ w'.cell? ⟨w1.heap.size, 3, none⟩ = some (.int .u64 (P 3)) ∧ w'.cell? ⟨w1.heap.size, 4, none⟩ = some (.int .u64 (P 4)) ∧ w'.cell? ⟨w1.heap.size, 5, none⟩ = some (.int .u64 (P 5)) ∧ w'.cell? ⟨w1.heap.size, 6, none⟩ = some (.int .u64 (P 6))) (simp (maxDischargeDepth := 16) [go_sem, *, World.cell?_alloc_some, World.cell?_setCell_far]) (fail)
    refine cutB (w := w) (g := w1.heap.size) (b := w3.heap.size) (P := P) (cs := #[.int .u64 1, .int .u64 0, .int .u64 u, .int .u64 (P 3), .int .u64 (P 4), .int .u64 (P 5), .int .u64 (P 6)]) (T := 30) (HB.out.alloc HB.out.size _).drew (HP.out.alloc _).drew (RBlk.new w3 #[.int .u64 1, .int .u64 0, .int .u64 u, .int .u64 (P 3), .int .u64 (P 4), .int .u64 (P 5), .int .u64 (P 6)] 30).drew ?_
    clear HB HP d7 d3 d4 d5 d6 hlt
    intro w4 HB HP HX
    have hlt := HP.out.lt
    have d7 := HP.out.cell (i := 7) (by omega)
    go_wp2_with fail
    go_region_held3 (fun w' => w'.cell? ⟨w1.heap.size, 7, none⟩ = some (.int .u64 (P 7))) (simp (maxDischargeDepth := 16) [go_sem, *, World.cell?_alloc_some, World.cell?_setCell_far]) (fail)
    refine cutB (w := w) (g := w1.heap.size) (b := w3.heap.size) (P := P) (cs := #[.int .u64 1, .int .u64 0, .int .u64 u, .int .u64 (P 3), .int .u64 (P 4), .int .u64 (P 5), .int .u64 (P 6)]) (T := 30) HB.out.drew HP.out.drew HX.out.drew ?_
    clear HB HP HX d7 hlt
    intro w5 HB HP HX
    have hlt := HP.out.lt
    have hsz5 := HB.out.size
    have hlx5 := HX.out.lt
    go_wp2_with (first | (refine wpList_load_rowR (by rfl) (.tmp 10) rfl (g := w3.heap.size) rfl HX.out Try.underlying30 rfl sizeBk ?_) | (refine wpList_load_row26 (P := P) rfl (.tmp 9) rfl (g := w1.heap.size) rfl HP.out ?_))
    refine (HU1.out _).mono ?_
    rintro e w6 ⟨rfl, hb⟩
    replace HB := hide (HB.out.trans (hb.mono HB.out.size))
    replace HP := hide (HP.out.below hb HP.out.lt)
    replace HX := hide (HX.out.below hb HX.out.lt)
    have hlHX6 := HX.out.lt
    have hlt6 := HP.out.lt
    have hsz6 := HB.out.size
    clear hb
    have HZ := hide (RBlk.new w6 Z7 30)
    go_wp2_with (first | (refine wpList_store_rowR (by rfl) (.tmp 13) (.tmp 46) rfl rfl rfl HZ.out rfl sizeBk (one7 _ _ _ _ _ _ _) ?_; intro w7 HA hS; replace HA := hide HA; replace HP := hide (show PBlk w7 w1.heap.size P from (hS.2.2 _ (by omega)).trans (HP.out.alloc _)); replace HB := hide (hS.1 w.heap.size w (by omega) (HB.out.alloc (by omega) _)); replace HX := hide (hS.row (HX.out.alloc _) (by omega)); clear hS HZ) | (refine wpList_load_rowR (by rfl) (.tmp 10) rfl (g := w3.heap.size) rfl HX.out Try.underlying30 rfl sizeBk ?_) | (refine wpList_load_row26 (P := P) rfl (.tmp 9) rfl (g := w1.heap.size) rfl HP.out ?_))
    refine (HU2.out _).mono ?_
    rintro e w8 ⟨rfl, hb⟩
    replace HB := hide (HB.out.trans (hb.mono HB.out.size))
    replace HP := hide (HP.out.below hb HP.out.lt)
    replace HX := hide (HX.out.below hb HX.out.lt)
    have hlHX8 := HX.out.lt
    replace HA := hide (HA.out.below hb HA.out.lt)
    have hlHA8 := HA.out.lt
    have hlt8 := HP.out.lt
    have hsz8 := HB.out.size
    clear hb
    have HZ := hide (RBlk.new w8 Z7 30)
    go_wp2_with (first | (refine wpList_store_rowR (by rfl) (.tmp 15) (.tmp 53) rfl rfl rfl HZ.out rfl sizeBk (one7 _ _ _ _ _ _ _) ?_; intro w9 HC hS; replace HC := hide HC; replace HP := hide (show PBlk w9 w1.heap.size P from (hS.2.2 _ (by omega)).trans (HP.out.alloc _)); replace HB := hide (hS.1 w.heap.size w (by omega) (HB.out.alloc (by omega) _)); replace HX := hide (hS.row (HX.out.alloc _) (by omega)); replace HA := hide (hS.row (HA.out.alloc _) (by omega)); clear hS HZ))
    refine (awake15_c _).mono ?_
    rintro e w20 ⟨rfl, hb⟩
    have hBf := HB.out.trans (hb.mono HB.out.size)
    clear hb
    go_wp2
    go_ret
    exact ⟨rfl, hBf⟩
  · have HU2 := hide (fun w => ugY (u := u) (x := m) (P := P) (by omega) (by omega) (P 3) (P 4) (P 5) (P 6) hP u0 (by omega) w)
    rcases Int.lt_or_le (P 7 - u) (m + n) with hn | hn
    · have HU1 := hide (fun w => ugN (u := u) (x := m + n) (P := P) (by omega) (by omega) (P 3) (P 4) (P 5) (P 6) hP u0 (by omega) w)
      have HU3 := hide (fun w => ugN (u := u + m) (x := n) (P := P) (by omega) (by omega) (P 3) (P 4) (P 5) (P 6) hP (by omega) (by omega) w)
      have HE := eqB_law 0 0 0 0 0 0 0
      clear hm hn
      go_enter Try.func3, Try.ntmps3
      go_wp2_with fail
      refine (HVP.out _).mono ?_
      rintro e w1 ⟨rfl, hb1⟩
      have hs1 := hb1.size
      simp only [World.size_alloc] at hs1
      have HZ := hide (PBlk.new w1 (fun _ => 0))
      have hsz : w.heap.size ≤ w1.heap.size := by omega
      have HB1 := hide (show Below w.heap.size w w1 from ((Below.refl _ _).alloc (Nat.le_refl _) _).trans (hb1.mono (by simp)))
      clear hb1 HVP
      go_upto_region 2 with (refine wpList_store_row26 rfl (.tmp 9) (.tmp 20) rfl (g := w1.heap.size) P rfl rfl HZ.out ?_; intro w3 HP hB3 _; replace HP := hide HP; have HB := hide (hB3 w.heap.size w hsz (HB1.out.alloc hsz _)); have hlt := HP.out.lt; clear hB3 HZ)
      (try simp only [Act.put, List.setIfInBounds_toArray, List.set_cons_succ, List.set_cons_zero])
      have d7 := HP.out.cell (i := 7) (by omega)
      obtain ⟨d3, d4, d5, d6⟩ := HP.out.fee
      go_region_held3 (fun w' => w'.cell? ⟨w1.heap.size, 7, none⟩ = some (.int .u64 (P 7)) ∧ w'.cell? ⟨w1.heap.size, 3, none⟩ = some (.int .u64 (P 3)) ∧ w'.cell? ⟨w1.heap.size, 4, none⟩ = some (.int .u64 (P 4)) ∧ w'.cell? ⟨w1.heap.size, 5, none⟩ = some (.int .u64 (P 5)) ∧ w'.cell? ⟨w1.heap.size, 6, none⟩ = some (.int .u64 (P 6))) (simp (maxDischargeDepth := 16) [go_sem, *, World.cell?_alloc_some, World.cell?_setCell_far]) (fail)
      refine cutB (w := w) (g := w1.heap.size) (b := w3.heap.size) (P := P) (cs := #[.int .u64 1, .int .u64 0, .int .u64 u, .int .u64 (P 3), .int .u64 (P 4), .int .u64 (P 5), .int .u64 (P 6)]) (T := 30) (HB.out.alloc HB.out.size _).drew (HP.out.alloc _).drew (RBlk.new w3 #[.int .u64 1, .int .u64 0, .int .u64 u, .int .u64 (P 3), .int .u64 (P 4), .int .u64 (P 5), .int .u64 (P 6)] 30).drew ?_
      clear HB HP d7 d3 d4 d5 d6 hlt
      intro w4 HB HP HX
      have hlt := HP.out.lt
      have d7 := HP.out.cell (i := 7) (by omega)
      go_wp2_with fail
      go_region_held3 (fun w' => w'.cell? ⟨w1.heap.size, 7, none⟩ = some (.int .u64 (P 7))) (simp (maxDischargeDepth := 16) [go_sem, *, World.cell?_alloc_some, World.cell?_setCell_far]) (fail)
      refine cutB (w := w) (g := w1.heap.size) (b := w3.heap.size) (P := P) (cs := #[.int .u64 1, .int .u64 0, .int .u64 u, .int .u64 (P 3), .int .u64 (P 4), .int .u64 (P 5), .int .u64 (P 6)]) (T := 30) HB.out.drew HP.out.drew HX.out.drew ?_
      clear HB HP HX d7 hlt
      intro w5 HB HP HX
      have hlt := HP.out.lt
      have hsz5 := HB.out.size
      have hlx5 := HX.out.lt
      go_wp2_with (first | (refine wpList_load_rowR (by rfl) (.tmp 10) rfl (g := w3.heap.size) rfl HX.out Try.underlying30 rfl sizeBk ?_) | (refine wpList_load_row26 (P := P) rfl (.tmp 9) rfl (g := w1.heap.size) rfl HP.out ?_))
      refine (HU1.out _).mono ?_
      rintro e w6 ⟨rfl, hb⟩
      replace HB := hide (HB.out.trans (hb.mono HB.out.size))
      replace HP := hide (HP.out.below hb HP.out.lt)
      replace HX := hide (HX.out.below hb HX.out.lt)
      have hlHX6 := HX.out.lt
      have hlt6 := HP.out.lt
      have hsz6 := HB.out.size
      clear hb
      have HZ := hide (RBlk.new w6 Z7 30)
      go_wp2_with (first | (refine wpList_store_rowR (by rfl) (.tmp 13) (.tmp 46) rfl rfl rfl HZ.out rfl sizeBk (one7 _ _ _ _ _ _ _) ?_; intro w7 HA hS; replace HA := hide HA; replace HP := hide (show PBlk w7 w1.heap.size P from (hS.2.2 _ (by omega)).trans (HP.out.alloc _)); replace HB := hide (hS.1 w.heap.size w (by omega) (HB.out.alloc (by omega) _)); replace HX := hide (hS.row (HX.out.alloc _) (by omega)); clear hS HZ) | (refine wpList_load_rowR (by rfl) (.tmp 10) rfl (g := w3.heap.size) rfl HX.out Try.underlying30 rfl sizeBk ?_) | (refine wpList_load_row26 (P := P) rfl (.tmp 9) rfl (g := w1.heap.size) rfl HP.out ?_))
      refine (HU2.out _).mono ?_
      rintro e w8 ⟨rfl, hb⟩
      replace HB := hide (HB.out.trans (hb.mono HB.out.size))
      replace HP := hide (HP.out.below hb HP.out.lt)
      replace HX := hide (HX.out.below hb HX.out.lt)
      have hlHX8 := HX.out.lt
      replace HA := hide (HA.out.below hb HA.out.lt)
      have hlHA8 := HA.out.lt
      have hlt8 := HP.out.lt
      have hsz8 := HB.out.size
      clear hb
      have HZ := hide (RBlk.new w8 Z7 30)
      go_wp2_with (first | (refine wpList_store_rowR (by rfl) (.tmp 15) (.tmp 53) rfl rfl rfl HZ.out rfl sizeBk (one7 _ _ _ _ _ _ _) ?_; intro w9 HC hS; replace HC := hide HC; replace HP := hide (show PBlk w9 w1.heap.size P from (hS.2.2 _ (by omega)).trans (HP.out.alloc _)); replace HB := hide (hS.1 w.heap.size w (by omega) (HB.out.alloc (by omega) _)); replace HX := hide (hS.row (HX.out.alloc _) (by omega)); replace HA := hide (hS.row (HA.out.alloc _) (by omega)); clear hS HZ) | (refine wpList_load_rowR (by rfl) (.tmp 15) rfl (g := w8.heap.size) rfl HC.out Try.underlying30 rfl sizeBk ?_) | (refine wpList_load_row26 (P := P) rfl (.tmp 9) rfl (g := w1.heap.size) rfl HP.out ?_))
      refine (HU3.out _).mono ?_
      rintro e w10 ⟨rfl, hb⟩
      replace HB := hide (HB.out.trans (hb.mono HB.out.size))
      replace HP := hide (HP.out.below hb HP.out.lt)
      replace HA := hide (HA.out.below hb HA.out.lt)
      have hlHA10 := HA.out.lt
      have hlt10 := HP.out.lt
      have hsz10 := HB.out.size
      clear hb
      have HZ := hide (RBlk.new w10 Z7 30)
      go_wp2_with (first | (refine wpList_store_rowR (by rfl) (.tmp 17) (.tmp 71) rfl rfl rfl HZ.out rfl sizeBk (one7 _ _ _ _ _ _ _) ?_; intro w11 HD hS; replace HD := hide HD; replace HP := hide (show PBlk w11 w1.heap.size P from (hS.2.2 _ (by omega)).trans (HP.out.alloc _)); replace HB := hide (hS.1 w.heap.size w (by omega) (HB.out.alloc (by omega) _)); replace HA := hide (hS.row (HA.out.alloc _) (by omega)); clear hS HZ) | (refine wpList_load_rowR (by rfl) (.tmp 17) rfl (g := w10.heap.size) rfl HD.out Try.underlying30 rfl sizeBk ?_) | (refine wpList_load_rowR (by rfl) (.tmp 13) rfl (g := w6.heap.size) rfl HA.out Try.underlying30 rfl sizeBk ?_))
      refine (awake15_c _).mono ?_
      rintro e w20 ⟨rfl, hb⟩
      have hBf := HB.out.trans (hb.mono HB.out.size)
      clear hb
      go_wp2
      go_ret
      exact ⟨rfl, hBf⟩
    · have HU1 := hide (fun w => ugY (u := u) (x := m + n) (P := P) (by omega) (by omega) (P 3) (P 4) (P 5) (P 6) hP u0 (by omega) w)
      have HU3 := fun w => ugY (u := u + m) (x := n) (P := P) (by omega) (by omega) (P 3) (P 4) (P 5) (P 6) hP (by omega) (by omega) w
      rw [Int.add_assoc u m n] at HU3
      replace HU3 := hide HU3
      have HE := eqB_law 1 0 (u + (m + n)) (P 3) (P 4) (P 5) (P 6)
      clear hm hn
      go_enter Try.func3, Try.ntmps3
      go_wp2_with fail
      refine (HVP.out _).mono ?_
      rintro e w1 ⟨rfl, hb1⟩
      have hs1 := hb1.size
      simp only [World.size_alloc] at hs1
      have HZ := hide (PBlk.new w1 (fun _ => 0))
      have hsz : w.heap.size ≤ w1.heap.size := by omega
      have HB1 := hide (show Below w.heap.size w w1 from ((Below.refl _ _).alloc (Nat.le_refl _) _).trans (hb1.mono (by simp)))
      clear hb1 HVP
      go_upto_region 2 with (refine wpList_store_row26 rfl (.tmp 9) (.tmp 20) rfl (g := w1.heap.size) P rfl rfl HZ.out ?_; intro w3 HP hB3 _; replace HP := hide HP; have HB := hide (hB3 w.heap.size w hsz (HB1.out.alloc hsz _)); have hlt := HP.out.lt; clear hB3 HZ)
      (try simp only [Act.put, List.setIfInBounds_toArray, List.set_cons_succ, List.set_cons_zero])
      have d7 := HP.out.cell (i := 7) (by omega)
      obtain ⟨d3, d4, d5, d6⟩ := HP.out.fee
      go_region_held3 (fun w' => w'.cell? ⟨w1.heap.size, 7, none⟩ = some (.int .u64 (P 7)) ∧ w'.cell? ⟨w1.heap.size, 3, none⟩ = some (.int .u64 (P 3)) ∧ w'.cell? ⟨w1.heap.size, 4, none⟩ = some (.int .u64 (P 4)) ∧ w'.cell? ⟨w1.heap.size, 5, none⟩ = some (.int .u64 (P 5)) ∧ w'.cell? ⟨w1.heap.size, 6, none⟩ = some (.int .u64 (P 6))) (simp (maxDischargeDepth := 16) [go_sem, *, World.cell?_alloc_some, World.cell?_setCell_far]) (fail)
      refine cutB (w := w) (g := w1.heap.size) (b := w3.heap.size) (P := P) (cs := #[.int .u64 1, .int .u64 0, .int .u64 u, .int .u64 (P 3), .int .u64 (P 4), .int .u64 (P 5), .int .u64 (P 6)]) (T := 30) (HB.out.alloc HB.out.size _).drew (HP.out.alloc _).drew (RBlk.new w3 #[.int .u64 1, .int .u64 0, .int .u64 u, .int .u64 (P 3), .int .u64 (P 4), .int .u64 (P 5), .int .u64 (P 6)] 30).drew ?_
      clear HB HP d7 d3 d4 d5 d6 hlt
      intro w4 HB HP HX
      have hlt := HP.out.lt
      have d7 := HP.out.cell (i := 7) (by omega)
      go_wp2_with fail
      go_region_held3 (fun w' => w'.cell? ⟨w1.heap.size, 7, none⟩ = some (.int .u64 (P 7))) (simp (maxDischargeDepth := 16) [go_sem, *, World.cell?_alloc_some, World.cell?_setCell_far]) (fail)
      refine cutB (w := w) (g := w1.heap.size) (b := w3.heap.size) (P := P) (cs := #[.int .u64 1, .int .u64 0, .int .u64 u, .int .u64 (P 3), .int .u64 (P 4), .int .u64 (P 5), .int .u64 (P 6)]) (T := 30) HB.out.drew HP.out.drew HX.out.drew ?_
      clear HB HP HX d7 hlt
      intro w5 HB HP HX
      have hlt := HP.out.lt
      have hsz5 := HB.out.size
      have hlx5 := HX.out.lt
      go_wp2_with (first | (refine wpList_load_rowR (by rfl) (.tmp 10) rfl (g := w3.heap.size) rfl HX.out Try.underlying30 rfl sizeBk ?_) | (refine wpList_load_row26 (P := P) rfl (.tmp 9) rfl (g := w1.heap.size) rfl HP.out ?_))
      refine (HU1.out _).mono ?_
      rintro e w6 ⟨rfl, hb⟩
      replace HB := hide (HB.out.trans (hb.mono HB.out.size))
      replace HP := hide (HP.out.below hb HP.out.lt)
      replace HX := hide (HX.out.below hb HX.out.lt)
      have hlHX6 := HX.out.lt
      have hlt6 := HP.out.lt
      have hsz6 := HB.out.size
      clear hb
      have HZ := hide (RBlk.new w6 Z7 30)
      go_wp2_with (first | (refine wpList_store_rowR (by rfl) (.tmp 13) (.tmp 46) rfl rfl rfl HZ.out rfl sizeBk (one7 _ _ _ _ _ _ _) ?_; intro w7 HA hS; replace HA := hide HA; replace HP := hide (show PBlk w7 w1.heap.size P from (hS.2.2 _ (by omega)).trans (HP.out.alloc _)); replace HB := hide (hS.1 w.heap.size w (by omega) (HB.out.alloc (by omega) _)); replace HX := hide (hS.row (HX.out.alloc _) (by omega)); clear hS HZ) | (refine wpList_load_rowR (by rfl) (.tmp 10) rfl (g := w3.heap.size) rfl HX.out Try.underlying30 rfl sizeBk ?_) | (refine wpList_load_row26 (P := P) rfl (.tmp 9) rfl (g := w1.heap.size) rfl HP.out ?_))
      refine (HU2.out _).mono ?_
      rintro e w8 ⟨rfl, hb⟩
      replace HB := hide (HB.out.trans (hb.mono HB.out.size))
      replace HP := hide (HP.out.below hb HP.out.lt)
      replace HX := hide (HX.out.below hb HX.out.lt)
      have hlHX8 := HX.out.lt
      replace HA := hide (HA.out.below hb HA.out.lt)
      have hlHA8 := HA.out.lt
      have hlt8 := HP.out.lt
      have hsz8 := HB.out.size
      clear hb
      have HZ := hide (RBlk.new w8 Z7 30)
      go_wp2_with (first | (refine wpList_store_rowR (by rfl) (.tmp 15) (.tmp 53) rfl rfl rfl HZ.out rfl sizeBk (one7 _ _ _ _ _ _ _) ?_; intro w9 HC hS; replace HC := hide HC; replace HP := hide (show PBlk w9 w1.heap.size P from (hS.2.2 _ (by omega)).trans (HP.out.alloc _)); replace HB := hide (hS.1 w.heap.size w (by omega) (HB.out.alloc (by omega) _)); replace HX := hide (hS.row (HX.out.alloc _) (by omega)); replace HA := hide (hS.row (HA.out.alloc _) (by omega)); clear hS HZ) | (refine wpList_load_rowR (by rfl) (.tmp 15) rfl (g := w8.heap.size) rfl HC.out Try.underlying30 rfl sizeBk ?_) | (refine wpList_load_row26 (P := P) rfl (.tmp 9) rfl (g := w1.heap.size) rfl HP.out ?_))
      refine (HU3.out _).mono ?_
      rintro e w10 ⟨rfl, hb⟩
      replace HB := hide (HB.out.trans (hb.mono HB.out.size))
      replace HP := hide (HP.out.below hb HP.out.lt)
      replace HA := hide (HA.out.below hb HA.out.lt)
      have hlHA10 := HA.out.lt
      have hlt10 := HP.out.lt
      have hsz10 := HB.out.size
      clear hb
      have HZ := hide (RBlk.new w10 Z7 30)
      go_wp2_with (first | (refine wpList_store_rowR (by rfl) (.tmp 17) (.tmp 71) rfl rfl rfl HZ.out rfl sizeBk (one7 _ _ _ _ _ _ _) ?_; intro w11 HD hS; replace HD := hide HD; replace HP := hide (show PBlk w11 w1.heap.size P from (hS.2.2 _ (by omega)).trans (HP.out.alloc _)); replace HB := hide (hS.1 w.heap.size w (by omega) (HB.out.alloc (by omega) _)); replace HA := hide (hS.row (HA.out.alloc _) (by omega)); clear hS HZ) | (refine wpList_load_rowR (by rfl) (.tmp 17) rfl (g := w10.heap.size) rfl HD.out Try.underlying30 rfl sizeBk ?_) | (refine wpList_load_rowR (by rfl) (.tmp 13) rfl (g := w6.heap.size) rfl HA.out Try.underlying30 rfl sizeBk ?_))
      refine (awake15_c _).mono ?_
      rintro e w20 ⟨rfl, hb⟩
      have hBf := HB.out.trans (hb.mono HB.out.size)
      clear hb
      go_wp2
      go_ret
      exact ⟨rfl, hBf⟩
theorem BlockSplitUse_walk (x0 x1 x2 x3 x4 x5 x6 x7 a x y : Int) (w0 : (Lit.int .u64 x0).wf = true) (w1 : (Lit.int .u64 x1).wf = true) (w2 : (Lit.int .u64 x2).wf = true) (w3 : (Lit.int .u64 x3).wf = true) (w4 : (Lit.int .u64 x4).wf = true) (w5 : (Lit.int .u64 x5).wf = true) (w6 : (Lit.int .u64 x6).wf = true) (w7 : (Lit.int .u64 x7).wf = true) (w8 : (Lit.int .u64 a).wf = true) (w9 : (Lit.int .u64 x).wf = true) (w10 : (Lit.int .u64 y).wf = true) (w : World) :
    Calls Try.prog 3 #[.agg #[.int .u64 x0, .int .u64 x1, .int .u64 x2, .int .u64 x3, .int .u64 x4, .int .u64 x5, .int .u64 x6, .int .u64 x7], .int .u64 a, .int .u64 x, .int .u64 y] w fun e w' => e = .returned (.bool true) ∧ Below w.heap.size w w' :=
  bsu_c (v8 x0 x1 x2 x3 x4 x5 x6 x7) (v8_w w0 w1 w2 w3 w4 w5 w6 w7) (bounds_u64 w8).1 (bounds_u64 w9).1 (bounds_u64 w10).1 w
end Go.Proofs.Ytkneiobohhhcpaa
