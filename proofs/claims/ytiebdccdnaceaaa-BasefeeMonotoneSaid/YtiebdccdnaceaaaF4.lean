/- chapter 14: BaseFeeMonotone, walked. -/
import Derived.WalkKit
import Derived.KernelRfl
import Derived.RowKit3
import Derived.Deep.LoopGhost
import Derived.Deep.QuietTactic
import Derived.BigQuiet
import Derived.WideLaws
import Derived.Laws.Rows
import Derived.Below
import Derived.Deep.Draws
import Derived.Outline
import Derived.LoopN
import Derived.Handy
import Derived.Laws.Externs
import Derived.Laws.BitsAllLaws
import Derived.Laws.BitsLemmas
import Derived.Deep.DeepCutAuto
import Derived.Deep.CutBlock
import Derived.Deep.RegionHeld3
import Derived.Test.YtiebdccdnaceaaaF3
namespace Go.Proofs.Ytiebdccdnaceaaa
open Go.RowKit
set_option linter.unusedVariables false
set_option linter.unusedSimpArgs false
def v8 (x0 x1 x2 x3 x4 x5 x6 x7 : Int) : Nat → Int
  | 0 => x0 | 1 => x1 | 2 => x2 | 3 => x3 | 4 => x4 | 5 => x5 | 6 => x6 | 7 => x7 | _ => 0
theorem v8_w {x0 x1 x2 x3 x4 x5 x6 x7 : Int} (w0 : (Lit.int .u64 x0).wf = true) (w1 : (Lit.int .u64 x1).wf = true) (w2 : (Lit.int .u64 x2).wf = true) (w3 : (Lit.int .u64 x3).wf = true) (w4 : (Lit.int .u64 x4).wf = true) (w5 : (Lit.int .u64 x5).wf = true) (w6 : (Lit.int .u64 x6).wf = true) (w7 : (Lit.int .u64 x7).wf = true) (j : Nat) : 0 ≤ v8 x0 x1 x2 x3 x4 x5 x6 x7 j ∧ v8 x0 x1 x2 x3 x4 x5 x6 x7 j < 18446744073709551616 := by
  have b0 := bounds_u64 w0; have b1 := bounds_u64 w1; have b2 := bounds_u64 w2; have b3 := bounds_u64 w3; have b4 := bounds_u64 w4; have b5 := bounds_u64 w5; have b6 := bounds_u64 w6; have b7 := bounds_u64 w7
  unfold v8
  split <;> omega
theorem cmp_le {A B : Nat} (h : A ≤ B) : ∃ z, cmpV A B = z ∧ z ≤ 0 := by
  refine ⟨_, rfl, ?_⟩
  rw [cmpV]
  split
  · decide
  · rw [if_neg (by omega)]; decide
set_option maxRecDepth 20000 in
set_option maxHeartbeats 16000000 in
theorem bfm_c (v : Nat → Int) (hv : ∀ j, 0 ≤ v j ∧ v j < 18446744073709551616) {a b : Int} (a0 : 0 ≤ a) (a1 : a < 18446744073709551616) (b0 : 0 ≤ b) (b1 : b < 18446744073709551616) (w : World) :
    Calls Try.prog 4 #[.int .u64 a, .int .u64 b, .agg #[.int .u64 (v 0), .int .u64 (v 1), .int .u64 (v 2), .int .u64 (v 3), .int .u64 (v 4), .int .u64 (v 5), .int .u64 (v 6), .int .u64 (v 7)]] w fun e w' => e = .returned (.bool true) ∧ Below w.heap.size w w' := by
  have HVP := hide (fun w => vp_c v hv w)
  have hP := vp_w hv
  have hok := vp_ok hv
  obtain ⟨P, eP⟩ : ∃ P, vpP v = P := ⟨_, rfl⟩
  rw [eP] at HVP hP hok
  clear eP
  have hA := (valid_rg hP hok).2.2.2.2.2.2.1
  have HV := hide (fun w => validP_c P hP w)
  rw [hok] at HV
  obtain ⟨A, eA⟩ : ∃ A, getN P 4 = A := ⟨_, rfl⟩
  have UA := hide (feeU hP)
  rw [eA] at UA hA
  have key : ∃ x y : Int, (if a > b then b else a) = x ∧ (if a > b then a else b) = y ∧ 0 ≤ x ∧ x ≤ y ∧ y < 18446744073709551616 := by
    by_cases h : a > b
    · rw [if_pos h, if_pos h]; exact ⟨b, a, rfl, rfl, b0, by omega, a1⟩
    · rw [if_neg h, if_neg h]; exact ⟨a, b, rfl, rfl, a0, by omega, b1⟩
  obtain ⟨x, y, ex, ey, x0, xy, y1⟩ := key
  have gx := xqV_rg hP hok x0 (by omega)
  have gy := xqV_rg hP hok (b := y) (by omega) y1
  obtain ⟨f1, f2⟩ := fe_val hP hok x0 (by omega)
  obtain ⟨g1, g2⟩ := fe_val hP hok (b := y) (by omega) y1
  obtain ⟨h1, h2⟩ := se_val hA (x := 200000) (by omega) (by omega)
  have hm : 0 ≤ P 0 * P 1 := Int.mul_nonneg (hP 0).1 (hP 1).1
  have hxy : xqV x P ≤ xqV y P := by
    have v3 := valid_rg hP hok
    have hpos : 0 < P 2 * P 0 := Int.mul_pos (by omega) (by omega)
    exact min_mono (Int.ediv_le_ediv hpos (Int.mul_le_mul_of_nonneg_right (drn_mono xy hm) (by omega)))
  rw [eA] at f2 g2
  have k0 : A ≤ feV x P := by rw [f2]; exact Nat.le_trans (Nat.le_of_eq se_zero.symm) (se_mono (Int.le_refl 0) gx.1 gx.2)
  have k1 : feV x P ≤ feV y P := by rw [f2, g2]; exact se_mono gx.1 hxy gy.2
  have k2 : feV y P ≤ seV A 200000 10 := by rw [g2, h2]; exact se_mono gy.1 gy.2 (Int.le_refl _)
  have HX := hide (fun w => fee_c P hP x0 (by omega : x < 18446744073709551616) w)
  have HY := hide (fun w => fee_c P hP (b := y) (by omega) y1 w)
  have HS := hide (fun w => sexpU_c UA.out (x := 200000) (t := 10) (by omega) (by omega) w)
  have lx := feV_lt x P
  have ly := feV_lt y P
  have lz := seV_lt A 200000 10
  rw [f1] at HX
  rw [g1] at HY
  rw [h1] at HS
  obtain ⟨X, eX⟩ : ∃ X, feV x P = X := ⟨_, rfl⟩
  obtain ⟨Y, eY⟩ : ∃ Y, feV y P = Y := ⟨_, rfl⟩
  obtain ⟨Z, eZ⟩ : ∃ Z, seV A 200000 10 = Z := ⟨_, rfl⟩
  rw [eX] at HX k0 k1 lx
  rw [eY] at HY k1 k2 ly
  rw [eZ] at HS k2 lz
  obtain ⟨z1, c1, d1⟩ := cmp_le k0
  obtain ⟨z2, c2, d2⟩ := cmp_le k1
  obtain ⟨z3, c3, d3⟩ := cmp_le k2
  have HC1 := hide (fun w => cmp_c UA.out (isU_lim lx) w)
  have HC2 := hide (fun w => cmp_c (isU_lim lx) (isU_lim ly) w)
  have HC3 := hide (fun w => cmp_c (isU_lim ly) (isU_lim lz) w)
  rw [c1] at HC1
  rw [c2] at HC2
  rw [c3] at HC3
  clear c1 c2 c3 lx ly lz k0 k1 k2 eX eY eZ f1 f2 g1 g2 h1 h2 hm gx gy hxy UA hA eA hok
  by_cases hab : a > b
  · rw [if_pos hab] at ex ey
    subst ex ey
    have hab' : b < a := hab
    clear hab
    go_enter Try.func4, Try.ntmps4
    go_wp2_with fail
    refine (HVP.out _).mono ?_
    rintro e w1 ⟨rfl, hb1⟩
    have hs1 := hb1.size
    try simp only [World.size_alloc, World.size_setCell, World.size_drew, size_drewN] at hs1
    have HZ := hide (PBlk.new w1 (fun _ => 0))
    have hsz : w.heap.size ≤ w1.heap.size := by omega
    have HB1 := hide (show Below w.heap.size w w1 from ((Below.refl _ _).alloc (Nat.le_refl _) _).trans (hb1.mono (by simp)))
    clear hb1 HVP
    go_wp2_with (first | (refine wpList_store_row26 rfl (.tmp 7) (.tmp 15) rfl (g := w1.heap.size) P rfl rfl HZ.out ?_; intro w3 HP hB3 _; replace HP := hide HP; have hB := hide (hB3 w.heap.size w hsz (HB1.out.alloc hsz _)); have hlt := HP.out.lt; clear hB3 HZ) | (refine wpList_load_row26 (P := P) rfl _ rfl rfl (by (repeat' (first | exact HP.out | (with_reducible refine PBlk.alloc ?_ _) | (with_reducible refine PBlk.drew ?_) | (refine PBlk.far ?_ (by omega) _)))) ?_))
    refine (HX.out _).mono ?_
    rintro e w2 ⟨rfl, hb2⟩
    have hs2 := hb2.size
    try simp only [World.size_alloc, World.size_setCell, World.size_drew, size_drewN] at hs2
    replace HP := hide (PBlk.below (P := P) (g := w1.heap.size) (by (repeat' (first | exact HP.out | (with_reducible refine PBlk.alloc ?_ _) | (with_reducible refine PBlk.drew ?_) | (refine PBlk.far ?_ (by omega) _)))) hb2 (by first | assumption | omega | (simp only [World.size_alloc, World.size_setCell, World.size_drew, size_drewN]; omega)))
    have hlt2 := HP.out.lt
    go_wp2_with (refine wpList_load_row26 (P := P) rfl _ rfl rfl (by (repeat' (first | exact HP.out | (with_reducible refine PBlk.alloc ?_ _) | (with_reducible refine PBlk.drew ?_) | (refine PBlk.far ?_ (by omega) _)))) ?_)
    refine (HY.out _).mono ?_
    rintro e w3 ⟨rfl, hb3⟩
    have hs3 := hb3.size
    try simp only [World.size_alloc, World.size_setCell, World.size_drew, size_drewN] at hs3
    have hc3_0 : ∀ o, w3.cell? ⟨w2.heap.size, o, none⟩ = _ := fun o => hb3.cell (p := ⟨w2.heap.size, o, none⟩) (by ((try simp only [World.size_alloc, World.size_setCell, World.size_drew, size_drewN]); omega))
    have hf3_0 : ∀ o, w3.frozen? ⟨w2.heap.size, o, none⟩ = _ := fun o => hb3.frozen (p := ⟨w2.heap.size, o, none⟩) (by ((try simp only [World.size_alloc, World.size_setCell, World.size_drew, size_drewN]); omega))
    have z3_0 : w2.heap.size < w3.heap.size := (by omega)
    replace HP := hide (PBlk.below (P := P) (g := w1.heap.size) (by (repeat' (first | exact HP.out | (with_reducible refine PBlk.alloc ?_ _) | (with_reducible refine PBlk.drew ?_) | (refine PBlk.far ?_ (by omega) _)))) hb3 (by first | assumption | omega | (simp only [World.size_alloc, World.size_setCell, World.size_drew, size_drewN]; omega)))
    have hlt3 := HP.out.lt
    obtain ⟨m3, m4, m5, m6⟩ := HP.out.fee
    go_wp2_with fail
    refine (HS.out _).mono ?_
    rintro e w4 ⟨rfl, hb4⟩
    have hs4 := hb4.size
    try simp only [World.size_alloc, World.size_setCell, World.size_drew, size_drewN] at hs4
    have hc4_0 : ∀ o, w4.cell? ⟨w2.heap.size, o, none⟩ = _ := fun o => hb4.cell (p := ⟨w2.heap.size, o, none⟩) (by ((try simp only [World.size_alloc, World.size_setCell, World.size_drew, size_drewN]); omega))
    have hf4_0 : ∀ o, w4.frozen? ⟨w2.heap.size, o, none⟩ = _ := fun o => hb4.frozen (p := ⟨w2.heap.size, o, none⟩) (by ((try simp only [World.size_alloc, World.size_setCell, World.size_drew, size_drewN]); omega))
    have z4_0 : w2.heap.size < w4.heap.size := (by omega)
    have hc4_1 : ∀ o, w4.cell? ⟨w3.heap.size, o, none⟩ = _ := fun o => hb4.cell (p := ⟨w3.heap.size, o, none⟩) (by ((try simp only [World.size_alloc, World.size_setCell, World.size_drew, size_drewN]); omega))
    have hf4_1 : ∀ o, w4.frozen? ⟨w3.heap.size, o, none⟩ = _ := fun o => hb4.frozen (p := ⟨w3.heap.size, o, none⟩) (by ((try simp only [World.size_alloc, World.size_setCell, World.size_drew, size_drewN]); omega))
    have z4_1 : w3.heap.size < w4.heap.size := (by omega)
    replace HP := hide (PBlk.below (P := P) (g := w1.heap.size) (by (repeat' (first | exact HP.out | (with_reducible refine PBlk.alloc ?_ _) | (with_reducible refine PBlk.drew ?_) | (refine PBlk.far ?_ (by omega) _)))) hb4 (by first | assumption | omega | (simp only [World.size_alloc, World.size_setCell, World.size_drew, size_drewN]; omega)))
    have hlt4 := HP.out.lt
    clear m3 m4 m5 m6
    go_wp2_with (refine wpList_load_row26 (P := P) rfl _ rfl rfl (by (repeat' (first | exact HP.out | (with_reducible refine PBlk.alloc ?_ _) | (with_reducible refine PBlk.drew ?_) | (refine PBlk.far ?_ (by omega) _)))) ?_)
    refine (HV.out _).mono ?_
    rintro e w5 ⟨rfl, hb5⟩
    have hs5 := hb5.size
    try simp only [World.size_alloc, World.size_setCell, World.size_drew, size_drewN] at hs5
    have hc5_0 : ∀ o, w5.cell? ⟨w2.heap.size, o, none⟩ = _ := fun o => hb5.cell (p := ⟨w2.heap.size, o, none⟩) (by ((try simp only [World.size_alloc, World.size_setCell, World.size_drew, size_drewN]); omega))
    have hf5_0 : ∀ o, w5.frozen? ⟨w2.heap.size, o, none⟩ = _ := fun o => hb5.frozen (p := ⟨w2.heap.size, o, none⟩) (by ((try simp only [World.size_alloc, World.size_setCell, World.size_drew, size_drewN]); omega))
    have z5_0 : w2.heap.size < w5.heap.size := (by omega)
    have hc5_1 : ∀ o, w5.cell? ⟨w3.heap.size, o, none⟩ = _ := fun o => hb5.cell (p := ⟨w3.heap.size, o, none⟩) (by ((try simp only [World.size_alloc, World.size_setCell, World.size_drew, size_drewN]); omega))
    have hf5_1 : ∀ o, w5.frozen? ⟨w3.heap.size, o, none⟩ = _ := fun o => hb5.frozen (p := ⟨w3.heap.size, o, none⟩) (by ((try simp only [World.size_alloc, World.size_setCell, World.size_drew, size_drewN]); omega))
    have z5_1 : w3.heap.size < w5.heap.size := (by omega)
    have hc5_2 : ∀ o, w5.cell? ⟨w4.heap.size, o, none⟩ = _ := fun o => hb5.cell (p := ⟨w4.heap.size, o, none⟩) (by ((try simp only [World.size_alloc, World.size_setCell, World.size_drew, size_drewN]); omega))
    have hf5_2 : ∀ o, w5.frozen? ⟨w4.heap.size, o, none⟩ = _ := fun o => hb5.frozen (p := ⟨w4.heap.size, o, none⟩) (by ((try simp only [World.size_alloc, World.size_setCell, World.size_drew, size_drewN]); omega))
    have z5_2 : w4.heap.size < w5.heap.size := (by omega)
    replace HP := hide (PBlk.below (P := P) (g := w1.heap.size) (by (repeat' (first | exact HP.out | (with_reducible refine PBlk.alloc ?_ _) | (with_reducible refine PBlk.drew ?_) | (refine PBlk.far ?_ (by omega) _)))) hb5 (by first | assumption | omega | (simp only [World.size_alloc, World.size_setCell, World.size_drew, size_drewN]; omega)))
    have hlt5 := HP.out.lt
    obtain ⟨m3, m4, m5, m6⟩ := HP.out.fee
    go_wp2_with fail
    refine (HC1.out _).mono ?_
    rintro e w6 ⟨rfl, hb6⟩
    have hs6 := hb6.size
    try simp only [World.size_alloc, World.size_setCell, World.size_drew, size_drewN] at hs6
    have hc6_0 : ∀ o, w6.cell? ⟨w2.heap.size, o, none⟩ = _ := fun o => hb6.cell (p := ⟨w2.heap.size, o, none⟩) (by ((try simp only [World.size_alloc, World.size_setCell, World.size_drew, size_drewN]); omega))
    have hf6_0 : ∀ o, w6.frozen? ⟨w2.heap.size, o, none⟩ = _ := fun o => hb6.frozen (p := ⟨w2.heap.size, o, none⟩) (by ((try simp only [World.size_alloc, World.size_setCell, World.size_drew, size_drewN]); omega))
    have z6_0 : w2.heap.size < w6.heap.size := (by omega)
    have hc6_1 : ∀ o, w6.cell? ⟨w3.heap.size, o, none⟩ = _ := fun o => hb6.cell (p := ⟨w3.heap.size, o, none⟩) (by ((try simp only [World.size_alloc, World.size_setCell, World.size_drew, size_drewN]); omega))
    have hf6_1 : ∀ o, w6.frozen? ⟨w3.heap.size, o, none⟩ = _ := fun o => hb6.frozen (p := ⟨w3.heap.size, o, none⟩) (by ((try simp only [World.size_alloc, World.size_setCell, World.size_drew, size_drewN]); omega))
    have z6_1 : w3.heap.size < w6.heap.size := (by omega)
    have hc6_2 : ∀ o, w6.cell? ⟨w4.heap.size, o, none⟩ = _ := fun o => hb6.cell (p := ⟨w4.heap.size, o, none⟩) (by ((try simp only [World.size_alloc, World.size_setCell, World.size_drew, size_drewN]); omega))
    have hf6_2 : ∀ o, w6.frozen? ⟨w4.heap.size, o, none⟩ = _ := fun o => hb6.frozen (p := ⟨w4.heap.size, o, none⟩) (by ((try simp only [World.size_alloc, World.size_setCell, World.size_drew, size_drewN]); omega))
    have z6_2 : w4.heap.size < w6.heap.size := (by omega)
    go_wp2_with fail
    refine (HC2.out _).mono ?_
    rintro e w7 ⟨rfl, hb7⟩
    have hs7 := hb7.size
    try simp only [World.size_alloc, World.size_setCell, World.size_drew, size_drewN] at hs7
    have hc7_0 : ∀ o, w7.cell? ⟨w2.heap.size, o, none⟩ = _ := fun o => hb7.cell (p := ⟨w2.heap.size, o, none⟩) (by ((try simp only [World.size_alloc, World.size_setCell, World.size_drew, size_drewN]); omega))
    have hf7_0 : ∀ o, w7.frozen? ⟨w2.heap.size, o, none⟩ = _ := fun o => hb7.frozen (p := ⟨w2.heap.size, o, none⟩) (by ((try simp only [World.size_alloc, World.size_setCell, World.size_drew, size_drewN]); omega))
    have z7_0 : w2.heap.size < w7.heap.size := (by omega)
    have hc7_1 : ∀ o, w7.cell? ⟨w3.heap.size, o, none⟩ = _ := fun o => hb7.cell (p := ⟨w3.heap.size, o, none⟩) (by ((try simp only [World.size_alloc, World.size_setCell, World.size_drew, size_drewN]); omega))
    have hf7_1 : ∀ o, w7.frozen? ⟨w3.heap.size, o, none⟩ = _ := fun o => hb7.frozen (p := ⟨w3.heap.size, o, none⟩) (by ((try simp only [World.size_alloc, World.size_setCell, World.size_drew, size_drewN]); omega))
    have z7_1 : w3.heap.size < w7.heap.size := (by omega)
    have hc7_2 : ∀ o, w7.cell? ⟨w4.heap.size, o, none⟩ = _ := fun o => hb7.cell (p := ⟨w4.heap.size, o, none⟩) (by ((try simp only [World.size_alloc, World.size_setCell, World.size_drew, size_drewN]); omega))
    have hf7_2 : ∀ o, w7.frozen? ⟨w4.heap.size, o, none⟩ = _ := fun o => hb7.frozen (p := ⟨w4.heap.size, o, none⟩) (by ((try simp only [World.size_alloc, World.size_setCell, World.size_drew, size_drewN]); omega))
    have z7_2 : w4.heap.size < w7.heap.size := (by omega)
    go_wp2_with fail
    refine (HC3.out _).mono ?_
    rintro e w8 ⟨rfl, hb8⟩
    have hs8 := hb8.size
    try simp only [World.size_alloc, World.size_setCell, World.size_drew, size_drewN] at hs8
    have hc8_0 : ∀ o, w8.cell? ⟨w2.heap.size, o, none⟩ = _ := fun o => hb8.cell (p := ⟨w2.heap.size, o, none⟩) (by ((try simp only [World.size_alloc, World.size_setCell, World.size_drew, size_drewN]); omega))
    have hf8_0 : ∀ o, w8.frozen? ⟨w2.heap.size, o, none⟩ = _ := fun o => hb8.frozen (p := ⟨w2.heap.size, o, none⟩) (by ((try simp only [World.size_alloc, World.size_setCell, World.size_drew, size_drewN]); omega))
    have z8_0 : w2.heap.size < w8.heap.size := (by omega)
    have hc8_1 : ∀ o, w8.cell? ⟨w3.heap.size, o, none⟩ = _ := fun o => hb8.cell (p := ⟨w3.heap.size, o, none⟩) (by ((try simp only [World.size_alloc, World.size_setCell, World.size_drew, size_drewN]); omega))
    have hf8_1 : ∀ o, w8.frozen? ⟨w3.heap.size, o, none⟩ = _ := fun o => hb8.frozen (p := ⟨w3.heap.size, o, none⟩) (by ((try simp only [World.size_alloc, World.size_setCell, World.size_drew, size_drewN]); omega))
    have z8_1 : w3.heap.size < w8.heap.size := (by omega)
    have hc8_2 : ∀ o, w8.cell? ⟨w4.heap.size, o, none⟩ = _ := fun o => hb8.cell (p := ⟨w4.heap.size, o, none⟩) (by ((try simp only [World.size_alloc, World.size_setCell, World.size_drew, size_drewN]); omega))
    have hf8_2 : ∀ o, w8.frozen? ⟨w4.heap.size, o, none⟩ = _ := fun o => hb8.frozen (p := ⟨w4.heap.size, o, none⟩) (by ((try simp only [World.size_alloc, World.size_setCell, World.size_drew, size_drewN]); omega))
    have z8_2 : w4.heap.size < w8.heap.size := (by omega)
    go_wp2_with fail
    refine (awake14_c _).mono ?_
    rintro e w9 ⟨rfl, hb9⟩
    have hs9 := hb9.size
    try simp only [World.size_alloc, World.size_setCell, World.size_drew, size_drewN] at hs9
    have hc9_0 : ∀ o, w9.cell? ⟨w2.heap.size, o, none⟩ = _ := fun o => hb9.cell (p := ⟨w2.heap.size, o, none⟩) (by ((try simp only [World.size_alloc, World.size_setCell, World.size_drew, size_drewN]); omega))
    have hf9_0 : ∀ o, w9.frozen? ⟨w2.heap.size, o, none⟩ = _ := fun o => hb9.frozen (p := ⟨w2.heap.size, o, none⟩) (by ((try simp only [World.size_alloc, World.size_setCell, World.size_drew, size_drewN]); omega))
    have z9_0 : w2.heap.size < w9.heap.size := (by omega)
    have hc9_1 : ∀ o, w9.cell? ⟨w3.heap.size, o, none⟩ = _ := fun o => hb9.cell (p := ⟨w3.heap.size, o, none⟩) (by ((try simp only [World.size_alloc, World.size_setCell, World.size_drew, size_drewN]); omega))
    have hf9_1 : ∀ o, w9.frozen? ⟨w3.heap.size, o, none⟩ = _ := fun o => hb9.frozen (p := ⟨w3.heap.size, o, none⟩) (by ((try simp only [World.size_alloc, World.size_setCell, World.size_drew, size_drewN]); omega))
    have z9_1 : w3.heap.size < w9.heap.size := (by omega)
    have hc9_2 : ∀ o, w9.cell? ⟨w4.heap.size, o, none⟩ = _ := fun o => hb9.cell (p := ⟨w4.heap.size, o, none⟩) (by ((try simp only [World.size_alloc, World.size_setCell, World.size_drew, size_drewN]); omega))
    have hf9_2 : ∀ o, w9.frozen? ⟨w4.heap.size, o, none⟩ = _ := fun o => hb9.frozen (p := ⟨w4.heap.size, o, none⟩) (by ((try simp only [World.size_alloc, World.size_setCell, World.size_drew, size_drewN]); omega))
    have z9_2 : w4.heap.size < w9.heap.size := (by omega)
    have hB' := hB.out
    go_wp2
    go_ret
    exact ⟨rfl, (by (repeat' (first | (with_reducible exact Below.refl _ _) | (with_reducible assumption) | (with_reducible refine Below.alloc ?_ ?_ _) | (with_reducible refine Below.drew ?_) | (with_reducible refine below_drewN ?_ _) | (with_reducible refine Below.setCell ?_ ?_ _) | (with_reducible refine below_step (by with_reducible assumption) ?_ ?_) | (first | (with_reducible exact Nat.le_refl _) | (with_reducible assumption) | omega | (simp only [World.size_alloc, World.size_setCell, World.size_drew, size_drewN]; omega) | (simp; omega) | (simp; done)))))⟩
  · rw [if_neg hab] at ex ey
    subst ex ey
    go_enter Try.func4, Try.ntmps4
    go_wp2_with fail
    refine (HVP.out _).mono ?_
    rintro e w1 ⟨rfl, hb1⟩
    have hs1 := hb1.size
    try simp only [World.size_alloc, World.size_setCell, World.size_drew, size_drewN] at hs1
    have HZ := hide (PBlk.new w1 (fun _ => 0))
    have hsz : w.heap.size ≤ w1.heap.size := by omega
    have HB1 := hide (show Below w.heap.size w w1 from ((Below.refl _ _).alloc (Nat.le_refl _) _).trans (hb1.mono (by simp)))
    clear hb1 HVP
    go_wp2_with (first | (refine wpList_store_row26 rfl (.tmp 7) (.tmp 15) rfl (g := w1.heap.size) P rfl rfl HZ.out ?_; intro w3 HP hB3 _; replace HP := hide HP; have hB := hide (hB3 w.heap.size w hsz (HB1.out.alloc hsz _)); have hlt := HP.out.lt; clear hB3 HZ) | (refine wpList_load_row26 (P := P) rfl _ rfl rfl (by (repeat' (first | exact HP.out | (with_reducible refine PBlk.alloc ?_ _) | (with_reducible refine PBlk.drew ?_) | (refine PBlk.far ?_ (by omega) _)))) ?_))
    refine (HX.out _).mono ?_
    rintro e w2 ⟨rfl, hb2⟩
    have hs2 := hb2.size
    try simp only [World.size_alloc, World.size_setCell, World.size_drew, size_drewN] at hs2
    replace HP := hide (PBlk.below (P := P) (g := w1.heap.size) (by (repeat' (first | exact HP.out | (with_reducible refine PBlk.alloc ?_ _) | (with_reducible refine PBlk.drew ?_) | (refine PBlk.far ?_ (by omega) _)))) hb2 (by first | assumption | omega | (simp only [World.size_alloc, World.size_setCell, World.size_drew, size_drewN]; omega)))
    have hlt2 := HP.out.lt
    go_wp2_with (refine wpList_load_row26 (P := P) rfl _ rfl rfl (by (repeat' (first | exact HP.out | (with_reducible refine PBlk.alloc ?_ _) | (with_reducible refine PBlk.drew ?_) | (refine PBlk.far ?_ (by omega) _)))) ?_)
    refine (HY.out _).mono ?_
    rintro e w3 ⟨rfl, hb3⟩
    have hs3 := hb3.size
    try simp only [World.size_alloc, World.size_setCell, World.size_drew, size_drewN] at hs3
    have hc3_0 : ∀ o, w3.cell? ⟨w2.heap.size, o, none⟩ = _ := fun o => hb3.cell (p := ⟨w2.heap.size, o, none⟩) (by ((try simp only [World.size_alloc, World.size_setCell, World.size_drew, size_drewN]); omega))
    have hf3_0 : ∀ o, w3.frozen? ⟨w2.heap.size, o, none⟩ = _ := fun o => hb3.frozen (p := ⟨w2.heap.size, o, none⟩) (by ((try simp only [World.size_alloc, World.size_setCell, World.size_drew, size_drewN]); omega))
    have z3_0 : w2.heap.size < w3.heap.size := (by omega)
    replace HP := hide (PBlk.below (P := P) (g := w1.heap.size) (by (repeat' (first | exact HP.out | (with_reducible refine PBlk.alloc ?_ _) | (with_reducible refine PBlk.drew ?_) | (refine PBlk.far ?_ (by omega) _)))) hb3 (by first | assumption | omega | (simp only [World.size_alloc, World.size_setCell, World.size_drew, size_drewN]; omega)))
    have hlt3 := HP.out.lt
    obtain ⟨m3, m4, m5, m6⟩ := HP.out.fee
    go_wp2_with fail
    refine (HS.out _).mono ?_
    rintro e w4 ⟨rfl, hb4⟩
    have hs4 := hb4.size
    try simp only [World.size_alloc, World.size_setCell, World.size_drew, size_drewN] at hs4
    have hc4_0 : ∀ o, w4.cell? ⟨w2.heap.size, o, none⟩ = _ := fun o => hb4.cell (p := ⟨w2.heap.size, o, none⟩) (by ((try simp only [World.size_alloc, World.size_setCell, World.size_drew, size_drewN]); omega))
    have hf4_0 : ∀ o, w4.frozen? ⟨w2.heap.size, o, none⟩ = _ := fun o => hb4.frozen (p := ⟨w2.heap.size, o, none⟩) (by ((try simp only [World.size_alloc, World.size_setCell, World.size_drew, size_drewN]); omega))
    have z4_0 : w2.heap.size < w4.heap.size := (by omega)
    have hc4_1 : ∀ o, w4.cell? ⟨w3.heap.size, o, none⟩ = _ := fun o => hb4.cell (p := ⟨w3.heap.size, o, none⟩) (by ((try simp only [World.size_alloc, World.size_setCell, World.size_drew, size_drewN]); omega))
    have hf4_1 : ∀ o, w4.frozen? ⟨w3.heap.size, o, none⟩ = _ := fun o => hb4.frozen (p := ⟨w3.heap.size, o, none⟩) (by ((try simp only [World.size_alloc, World.size_setCell, World.size_drew, size_drewN]); omega))
    have z4_1 : w3.heap.size < w4.heap.size := (by omega)
    replace HP := hide (PBlk.below (P := P) (g := w1.heap.size) (by (repeat' (first | exact HP.out | (with_reducible refine PBlk.alloc ?_ _) | (with_reducible refine PBlk.drew ?_) | (refine PBlk.far ?_ (by omega) _)))) hb4 (by first | assumption | omega | (simp only [World.size_alloc, World.size_setCell, World.size_drew, size_drewN]; omega)))
    have hlt4 := HP.out.lt
    clear m3 m4 m5 m6
    go_wp2_with (refine wpList_load_row26 (P := P) rfl _ rfl rfl (by (repeat' (first | exact HP.out | (with_reducible refine PBlk.alloc ?_ _) | (with_reducible refine PBlk.drew ?_) | (refine PBlk.far ?_ (by omega) _)))) ?_)
    refine (HV.out _).mono ?_
    rintro e w5 ⟨rfl, hb5⟩
    have hs5 := hb5.size
    try simp only [World.size_alloc, World.size_setCell, World.size_drew, size_drewN] at hs5
    have hc5_0 : ∀ o, w5.cell? ⟨w2.heap.size, o, none⟩ = _ := fun o => hb5.cell (p := ⟨w2.heap.size, o, none⟩) (by ((try simp only [World.size_alloc, World.size_setCell, World.size_drew, size_drewN]); omega))
    have hf5_0 : ∀ o, w5.frozen? ⟨w2.heap.size, o, none⟩ = _ := fun o => hb5.frozen (p := ⟨w2.heap.size, o, none⟩) (by ((try simp only [World.size_alloc, World.size_setCell, World.size_drew, size_drewN]); omega))
    have z5_0 : w2.heap.size < w5.heap.size := (by omega)
    have hc5_1 : ∀ o, w5.cell? ⟨w3.heap.size, o, none⟩ = _ := fun o => hb5.cell (p := ⟨w3.heap.size, o, none⟩) (by ((try simp only [World.size_alloc, World.size_setCell, World.size_drew, size_drewN]); omega))
    have hf5_1 : ∀ o, w5.frozen? ⟨w3.heap.size, o, none⟩ = _ := fun o => hb5.frozen (p := ⟨w3.heap.size, o, none⟩) (by ((try simp only [World.size_alloc, World.size_setCell, World.size_drew, size_drewN]); omega))
    have z5_1 : w3.heap.size < w5.heap.size := (by omega)
    have hc5_2 : ∀ o, w5.cell? ⟨w4.heap.size, o, none⟩ = _ := fun o => hb5.cell (p := ⟨w4.heap.size, o, none⟩) (by ((try simp only [World.size_alloc, World.size_setCell, World.size_drew, size_drewN]); omega))
    have hf5_2 : ∀ o, w5.frozen? ⟨w4.heap.size, o, none⟩ = _ := fun o => hb5.frozen (p := ⟨w4.heap.size, o, none⟩) (by ((try simp only [World.size_alloc, World.size_setCell, World.size_drew, size_drewN]); omega))
    have z5_2 : w4.heap.size < w5.heap.size := (by omega)
    replace HP := hide (PBlk.below (P := P) (g := w1.heap.size) (by (repeat' (first | exact HP.out | (with_reducible refine PBlk.alloc ?_ _) | (with_reducible refine PBlk.drew ?_) | (refine PBlk.far ?_ (by omega) _)))) hb5 (by first | assumption | omega | (simp only [World.size_alloc, World.size_setCell, World.size_drew, size_drewN]; omega)))
    have hlt5 := HP.out.lt
    obtain ⟨m3, m4, m5, m6⟩ := HP.out.fee
    go_wp2_with fail
    refine (HC1.out _).mono ?_
    rintro e w6 ⟨rfl, hb6⟩
    have hs6 := hb6.size
    try simp only [World.size_alloc, World.size_setCell, World.size_drew, size_drewN] at hs6
    have hc6_0 : ∀ o, w6.cell? ⟨w2.heap.size, o, none⟩ = _ := fun o => hb6.cell (p := ⟨w2.heap.size, o, none⟩) (by ((try simp only [World.size_alloc, World.size_setCell, World.size_drew, size_drewN]); omega))
    have hf6_0 : ∀ o, w6.frozen? ⟨w2.heap.size, o, none⟩ = _ := fun o => hb6.frozen (p := ⟨w2.heap.size, o, none⟩) (by ((try simp only [World.size_alloc, World.size_setCell, World.size_drew, size_drewN]); omega))
    have z6_0 : w2.heap.size < w6.heap.size := (by omega)
    have hc6_1 : ∀ o, w6.cell? ⟨w3.heap.size, o, none⟩ = _ := fun o => hb6.cell (p := ⟨w3.heap.size, o, none⟩) (by ((try simp only [World.size_alloc, World.size_setCell, World.size_drew, size_drewN]); omega))
    have hf6_1 : ∀ o, w6.frozen? ⟨w3.heap.size, o, none⟩ = _ := fun o => hb6.frozen (p := ⟨w3.heap.size, o, none⟩) (by ((try simp only [World.size_alloc, World.size_setCell, World.size_drew, size_drewN]); omega))
    have z6_1 : w3.heap.size < w6.heap.size := (by omega)
    have hc6_2 : ∀ o, w6.cell? ⟨w4.heap.size, o, none⟩ = _ := fun o => hb6.cell (p := ⟨w4.heap.size, o, none⟩) (by ((try simp only [World.size_alloc, World.size_setCell, World.size_drew, size_drewN]); omega))
    have hf6_2 : ∀ o, w6.frozen? ⟨w4.heap.size, o, none⟩ = _ := fun o => hb6.frozen (p := ⟨w4.heap.size, o, none⟩) (by ((try simp only [World.size_alloc, World.size_setCell, World.size_drew, size_drewN]); omega))
    have z6_2 : w4.heap.size < w6.heap.size := (by omega)
    go_wp2_with fail
    refine (HC2.out _).mono ?_
    rintro e w7 ⟨rfl, hb7⟩
    have hs7 := hb7.size
    try simp only [World.size_alloc, World.size_setCell, World.size_drew, size_drewN] at hs7
    have hc7_0 : ∀ o, w7.cell? ⟨w2.heap.size, o, none⟩ = _ := fun o => hb7.cell (p := ⟨w2.heap.size, o, none⟩) (by ((try simp only [World.size_alloc, World.size_setCell, World.size_drew, size_drewN]); omega))
    have hf7_0 : ∀ o, w7.frozen? ⟨w2.heap.size, o, none⟩ = _ := fun o => hb7.frozen (p := ⟨w2.heap.size, o, none⟩) (by ((try simp only [World.size_alloc, World.size_setCell, World.size_drew, size_drewN]); omega))
    have z7_0 : w2.heap.size < w7.heap.size := (by omega)
    have hc7_1 : ∀ o, w7.cell? ⟨w3.heap.size, o, none⟩ = _ := fun o => hb7.cell (p := ⟨w3.heap.size, o, none⟩) (by ((try simp only [World.size_alloc, World.size_setCell, World.size_drew, size_drewN]); omega))
    have hf7_1 : ∀ o, w7.frozen? ⟨w3.heap.size, o, none⟩ = _ := fun o => hb7.frozen (p := ⟨w3.heap.size, o, none⟩) (by ((try simp only [World.size_alloc, World.size_setCell, World.size_drew, size_drewN]); omega))
    have z7_1 : w3.heap.size < w7.heap.size := (by omega)
    have hc7_2 : ∀ o, w7.cell? ⟨w4.heap.size, o, none⟩ = _ := fun o => hb7.cell (p := ⟨w4.heap.size, o, none⟩) (by ((try simp only [World.size_alloc, World.size_setCell, World.size_drew, size_drewN]); omega))
    have hf7_2 : ∀ o, w7.frozen? ⟨w4.heap.size, o, none⟩ = _ := fun o => hb7.frozen (p := ⟨w4.heap.size, o, none⟩) (by ((try simp only [World.size_alloc, World.size_setCell, World.size_drew, size_drewN]); omega))
    have z7_2 : w4.heap.size < w7.heap.size := (by omega)
    go_wp2_with fail
    refine (HC3.out _).mono ?_
    rintro e w8 ⟨rfl, hb8⟩
    have hs8 := hb8.size
    try simp only [World.size_alloc, World.size_setCell, World.size_drew, size_drewN] at hs8
    have hc8_0 : ∀ o, w8.cell? ⟨w2.heap.size, o, none⟩ = _ := fun o => hb8.cell (p := ⟨w2.heap.size, o, none⟩) (by ((try simp only [World.size_alloc, World.size_setCell, World.size_drew, size_drewN]); omega))
    have hf8_0 : ∀ o, w8.frozen? ⟨w2.heap.size, o, none⟩ = _ := fun o => hb8.frozen (p := ⟨w2.heap.size, o, none⟩) (by ((try simp only [World.size_alloc, World.size_setCell, World.size_drew, size_drewN]); omega))
    have z8_0 : w2.heap.size < w8.heap.size := (by omega)
    have hc8_1 : ∀ o, w8.cell? ⟨w3.heap.size, o, none⟩ = _ := fun o => hb8.cell (p := ⟨w3.heap.size, o, none⟩) (by ((try simp only [World.size_alloc, World.size_setCell, World.size_drew, size_drewN]); omega))
    have hf8_1 : ∀ o, w8.frozen? ⟨w3.heap.size, o, none⟩ = _ := fun o => hb8.frozen (p := ⟨w3.heap.size, o, none⟩) (by ((try simp only [World.size_alloc, World.size_setCell, World.size_drew, size_drewN]); omega))
    have z8_1 : w3.heap.size < w8.heap.size := (by omega)
    have hc8_2 : ∀ o, w8.cell? ⟨w4.heap.size, o, none⟩ = _ := fun o => hb8.cell (p := ⟨w4.heap.size, o, none⟩) (by ((try simp only [World.size_alloc, World.size_setCell, World.size_drew, size_drewN]); omega))
    have hf8_2 : ∀ o, w8.frozen? ⟨w4.heap.size, o, none⟩ = _ := fun o => hb8.frozen (p := ⟨w4.heap.size, o, none⟩) (by ((try simp only [World.size_alloc, World.size_setCell, World.size_drew, size_drewN]); omega))
    have z8_2 : w4.heap.size < w8.heap.size := (by omega)
    go_wp2_with fail
    refine (awake14_c _).mono ?_
    rintro e w9 ⟨rfl, hb9⟩
    have hs9 := hb9.size
    try simp only [World.size_alloc, World.size_setCell, World.size_drew, size_drewN] at hs9
    have hc9_0 : ∀ o, w9.cell? ⟨w2.heap.size, o, none⟩ = _ := fun o => hb9.cell (p := ⟨w2.heap.size, o, none⟩) (by ((try simp only [World.size_alloc, World.size_setCell, World.size_drew, size_drewN]); omega))
    have hf9_0 : ∀ o, w9.frozen? ⟨w2.heap.size, o, none⟩ = _ := fun o => hb9.frozen (p := ⟨w2.heap.size, o, none⟩) (by ((try simp only [World.size_alloc, World.size_setCell, World.size_drew, size_drewN]); omega))
    have z9_0 : w2.heap.size < w9.heap.size := (by omega)
    have hc9_1 : ∀ o, w9.cell? ⟨w3.heap.size, o, none⟩ = _ := fun o => hb9.cell (p := ⟨w3.heap.size, o, none⟩) (by ((try simp only [World.size_alloc, World.size_setCell, World.size_drew, size_drewN]); omega))
    have hf9_1 : ∀ o, w9.frozen? ⟨w3.heap.size, o, none⟩ = _ := fun o => hb9.frozen (p := ⟨w3.heap.size, o, none⟩) (by ((try simp only [World.size_alloc, World.size_setCell, World.size_drew, size_drewN]); omega))
    have z9_1 : w3.heap.size < w9.heap.size := (by omega)
    have hc9_2 : ∀ o, w9.cell? ⟨w4.heap.size, o, none⟩ = _ := fun o => hb9.cell (p := ⟨w4.heap.size, o, none⟩) (by ((try simp only [World.size_alloc, World.size_setCell, World.size_drew, size_drewN]); omega))
    have hf9_2 : ∀ o, w9.frozen? ⟨w4.heap.size, o, none⟩ = _ := fun o => hb9.frozen (p := ⟨w4.heap.size, o, none⟩) (by ((try simp only [World.size_alloc, World.size_setCell, World.size_drew, size_drewN]); omega))
    have z9_2 : w4.heap.size < w9.heap.size := (by omega)
    have hB' := hB.out
    go_wp2
    go_ret
    exact ⟨rfl, (by (repeat' (first | (with_reducible exact Below.refl _ _) | (with_reducible assumption) | (with_reducible refine Below.alloc ?_ ?_ _) | (with_reducible refine Below.drew ?_) | (with_reducible refine below_drewN ?_ _) | (with_reducible refine Below.setCell ?_ ?_ _) | (with_reducible refine below_step (by with_reducible assumption) ?_ ?_) | (first | (with_reducible exact Nat.le_refl _) | (with_reducible assumption) | omega | (simp only [World.size_alloc, World.size_setCell, World.size_drew, size_drewN]; omega) | (simp; omega) | (simp; done)))))⟩
theorem BaseFeeMonotone_walk (a b x0 x1 x2 x3 x4 x5 x6 x7 : Int) (w0 : (Lit.int .u64 a).wf = true) (w1 : (Lit.int .u64 b).wf = true) (w2 : (Lit.int .u64 x0).wf = true) (w3 : (Lit.int .u64 x1).wf = true) (w4 : (Lit.int .u64 x2).wf = true) (w5 : (Lit.int .u64 x3).wf = true) (w6 : (Lit.int .u64 x4).wf = true) (w7 : (Lit.int .u64 x5).wf = true) (w8 : (Lit.int .u64 x6).wf = true) (w9 : (Lit.int .u64 x7).wf = true) (w : World) :
    Calls Try.prog 4 #[.int .u64 a, .int .u64 b, .agg #[.int .u64 x0, .int .u64 x1, .int .u64 x2, .int .u64 x3, .int .u64 x4, .int .u64 x5, .int .u64 x6, .int .u64 x7]] w fun e w' => e = .returned (.bool true) ∧ Below w.heap.size w w' := by
  obtain ⟨p1, q1⟩ := bounds_u64 w0
  obtain ⟨p2, q2⟩ := bounds_u64 w1
  exact bfm_c (v8 x0 x1 x2 x3 x4 x5 x6 x7) (v8_w w2 w3 w4 w5 w6 w7 w8 w9) p1 (by omega) p2 (by omega) w
end Go.Proofs.Ytiebdccdnaceaaa
