/- chapter 14: BaseFeeWholeExponents, walked. -/
import Derived.WalkKit
import Derived.KernelRfl
import Derived.RowKit3
import Derived.Deep.LoopGhost
import Derived.Deep.QuietTactic
import Derived.BigQuiet
import Derived.WideLaws
import Derived.Laws.Rows
import Derived.Below
import Derived.Deep.Draws
import Derived.Outline
import Derived.LoopN
import Derived.Handy
import Derived.Laws.Externs
import Derived.Laws.BitsAllLaws
import Derived.Laws.BitsLemmas
import Derived.Deep.DeepCutAuto
import Derived.Deep.CutBlock
import Derived.Deep.RegionHeld3
import Derived.Test.YtiebdccdnaceaaaF5
namespace Go.Proofs.Ytiebdccdnaceaaa
open Go.RowKit
set_option linter.unusedVariables false
set_option linter.unusedSimpArgs false
theorem whole_facts {P : Nat → Int} (hP : PW P) (hok : fiV P = 0) (h1 : P 1 < 40) (h2 : P 2 ≤ 300) {k : Int} (k0 : 0 ≤ k) (k1 : k < 26) :
    ∃ L m n b : Int, IntKind.u64.wrap (P 0 * P 1) = L ∧ IntKind.u64.wrap (k * P 2) = m ∧ IntKind.u64.wrap (m * P 0) = n ∧ IntKind.u64.wrap (L + n) = b ∧ 0 ≤ b ∧ b < 18446744073709551616 ∧ xqV b P = min (k * 10000) 200000 := by
  obtain ⟨r0, r1, r2, r3, r4, _⟩ := valid_rg hP hok
  have p0 := hP 0; have p1 := hP 1; have p2 := hP 2
  have a0 : 0 ≤ P 0 * P 1 := Int.mul_nonneg p0.1 p1.1
  have a1 : P 0 * P 1 ≤ 1099511627776 * 40 := Int.mul_le_mul r1 (by omega) p1.1 (by omega)
  have b0 : 0 ≤ k * P 2 := Int.mul_nonneg k0 p2.1
  have b1 : k * P 2 ≤ 26 * 300 := Int.mul_le_mul (by omega) h2 p2.1 (by omega)
  have c0 : 0 ≤ k * P 2 * P 0 := Int.mul_nonneg b0 p0.1
  have c1 : k * P 2 * P 0 ≤ 26 * 300 * 1099511627776 := Int.mul_le_mul b1 r1 p0.1 (by omega)
  refine ⟨P 0 * P 1, k * P 2, k * P 2 * P 0, P 0 * P 1 + k * P 2 * P 0, by rw [wrap_mod, Int.emod_eq_of_lt a0 (by omega)], by rw [wrap_mod, Int.emod_eq_of_lt b0 (by omega)], by rw [wrap_mod, Int.emod_eq_of_lt c0 (by omega)], by rw [wrap_mod, Int.emod_eq_of_lt (by omega) (by omega)], by omega, by omega, ?_⟩
  have hd : drn (P 0 * P 1 + k * P 2 * P 0) (P 0) (P 1) = k * P 2 * P 0 := by
    unfold drn
    rw [if_neg (by omega)]
    omega
  have hpos : 0 < P 2 * P 0 := Int.mul_pos (by omega) (by omega)
  have e : k * P 2 * P 0 * 10000 = k * 10000 * (P 2 * P 0) := by
    rw [Int.mul_assoc k, Int.mul_assoc k, Int.mul_comm (P 2 * P 0), ← Int.mul_assoc]
  rw [xqV, hd, e, Int.mul_ediv_cancel _ (by omega)]
set_option maxRecDepth 20000 in
set_option maxHeartbeats 16000000 in
theorem bfw_c (v : Nat → Int) (hv : ∀ j, 0 ≤ v j ∧ v j < 18446744073709551616) (x : Int) (w : World) :
    Calls Try.prog 6 #[.int .i64 x, .agg #[.int .u64 (v 0), .int .u64 (v 1), .int .u64 (v 2), .int .u64 (v 3), .int .u64 (v 4), .int .u64 (v 5), .int .u64 (v 6), .int .u64 (v 7)]] w fun e w' => e = .returned (.bool true) ∧ Below w.heap.size w w' := by
  have HVP := hide (fun w => vp_c v hv w)
  have hP := vp_w hv
  have hok := vp_ok hv
  obtain ⟨h0, h1, h2, h3, -⟩ := vp_rg hv
  have HMo := hide (fun w => mod_c (x := x) (n := 26) (by omega) (by omega) w)
  obtain ⟨k0, k1⟩ := modV_w (x := x) (n := 26) (by omega)
  obtain ⟨k, ek⟩ : ∃ k, modV x 26 = k := ⟨_, rfl⟩
  rw [ek] at HMo k0 k1
  clear ek
  obtain ⟨P, eP⟩ : ∃ P, vpP v = P := ⟨_, rfl⟩
  rw [eP] at HVP hP hok h0 h1 h2 h3
  clear eP
  have hA := (valid_rg hP hok).2.2.2.2.2.2.1
  have UA := feeU hP
  obtain ⟨L, m, n, b, e1, e2, e3, e4, b0, b1, hx⟩ := whole_facts hP hok h1.2 h2.2 k0 k1
  obtain ⟨f1, f2⟩ := fe_val hP hok b0 b1
  have w0 : 0 ≤ min (k * 10000) 200000 ∧ min (k * 10000) 200000 ≤ 200000 := by omega
  obtain ⟨W, eW⟩ : ∃ W, min (k * 10000) 200000 = W := ⟨_, rfl⟩
  rw [eW] at hx w0
  rw [hx] at f2
  obtain ⟨g1, -, -, -, -, -, -, -⟩ := exp_facts (a := W) (b := W) (m := 10) (n := 10) w0.1 (Int.le_refl _) w0.2 (by omega) (by omega) (by omega)
  obtain ⟨E0, E1⟩ := expV_lt W 10 w0.1
  have HFe := hide (fun w => fee_c P hP b0 b1 w)
  have HX := hide (fun w => exponent_c P hP b0 b1 w)
  have HEx := hide (fun w => exp_c (x := W) (t := 10) w0.1 (by omega) w)
  have HS := hide (fun w => scale_c UA (b := expV W 10) E0 (by omega) w)
  rw [xV, xE, if_pos hok, if_pos hok, hx] at HX
  rw [g1] at HEx
  obtain ⟨A, eA⟩ : ∃ A, getN P 4 = A := ⟨_, rfl⟩
  rw [eA] at HS f2 hA
  have hp : A * (expV W 10).toNat < M256 * 10000 := by
    have : A * (expV W 10).toNat ≤ 18446744073709551616 * 5000000000000 := Nat.mul_le_mul (by omega) (by omega)
    unfold M256
    omega
  rw [mdE_zero.mpr hp, mdV_eq hp] at HS
  rw [f1, f2] at HFe
  obtain ⟨Z, eZ⟩ : ∃ Z, A * (expV W 10).toNat / 10000 = Z := ⟨_, rfl⟩
  obtain ⟨E, eE⟩ : ∃ E, expV W 10 = E := ⟨_, rfl⟩
  rw [eZ] at HFe HS
  rw [eE] at HEx HS
  have e5 : IntKind.u64.wrap k = k := by rw [wrap_mod]; omega
  have e6 : IntKind.u64.wrap (k * 10000) = k * 10000 := by rw [wrap_mod]; omega
  clear f1 f2 g1 hA UA hok h0 h1 h2 h3 eA hp eZ eE w0 b0 b1 hx E0 E1
  go_enter Try.func6, Try.ntmps6
  go_wp2_with fail
  refine (HVP.out _).mono ?_
  rintro e w1 ⟨rfl, hb1⟩
  have hs1 := hb1.size
  try simp only [World.size_alloc, World.size_setCell, World.size_drew, size_drewN] at hs1
  have HZ := hide (PBlk.new w1 (fun _ => 0))
  have hsz : w.heap.size ≤ w1.heap.size := by omega
  have HB1 := hide (show Below w.heap.size w w1 from ((Below.refl _ _).alloc (Nat.le_refl _) _).trans (hb1.mono (by simp)))
  clear hb1 HVP
  go_wp2_with (refine wpList_store_row26 rfl (.tmp 5) (.tmp 18) rfl (g := w1.heap.size) P rfl rfl HZ.out ?_; intro w3 HP hB3 _; replace HP := hide HP; have hB := hide (hB3 w.heap.size w hsz (HB1.out.alloc hsz _)); have hlt := HP.out.lt; clear hB3 HZ; obtain ⟨m0, m1, m2⟩ := HP.out.four)
  refine (HMo.out _).mono ?_
  rintro e w3' ⟨rfl, rfl⟩
  go_wp2_with (refine wpList_load_row26 (P := P) rfl _ rfl rfl (by (repeat' (first | exact HP.out | (with_reducible refine PBlk.alloc ?_ _) | (with_reducible refine PBlk.drew ?_) | (refine PBlk.far ?_ (by omega) _)))) ?_)
  refine (HX.out _).mono ?_
  rintro e w2 ⟨rfl, hb2⟩
  have hs2 := hb2.size
  try simp only [World.size_alloc, World.size_setCell, World.size_drew, size_drewN] at hs2
  replace HP := hide (PBlk.below (P := P) (g := w1.heap.size) (by (repeat' (first | exact HP.out | (with_reducible refine PBlk.alloc ?_ _) | (with_reducible refine PBlk.drew ?_) | (refine PBlk.far ?_ (by omega) _)))) hb2 (by first | assumption | omega | (simp only [World.size_alloc, World.size_setCell, World.size_drew, size_drewN]; omega)))
  have hlt2 := HP.out.lt
  clear m0 m1 m2
  go_wp2_with fail
  refine (HEx.out _).mono ?_
  rintro e w3 ⟨rfl, hb3⟩
  have hs3 := hb3.size
  try simp only [World.size_alloc, World.size_setCell, World.size_drew, size_drewN] at hs3
  replace HP := hide (PBlk.below (P := P) (g := w1.heap.size) (by (repeat' (first | exact HP.out | (with_reducible refine PBlk.alloc ?_ _) | (with_reducible refine PBlk.drew ?_) | (refine PBlk.far ?_ (by omega) _)))) hb3 (by first | assumption | omega | (simp only [World.size_alloc, World.size_setCell, World.size_drew, size_drewN]; omega)))
  have hlt3 := HP.out.lt
  go_wp2_with (refine wpList_load_row26 (P := P) rfl _ rfl rfl (by (repeat' (first | exact HP.out | (with_reducible refine PBlk.alloc ?_ _) | (with_reducible refine PBlk.drew ?_) | (refine PBlk.far ?_ (by omega) _)))) ?_)
  refine (HFe.out _).mono ?_
  rintro e w4 ⟨rfl, hb4⟩
  have hs4 := hb4.size
  try simp only [World.size_alloc, World.size_setCell, World.size_drew, size_drewN] at hs4
  replace HP := hide (PBlk.below (P := P) (g := w1.heap.size) (by (repeat' (first | exact HP.out | (with_reducible refine PBlk.alloc ?_ _) | (with_reducible refine PBlk.drew ?_) | (refine PBlk.far ?_ (by omega) _)))) hb4 (by first | assumption | omega | (simp only [World.size_alloc, World.size_setCell, World.size_drew, size_drewN]; omega)))
  have hlt4 := HP.out.lt
  obtain ⟨m3, m4, m5, m6⟩ := HP.out.fee
  go_wp2_with fail
  refine (HS.out _).mono ?_
  rintro e w5 ⟨rfl, hb5⟩
  have hs5 := hb5.size
  try simp only [World.size_alloc, World.size_setCell, World.size_drew, size_drewN] at hs5
  have hc5_0 : ∀ o, w5.cell? ⟨w4.heap.size, o, none⟩ = _ := fun o => hb5.cell (p := ⟨w4.heap.size, o, none⟩) (by ((try simp only [World.size_alloc, World.size_setCell, World.size_drew, size_drewN]); omega))
  have hf5_0 : ∀ o, w5.frozen? ⟨w4.heap.size, o, none⟩ = _ := fun o => hb5.frozen (p := ⟨w4.heap.size, o, none⟩) (by ((try simp only [World.size_alloc, World.size_setCell, World.size_drew, size_drewN]); omega))
  have z5_0 : w4.heap.size < w5.heap.size := (by omega)
  go_wp2_with fail
  refine (awake14_c _).mono ?_
  rintro e w6 ⟨rfl, hb6⟩
  have hs6 := hb6.size
  try simp only [World.size_alloc, World.size_setCell, World.size_drew, size_drewN] at hs6
  have hc6_0 : ∀ o, w6.cell? ⟨w4.heap.size, o, none⟩ = _ := fun o => hb6.cell (p := ⟨w4.heap.size, o, none⟩) (by ((try simp only [World.size_alloc, World.size_setCell, World.size_drew, size_drewN]); omega))
  have hf6_0 : ∀ o, w6.frozen? ⟨w4.heap.size, o, none⟩ = _ := fun o => hb6.frozen (p := ⟨w4.heap.size, o, none⟩) (by ((try simp only [World.size_alloc, World.size_setCell, World.size_drew, size_drewN]); omega))
  have z6_0 : w4.heap.size < w6.heap.size := (by omega)
  have hc6_1 : ∀ o, w6.cell? ⟨w5.heap.size, o, none⟩ = _ := fun o => hb6.cell (p := ⟨w5.heap.size, o, none⟩) (by ((try simp only [World.size_alloc, World.size_setCell, World.size_drew, size_drewN]); omega))
  have hf6_1 : ∀ o, w6.frozen? ⟨w5.heap.size, o, none⟩ = _ := fun o => hb6.frozen (p := ⟨w5.heap.size, o, none⟩) (by ((try simp only [World.size_alloc, World.size_setCell, World.size_drew, size_drewN]); omega))
  have z6_1 : w5.heap.size < w6.heap.size := (by omega)
  have hB' := hB.out
  go_wp2
  go_ret
  exact ⟨rfl, (by (repeat' (first | (with_reducible exact Below.refl _ _) | (with_reducible assumption) | (with_reducible refine Below.alloc ?_ ?_ _) | (with_reducible refine Below.drew ?_) | (with_reducible refine below_drewN ?_ _) | (with_reducible refine Below.setCell ?_ ?_ _) | (with_reducible refine below_step (by with_reducible assumption) ?_ ?_) | (first | (with_reducible exact Nat.le_refl _) | (with_reducible assumption) | omega | (simp only [World.size_alloc, World.size_setCell, World.size_drew, size_drewN]; omega) | (simp; omega) | (simp; done)))))⟩
theorem BaseFeeWholeExponents_walk (n x0 x1 x2 x3 x4 x5 x6 x7 : Int) (w0 : (Lit.int .i64 n).wf = true) (w1 : (Lit.int .u64 x0).wf = true) (w2 : (Lit.int .u64 x1).wf = true) (w3 : (Lit.int .u64 x2).wf = true) (w4 : (Lit.int .u64 x3).wf = true) (w5 : (Lit.int .u64 x4).wf = true) (w6 : (Lit.int .u64 x5).wf = true) (w7 : (Lit.int .u64 x6).wf = true) (w8 : (Lit.int .u64 x7).wf = true) (w : World) :
    Calls Try.prog 6 #[.int .i64 n, .agg #[.int .u64 x0, .int .u64 x1, .int .u64 x2, .int .u64 x3, .int .u64 x4, .int .u64 x5, .int .u64 x6, .int .u64 x7]] w fun e w' => e = .returned (.bool true) ∧ Below w.heap.size w w' :=
  bfw_c (v8 x0 x1 x2 x3 x4 x5 x6 x7) (v8_w w1 w2 w3 w4 w5 w6 w7 w8) n w
end Go.Proofs.Ytiebdccdnaceaaa
