/- chapter 14: ValidParams. -/
import Derived.WalkKit
import Derived.KernelRfl
import Derived.RowKit3
import Derived.Deep.LoopGhost
import Derived.Deep.QuietTactic
import Derived.BigQuiet
import Derived.WideLaws
import Derived.Laws.Rows
import Derived.Below
import Derived.Deep.Draws
import Derived.Outline
import Derived.LoopN
import Derived.Handy
import Derived.Laws.Externs
import Derived.Laws.BitsAllLaws
import Derived.Laws.BitsLemmas
import Derived.Deep.DeepCutAuto
import Derived.Deep.CutBlock
import Derived.Deep.RegionHeld3
import Derived.Test.YtkneiobohhhcpaaF1
import Derived.Test.YtkneiobohhhcpaaE2
namespace Go.Proofs.Ytkneiobohhhcpaa
open Go.RowKit
set_option linter.unusedVariables false
set_option linter.unusedSimpArgs false
/-- The parameters that v determines. -/
def vpP (v : Nat → Int) : Nat → Int
  | 0 => 1 + v 0 % 2 ^ (1 + v 0 % 40).toNat
  | 1 => v 1 % 40
  | 2 => 1 + v 2 % 300
  | 3 => 1 + v 3 % 2 ^ (1 + v 3 % 60).toNat
  | 7 => 1 + v 4 % 2 ^ (10 + v 4 % 30).toNat
  | 8 => v 5 % 2 ^ (1 + v 5 % 60).toNat
  | 12 => v 6 % 10001
  | 13 => v 6 % 5000
  | 17 => 1 + v 7 % 2 ^ (1 + v 7 % 40).toNat
  | 18 => 1 + v 7 / 7 % 100
  | 19 => 16 | 20 => 65536 | _ => 0
theorem two_lt {n m : Nat} (h : n ≤ m) : (2 : Int) ^ n ≤ 2 ^ m := by exact_mod_cast Nat.pow_le_pow_right (by omega) h
theorem two_pos (n : Nat) : (0 : Int) < 2 ^ n := Int.pow_pos (by omega)
/-- x % (1 << (C + x % K)) -/
theorem pw_facts {x : Int} (x0 : 0 ≤ x) (x1 : x < 18446744073709551616) {C K : Int} {c k : Nat} (hC : C = c) (hK : K = k) (hk : 0 < k) (h : c + k ≤ 62) :
    ∃ (t n : Nat) (p r : Int), x.tmod K = t ∧ IntKind.u64.wrap (C + t) = n ∧ min n 64 = n ∧ IntKind.u64.wrap (2 ^ n) = p ∧ ¬ (p = 0) ∧ (p == 0) = false ∧ x.tmod p = r ∧ 0 ≤ r ∧ IntKind.u64.wrap (1 + r) = 1 + r ∧ r < 18446744073709551615 ∧ r = x % 2 ^ (C + x % K).toNat := by
  subst hC hK
  have hr0 : 0 ≤ x % (k : Int) := Int.emod_nonneg _ (by omega)
  have hr1 : x % (k : Int) < k := Int.emod_lt_of_pos _ (by omega)
  obtain ⟨t, ht⟩ := Int.eq_ofNat_of_zero_le hr0
  have hp := two_pos (c + t)
  have hp1 : (2 : Int) ^ (c + t) ≤ 2 ^ 63 := two_lt (by omega)
  have h63 : (2 : Int) ^ 63 = 9223372036854775808 := by decide
  rw [h63] at hp1
  have hm0 : 0 ≤ x % 2 ^ (c + t) := Int.emod_nonneg _ (by omega)
  have hm1 : x % 2 ^ (c + t) < 2 ^ (c + t) := Int.emod_lt_of_pos _ hp
  refine ⟨t, c + t, 2 ^ (c + t), x % 2 ^ (c + t), by rw [Int.tmod_eq_emod_of_nonneg x0, ht], by rw [wrap_mod]; omega, by omega, by rw [wrap_mod, Int.emod_eq_of_lt (by omega) (by omega)], by omega, by rw [beq_eq_false_iff_ne]; omega, Int.tmod_eq_emod_of_nonneg x0, hm0, by rw [wrap_mod]; omega, by omega, ?_⟩
  rw [ht, show ((c : Int) + (t : Int)).toNat = c + t by omega]
/-- x % K -/
theorem mo_facts {x : Int} (x0 : 0 ≤ x) {K : Int} (h : 0 < K) (h1 : K < 4294967296) : ∃ r : Int, x.tmod K = r ∧ 0 ≤ r ∧ r < K ∧ IntKind.u64.wrap (1 + r) = 1 + r ∧ r = x % K := by
  have := Int.emod_nonneg x (show K ≠ 0 by omega)
  have := Int.emod_lt_of_pos x h
  exact ⟨x % K, Int.tmod_eq_emod_of_nonneg x0, by omega, by omega, by rw [wrap_mod]; omega, rfl⟩
/-- block g holds v -/
def VBlk (w : World) (g : Nat) (v : Nat → Int) : Prop := w.heap[g]? = some (.cells #[.int .u64 (v 0), .int .u64 (v 1), .int .u64 (v 2), .int .u64 (v 3), .int .u64 (v 4), .int .u64 (v 5), .int .u64 (v 6), .int .u64 (v 7)] 23 (0, 0))
theorem VBlk.lt {w : World} {g : Nat} {v : Nat → Int} (h : VBlk w g v) : g < w.heap.size := (Array.getElem?_eq_some_iff.1 h).1
theorem VBlk.cells {w : World} {g : Nat} {v : Nat → Int} (h : VBlk w g v) : w.cell? ⟨g, 0, none⟩ = some (.int .u64 (v 0)) ∧ w.cell? ⟨g, 1, none⟩ = some (.int .u64 (v 1)) ∧ w.cell? ⟨g, 2, none⟩ = some (.int .u64 (v 2)) ∧ w.cell? ⟨g, 3, none⟩ = some (.int .u64 (v 3)) ∧ w.cell? ⟨g, 4, none⟩ = some (.int .u64 (v 4)) ∧ w.cell? ⟨g, 5, none⟩ = some (.int .u64 (v 5)) ∧ w.cell? ⟨g, 6, none⟩ = some (.int .u64 (v 6)) ∧ w.cell? ⟨g, 7, none⟩ = some (.int .u64 (v 7)) := by
  unfold VBlk at h
  refine ⟨?_, ?_, ?_, ?_, ?_, ?_, ?_, ?_⟩ <;> simp [World.cell?, h]
theorem VBlk.below {w w' : World} {g B : Nat} {v : Nat → Int} (h : VBlk w g v) (hb : Below B w w') (hg : g < B) : VBlk w' g v := (hb.block g hg).trans h
theorem VBlk.alloc {w : World} {g : Nat} {v : Nat → Int} (h : VBlk w g v) (o : Obj) : VBlk (w.alloc o) g v := (Below.heap_alloc w o g h.lt).trans h
theorem VBlk.drew {w : World} {g : Nat} {v : Nat → Int} (h : VBlk w g v) : VBlk w.drew g v := h
theorem VBlk.far {w : World} {b g i : Nat} {v : Nat → Int} (h : VBlk w g v) (hn : b ≠ g) (x : Value) : VBlk (w.setCell ⟨b, i, none⟩ x) g v := heap_setF h hn
theorem VBlk.new (w : World) (v : Nat → Int) : VBlk (w.alloc (.cells #[.int .u64 (v 0), .int .u64 (v 1), .int .u64 (v 2), .int .u64 (v 3), .int .u64 (v 4), .int .u64 (v 5), .int .u64 (v 6), .int .u64 (v 7)] 23)) w.heap.size v := heap_alloc_new rfl
theorem PBlk.congr {w : World} {g : Nat} {P Q : Nat → Int} (h : PBlk w g P) (e : ∀ j, j < 21 → P j = Q j) : PBlk w g Q := by
  have : pC P = pC Q := by
    apply Array.ext_getElem?
    intro j
    rcases Nat.lt_or_ge j 21 with hj | hj
    · rw [pC_get P j hj, pC_get Q j hj, e j hj]
    · rw [Array.getElem?_eq_none (by rw [pC_size]; exact hj), Array.getElem?_eq_none (by rw [pC_size]; exact hj)]
  unfold PBlk at h ⊢
  rw [← this]
  exact h
/-- four cells set one after the other -/
def st1 (P : Nat → Int) (i : Nat) (x : Int) : Nat → Int := fun j => if j = i then x else P j
theorem PBlk.st {w : World} {g i : Nat} {P : Nat → Int} (h : PBlk w g P) (hi : i < 21) (x : Int) : PBlk (w.setCell ⟨g, i, none⟩ (.int .u64 x)) g (st1 P i x) := h.set hi fun _ _ => rfl
theorem cutV {f : World → Prop} {W : World} {w : World} {g0 g gr : Nat} {v P R : Nat → Int} (hb : Below w.heap.size w W) (hv : VBlk W g0 v) (hp : PBlk W g P) (hr : PBlk W gr R) (h : ∀ W', Hid (Below w.heap.size w W') → Hid (VBlk W' g0 v) → Hid (PBlk W' g P) → Hid (PBlk W' gr R) → f W') : f W := h W hb hv hp hr
set_option maxRecDepth 20000 in
set_option maxHeartbeats 16000000 in
theorem vp_c (v : Nat → Int) (hv : ∀ j, 0 ≤ v j ∧ v j < 18446744073709551616) (w : World) :
    Calls Try.prog 6 #[.agg #[.int .u64 (v 0), .int .u64 (v 1), .int .u64 (v 2), .int .u64 (v 3), .int .u64 (v 4), .int .u64 (v 5), .int .u64 (v 6), .int .u64 (v 7)]] w fun e w' => e = .returned (.agg (pC (vpP v))) ∧ Below w.heap.size w w' := by
  obtain ⟨t0, n0, p0, r0, X0⟩ := pw_facts (hv 0).1 (hv 0).2 (C := 1) (K := 40) (c := 1) (k := 40) rfl rfl (by omega) (by omega)
  replace X0 := hide X0
  obtain ⟨r1, X1⟩ := mo_facts (hv 1).1 (K := 40) (by omega) (by omega)
  replace X1 := hide X1
  obtain ⟨r2, X2⟩ := mo_facts (hv 2).1 (K := 300) (by omega) (by omega)
  replace X2 := hide X2
  obtain ⟨t3, n3, p3, r3, X3⟩ := pw_facts (hv 3).1 (hv 3).2 (C := 1) (K := 60) (c := 1) (k := 60) rfl rfl (by omega) (by omega)
  replace X3 := hide X3
  obtain ⟨t4, n4, p4, r4, X4⟩ := pw_facts (hv 4).1 (hv 4).2 (C := 10) (K := 30) (c := 10) (k := 30) rfl rfl (by omega) (by omega)
  replace X4 := hide X4
  obtain ⟨t5, n5, p5, r5, X5⟩ := pw_facts (hv 5).1 (hv 5).2 (C := 1) (K := 60) (c := 1) (k := 60) rfl rfl (by omega) (by omega)
  replace X5 := hide X5
  obtain ⟨r6, X6⟩ := mo_facts (hv 6).1 (K := 10001) (by omega) (by omega)
  replace X6 := hide X6
  obtain ⟨r8, X8⟩ := mo_facts (hv 6).1 (K := 5000) (by omega) (by omega)
  replace X8 := hide X8
  obtain ⟨t7, n7, p7, r7, X7⟩ := pw_facts (hv 7).1 (hv 7).2 (C := 1) (K := 40) (c := 1) (k := 40) rfl rfl (by omega) (by omega)
  replace X7 := hide X7
  obtain ⟨r9, X9⟩ := mo_facts (x := v 7 / 7) (Int.ediv_nonneg (hv 7).1 (by omega)) (K := 100) (by omega) (by omega)
  replace X9 := hide X9
  go_enter Try.func6, Try.ntmps6
  go_wp2_with fail
  refine (genesis_c _).mono ?_
  rintro e w1 ⟨rfl, hb1⟩
  have hs1 : w.heap.size + 2 ≤ w1.heap.size := by have := hb1.size; simpa using this
  have HV1 := hide (((VBlk.new w v).alloc (.cells (pC fun _ => 0) 27)).below hb1 (by simp; omega))
  have HR1 := hide ((PBlk.new (w.alloc (.cells #[.int .u64 (v 0), .int .u64 (v 1), .int .u64 (v 2), .int .u64 (v 3), .int .u64 (v 4), .int .u64 (v 5), .int .u64 (v 6), .int .u64 (v 7)] 23)) fun _ => 0).below hb1 (by simp))
  simp only [World.size_alloc] at HR1
  have HB1 := hide (show Below w.heap.size w w1 from (((Below.refl _ _).alloc (Nat.le_refl _) _).alloc (by simp) _).trans (hb1.mono (by simp; omega)))
  clear hb1
  have HZ := hide (PBlk.new w1 (fun _ => 0))
  go_wp2_with (refine wpList_store_row26 rfl (.tmp 3) (.tmp 4) rfl (g := w1.heap.size) Gen rfl rfl HZ.out ?_; intro w3 HP3 hB3 hF3; replace HP3 := hide HP3; have HV3 := hide ((HV1.out.alloc (.cells (pC fun _ => 0) 27)).below (hB3 w1.heap.size _ (Nat.le_refl _) (Below.refl _ _)) HV1.out.lt); have HR3 := hide (hF3 _ _ (by have := HR1.out.lt; omega) (HR1.out.alloc (.cells (pC fun _ => 0) 27))); have HB3 := hide (hB3 w.heap.size w (by omega) (HB1.out.alloc (by omega) _)); clear hB3 hF3 HZ HV1 HB1 HR1)
  (try simp only [Act.put, List.setIfInBounds_toArray, List.set_cons_succ, List.set_cons_zero])
  obtain ⟨a0, b0, c0, d0, e0, f0, g0, h0, i0, j0, -⟩ := X0.out
  obtain ⟨a1, b1, c1, d1, -⟩ := X1.out
  obtain ⟨a2, b2, c2, d2, -⟩ := X2.out
  obtain ⟨q0, q1, q2, -, -, -, -, -⟩ := HV3.out.cells
  have z0 := HP3.out.cell (i := 0) (by omega)
  have y0 := HP3.out.free 0
  have z1 := HP3.out.cell (i := 1) (by omega)
  have y1 := HP3.out.free 1
  have z2 := HP3.out.cell (i := 2) (by omega)
  have y2 := HP3.out.free 2
  obtain ⟨u0, s0⟩ := hv 0
  obtain ⟨u1, s1⟩ := hv 1
  obtain ⟨u2, s2⟩ := hv 2
  go_region_held3 (fun w' => w'.cell? ⟨w.heap.size, 0, none⟩ = some (.int .u64 (v 0)) ∧ w'.cell? ⟨w.heap.size, 1, none⟩ = some (.int .u64 (v 1)) ∧ w'.cell? ⟨w.heap.size, 2, none⟩ = some (.int .u64 (v 2))) (simp (maxDischargeDepth := 16) [go_sem, *, World.cell?_alloc_some, World.cell?_setCell_far]) (fail)
  refine cutV (w := w) (g0 := w.heap.size) (g := w1.heap.size) (gr := w.heap.size + 1) ((((HB3.out).setCell (by dsimp only; omega) _).setCell (by dsimp only; omega) _).setCell (by dsimp only; omega) _).drew ((((HV3.out).far (by omega) _).far (by omega) _).far (by omega) _).drew ((((HP3.out).st (i := 0) (by omega) (1 + r0)).st (i := 1) (by omega) (r1)).st (i := 2) (by omega) (1 + r2)).drew ((((HR3.out).far (by omega) _).far (by omega) _).far (by omega) _).drew ?_
  clear HB3 HV3 HP3 HR3 z0 y0 z1 y1 z2 y2 q0 u0 s0 q1 u1 s1 q2 u2 s2
  clear a0 b0 c0 d0 e0 f0 g0 h0 i0 j0
  clear a1 b1 c1 d1
  clear a2 b2 c2 d2
  intro w3 HB3 HV3 HP3 HR3
  go_wp2_with fail
  obtain ⟨a3, b3, c3, d3, e3, f3, g3, h3, i3, j3, -⟩ := X3.out
  obtain ⟨a4, b4, c4, d4, e4, f4, g4, h4, i4, j4, -⟩ := X4.out
  obtain ⟨-, -, -, q3, q4, -, -, -⟩ := HV3.out.cells
  have z3 := HP3.out.cell (i := 3) (by omega)
  have y3 := HP3.out.free 3
  have z4 := HP3.out.cell (i := 4) (by omega)
  have y4 := HP3.out.free 4
  have z5 := HP3.out.cell (i := 5) (by omega)
  have y5 := HP3.out.free 5
  have z6 := HP3.out.cell (i := 6) (by omega)
  have y6 := HP3.out.free 6
  have z7 := HP3.out.cell (i := 7) (by omega)
  have y7 := HP3.out.free 7
  obtain ⟨u3, s3⟩ := hv 3
  obtain ⟨u4, s4⟩ := hv 4
  go_region_held3 (fun w' => w'.cell? ⟨w.heap.size, 3, none⟩ = some (.int .u64 (v 3)) ∧ w'.cell? ⟨w.heap.size, 4, none⟩ = some (.int .u64 (v 4))) (simp (maxDischargeDepth := 16) [go_sem, *, World.cell?_alloc_some, World.cell?_setCell_far]) (fail)
  refine cutV (w := w) (g0 := w.heap.size) (g := w1.heap.size) (gr := w.heap.size + 1) ((((((HB3.out).setCell (by dsimp only; omega) _).setCell (by dsimp only; omega) _).setCell (by dsimp only; omega) _).setCell (by dsimp only; omega) _).setCell (by dsimp only; omega) _).drew ((((((HV3.out).far (by omega) _).far (by omega) _).far (by omega) _).far (by omega) _).far (by omega) _).drew ((((((HP3.out).st (i := 3) (by omega) (1 + r3)).st (i := 4) (by omega) (0)).st (i := 5) (by omega) (0)).st (i := 6) (by omega) (0)).st (i := 7) (by omega) (1 + r4)).drew ((((((HR3.out).far (by omega) _).far (by omega) _).far (by omega) _).far (by omega) _).far (by omega) _).drew ?_
  clear HB3 HV3 HP3 HR3 z3 y3 z4 y4 z5 y5 z6 y6 z7 y7 q3 u3 s3 q4 u4 s4
  clear a3 b3 c3 d3 e3 f3 g3 h3 i3 j3
  clear a4 b4 c4 d4 e4 f4 g4 h4 i4 j4
  intro w3 HB3 HV3 HP3 HR3
  go_wp2_with fail
  obtain ⟨a5, b5, c5, d5, e5, f5, g5, h5, i5, j5, -⟩ := X5.out
  obtain ⟨a6, b6, c6, d6, -⟩ := X6.out
  obtain ⟨a8, b8, c8, d8, -⟩ := X8.out
  obtain ⟨-, -, -, -, -, q5, q6, -⟩ := HV3.out.cells
  have z8 := HP3.out.cell (i := 8) (by omega)
  have y8 := HP3.out.free 8
  have z9 := HP3.out.cell (i := 9) (by omega)
  have y9 := HP3.out.free 9
  have z10 := HP3.out.cell (i := 10) (by omega)
  have y10 := HP3.out.free 10
  have z11 := HP3.out.cell (i := 11) (by omega)
  have y11 := HP3.out.free 11
  have z12 := HP3.out.cell (i := 12) (by omega)
  have y12 := HP3.out.free 12
  have z13 := HP3.out.cell (i := 13) (by omega)
  have y13 := HP3.out.free 13
  have z14 := HP3.out.cell (i := 14) (by omega)
  have y14 := HP3.out.free 14
  have z15 := HP3.out.cell (i := 15) (by omega)
  have y15 := HP3.out.free 15
  have z16 := HP3.out.cell (i := 16) (by omega)
  have y16 := HP3.out.free 16
  obtain ⟨u5, s5⟩ := hv 5
  obtain ⟨u6, s6⟩ := hv 6
  go_region_held3 (fun w' => w'.cell? ⟨w.heap.size, 5, none⟩ = some (.int .u64 (v 5)) ∧ w'.cell? ⟨w.heap.size, 6, none⟩ = some (.int .u64 (v 6))) (simp (maxDischargeDepth := 16) [go_sem, *, World.cell?_alloc_some, World.cell?_setCell_far]) (fail)
  refine cutV (w := w) (g0 := w.heap.size) (g := w1.heap.size) (gr := w.heap.size + 1) ((((((((((HB3.out).setCell (by dsimp only; omega) _).setCell (by dsimp only; omega) _).setCell (by dsimp only; omega) _).setCell (by dsimp only; omega) _).setCell (by dsimp only; omega) _).setCell (by dsimp only; omega) _).setCell (by dsimp only; omega) _).setCell (by dsimp only; omega) _).setCell (by dsimp only; omega) _).drew ((((((((((HV3.out).far (by omega) _).far (by omega) _).far (by omega) _).far (by omega) _).far (by omega) _).far (by omega) _).far (by omega) _).far (by omega) _).far (by omega) _).drew ((((((((((HP3.out).st (i := 8) (by omega) (r5)).st (i := 9) (by omega) (0)).st (i := 10) (by omega) (0)).st (i := 11) (by omega) (0)).st (i := 12) (by omega) (r6)).st (i := 13) (by omega) (r8)).st (i := 14) (by omega) (0)).st (i := 15) (by omega) (0)).st (i := 16) (by omega) (0)).drew ((((((((((HR3.out).far (by omega) _).far (by omega) _).far (by omega) _).far (by omega) _).far (by omega) _).far (by omega) _).far (by omega) _).far (by omega) _).far (by omega) _).drew ?_
  clear HB3 HV3 HP3 HR3 z8 y8 z9 y9 z10 y10 z11 y11 z12 y12 z13 y13 z14 y14 z15 y15 z16 y16 q5 u5 s5 q6 u6 s6
  clear a5 b5 c5 d5 e5 f5 g5 h5 i5 j5
  clear a6 b6 c6 d6
  clear a8 b8 c8 d8
  intro w3 HB3 HV3 HP3 HR3
  go_wp2_with fail
  obtain ⟨a7, b7, c7, d7, e7, f7, g7, h7, i7, j7, -⟩ := X7.out
  obtain ⟨a9, b9, c9, d9, -⟩ := X9.out
  have l9 : (v 7).tdiv 7 = v 7 / 7 := Int.tdiv_eq_ediv_of_nonneg (hv 7).1
  have m9 : IntKind.u64.wrap (v 7 / 7) = v 7 / 7 := by have := hv 7; rw [wrap_mod]; omega
  obtain ⟨-, -, -, -, -, -, -, q7⟩ := HV3.out.cells
  have z17 := HP3.out.cell (i := 17) (by omega)
  have y17 := HP3.out.free 17
  have z18 := HP3.out.cell (i := 18) (by omega)
  have y18 := HP3.out.free 18
  obtain ⟨u7, s7⟩ := hv 7
  go_region_held3 (fun w' => w'.cell? ⟨w.heap.size, 7, none⟩ = some (.int .u64 (v 7))) (simp (maxDischargeDepth := 16) [go_sem, *, World.cell?_alloc_some, World.cell?_setCell_far]) (fail)
  refine cutV (w := w) (g0 := w.heap.size) (g := w1.heap.size) (gr := w.heap.size + 1) (((HB3.out).setCell (by dsimp only; omega) _).setCell (by dsimp only; omega) _).drew (((HV3.out).far (by omega) _).far (by omega) _).drew (((HP3.out).st (i := 17) (by omega) (1 + r7)).st (i := 18) (by omega) (1 + r9)).drew (((HR3.out).far (by omega) _).far (by omega) _).drew ?_
  clear HB3 HV3 HP3 HR3 z17 y17 z18 y18 q7 u7 s7
  clear a7 b7 c7 d7 e7 f7 g7 h7 i7 j7
  clear a9 b9 c9 d9 l9 m9
  intro w3 HB3 HV3 HP3 HR3
  obtain ⟨-, -, -, -, -, -, -, -, -, -, k0⟩ := X0.out
  obtain ⟨-, -, -, -, k1⟩ := X1.out
  obtain ⟨-, -, -, -, k2⟩ := X2.out
  obtain ⟨-, -, -, -, -, -, -, -, -, -, k3⟩ := X3.out
  obtain ⟨-, -, -, -, -, -, -, -, -, -, k4⟩ := X4.out
  obtain ⟨-, -, -, -, -, -, -, -, -, -, k5⟩ := X5.out
  obtain ⟨-, -, -, -, k6⟩ := X6.out
  obtain ⟨-, -, -, -, k8⟩ := X8.out
  obtain ⟨-, -, -, -, -, -, -, -, -, -, k7⟩ := X7.out
  obtain ⟨-, -, -, -, k9⟩ := X9.out
  have HQ := hide (HP3.out.congr (Q := vpP v) (by
    intro j hj
    obtain rfl | rfl | rfl | rfl | rfl | rfl | rfl | rfl | rfl | rfl | rfl | rfl | rfl | rfl | rfl | rfl | rfl | rfl | rfl | rfl | rfl : j = 0 ∨ j = 1 ∨ j = 2 ∨ j = 3 ∨ j = 4 ∨ j = 5 ∨ j = 6 ∨ j = 7 ∨ j = 8 ∨ j = 9 ∨ j = 10 ∨ j = 11 ∨ j = 12 ∨ j = 13 ∨ j = 14 ∨ j = 15 ∨ j = 16 ∨ j = 17 ∨ j = 18 ∨ j = 19 ∨ j = 20 := by omega
    · exact congrArg (fun x => 1 + x) k0
    · exact k1
    · exact congrArg (fun x => 1 + x) k2
    · exact congrArg (fun x => 1 + x) k3
    · rfl
    · rfl
    · rfl
    · exact congrArg (fun x => 1 + x) k4
    · exact k5
    · rfl
    · rfl
    · rfl
    · exact k6
    · exact k8
    · rfl
    · rfl
    · rfl
    · exact congrArg (fun x => 1 + x) k7
    · exact congrArg (fun x => 1 + x) k9
    · rfl
    · rfl))
  clear HP3 HV3 k0 k1 k2 k3 k4 k5 k6 k7 k8 k9 X0 X1 X2 X3 X4 X5 X6 X7 X8 X9
  go_wp2_with (first | (refine wpList_load_row26 rfl (.tmp 3) rfl (g := w1.heap.size) rfl HQ.out ?_) | (refine wpList_store_row26 rfl (.tmp 2) (.tmp 80) rfl (g := w.heap.size + 1) (vpP v) rfl rfl HR3.out ?_; intro wz HZz hBz _; replace HZz := hide HZz; replace hBz := hide (hBz w.heap.size w (by omega) HB3.out)))
  exact bodyPost_ret (results_row1 rfl rfl HZz.out isRowP sizeP) rfl ⟨rfl, hBz.out⟩
end Go.Proofs.Ytkneiobohhhcpaa
