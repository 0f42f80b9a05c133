/- pontageref14: Exponent, Fee. -/
import Derived.WalkKit
import Derived.KernelRfl
import Derived.RowKit3
import Derived.Deep.LoopGhost
import Derived.Deep.QuietTactic
import Derived.BigQuiet
import Derived.WideLaws
import Derived.Laws.Rows
import Derived.Below
import Derived.Deep.Draws
import Derived.Outline
import Derived.LoopN
import Derived.Handy
import Derived.Laws.Externs
import Derived.Laws.BitsAllLaws
import Derived.Laws.BitsLemmas
import Derived.Deep.DeepCutAuto
import Derived.Deep.CutBlock
import Derived.Deep.RegionHeld3
import Derived.Test.YtkneiobohhhcpaaJA
import Derived.Test.YtkneiobohhhcpaaJB
import Derived.Test.YtkneiobohhhcpaaPE
import Derived.Test.YtkneiobohhhcpaaF1
import Derived.Test.YtkneiobohhhcpaaSC
namespace Go.Proofs.Ytkneiobohhhcpaa
open Go.RowKit
set_option linter.unusedVariables false
set_option linter.unusedSimpArgs false
theorem jc_s0 : (Try.prog.info? 27).map (·.size) = some 21 := by kernel_rfl
theorem jc_z1 : (Try.prog.info? 25).map (fun i => (i.zero, i.size)) = some (some (.agg #[.int .u64 0, .int .u64 0, .int .u64 0, .int .u64 0]), 4) := by kernel_rfl
theorem jc_s2 : (Try.prog.info? 25).map (·.size) = some 4 := by kernel_rfl
theorem xq_nat {P : Nat → Int} (hP : PW P) (h : fiV P = 0) {b : Int} (b0 : 0 ≤ b) (b1 : b < 18446744073709551616) {D : Int} (hD : drn b (P 0) (P 1) = D) (d0 : 0 ≤ D) (d1 : D < 18446744073709551616) :
    0 < (P 2).toNat * (P 0).toNat ∧ min (D.toNat * (10000 : Int).toNat / ((P 2).toNat * (P 0).toNat)) (200000 : Int).toNat < M256 ∧ lim (min (D.toNat * (10000 : Int).toNat / ((P 2).toNat * (P 0).toNat)) (200000 : Int).toNat) 0 = xqV b P := by
  obtain ⟨r0, r1, r2, r3, r4, _⟩ := valid_rg hP h
  have e1 : (10000 : Int).toNat = 10000 := rfl
  have e2 : (200000 : Int).toNat = 200000 := rfl
  rw [e1, e2]
  have hp : 0 < (P 2).toNat * (P 0).toNat := Nat.mul_pos (by omega) (by omega)
  have hc : ((D.toNat * 10000 / ((P 2).toNat * (P 0).toNat) : Nat) : Int) = D * 10000 / (P 2 * P 0) := by
    rw [Int.natCast_ediv, Int.natCast_mul, Int.natCast_mul, Int.toNat_of_nonneg d0, Int.toNat_of_nonneg (show 0 ≤ P 2 by omega), Int.toNat_of_nonneg (show 0 ≤ P 0 by omega)]
    rfl
  obtain ⟨q, hq⟩ : ∃ q, D.toNat * 10000 / ((P 2).toNat * (P 0).toNat) = q := ⟨_, rfl⟩
  rw [hq] at hc ⊢
  refine ⟨hp, ?_, ?_⟩
  · unfold M256; omega
  · unfold xqV
    rw [hD, ← hc, lim0, Nat.mod_eq_of_lt (by omega)]
    omega
set_option maxRecDepth 20000 in
set_option maxHeartbeats 16000000 in
theorem rexponent_c (P : Nat → Int) (hP : PW P) {b : Int} (b0 : 0 ≤ b) (b1 : b < 18446744073709551616) (w : World) :
    Calls Try.prog 25 #[.int .u64 b, .agg (pC P)] w fun e w' => e = .returned (.tuple #[.int .u64 (xV b P), .int .i64 (xE P)]) ∧ Below w.heap.size w w' := by
  have HV := fun w => rvalid_c P hP w
  by_cases h1 : fiV P = 0
  · have tv : (fiV P == 0) = true := by simpa using h1
    rw [tv] at HV
    replace HV := hide HV
    rw [xV, xE, if_pos h1, if_pos h1]
    have p0 := hP 0; have p1 := hP 1; have p2 := hP 2
    have HX := fun w => rexc_c b0 b1 p0.1 p0.2 p1.1 p1.2 w
    obtain ⟨d0, d1⟩ := drn_rg (b := b) (s := P 0) (t := P 1) b0 b1 p0.1 p1.1
    obtain ⟨D, hD⟩ : ∃ D, drn b (P 0) (P 1) = D := ⟨_, rfl⟩
    rw [hD] at HX d0 d1
    have d2 : D < 18446744073709551616 := by omega
    replace HX := hide HX
    obtain ⟨HBy, HMn, HLm⟩ := xq_nat hP h1 b0 b1 hD d0 d2
    have F1 := hide (fun w => from64_c d0 d2 w)
    have F2 := hide (fun w => from64_c (x := 10000) (by omega) (by omega) w)
    have F4 := hide (fun w => from64_c p2.1 p2.2 w)
    have F5 := hide (fun w => from64_c p0.1 p0.2 w)
    have F6 := hide (fun w => from64_c (x := 200000) (by omega) (by omega) w)
    have hix := idx0
    replace HBy := hide HBy
    replace HMn := hide HMn
    replace HLm := hide HLm
    clear hD h1 tv p0 p1 p2 b0 b1 d0 d1 d2
    go_enter Try.func25, Try.ntmps25
    go_wp2_with (first | (refine n_box (by rfl) (T := 27) (x := (.tmp 1)) rfl (v := .agg (pC P)) rfl (ds := pC P) rfl ?_; intro w1 Hb3 hbn; have HB := hide hbn; clear hbn; replace Hb3 := hide Hb3) | (refine n_loadw (by rfl) (T := 27) (x := (.tmp 3)) rfl (g := w.heap.size) rfl Hb3.out Try.underlying27 rfl jc_s0 ?_))
    refine (HV.out _).mono ?_
    rintro e w2 ⟨rfl, hbc⟩
    replace HB := hide (HB.out.trans (hbc.mono HB.out.size))
    replace Hb3 := hide (Hb3.out.below hbc Hb3.out.lt)
    clear hbc
    go_wp2_with (first | (refine n_load (by rfl) (T := 22) (x := (.tmp 13)) rfl (g := w.heap.size) (o := 0) rfl Hb3.out (v := .int .u64 (P 0)) (by rfl) Try.underlying22 rfl ?_) | (refine n_load (by rfl) (T := 22) (x := (.tmp 15)) rfl (g := w.heap.size) (o := 1) rfl Hb3.out (v := .int .u64 (P 1)) (by rfl) Try.underlying22 rfl ?_))
    refine (HX.out _).mono ?_
    rintro e w3 ⟨rfl, hbc⟩
    replace HB := hide (HB.out.trans (hbc.mono HB.out.size))
    replace Hb3 := hide (Hb3.out.below hbc Hb3.out.lt)
    clear hbc
    go_upto_region 4 with fail
    refine Sch.start (Sch.take 0 (Sch.take 4 (Sch.take 5 (Sch.take 7 (Sch.take 8 (Sch.one 1 (Sch.one 2 (Sch.one 3 (Sch.one 6 (Sch.one 9 (Sch.one 10 (Sch.one 11 (Sch.take 12 (Sch.take 13 (Sch.take 14 (Sch.take 15 (Sch.take 16 Sch.done))))))))))))))))) (S := fun w' => Below w3.heap.size w3 w') (by kernel_rfl) (by kernel_rfl) (fun _ d _ _ _ h => by cases d <;> exact h) (by kernel_rfl) ((Below.refl _ _).drew) (fun O hO hHeld => ?_)
    (refine Sch.t_move hO rfl (by rfl) (v := .int .u64 D) (.inl rfl) rfl ?_; (try simp only [Act.put, List.setIfInBounds_toArray, List.set_cons_zero, List.set_cons_succ, Array.toArray_toList, List.getElem_toArray, List.getElem_cons_succ, List.getElem_cons_zero]))
    (refine Sch.t_val hO rfl (by rfl) (v := .pointer (some ⟨w.heap.size, 2, none⟩)) (fun w _ => (by go_simp)) ?_; (try simp only [Act.put, List.setIfInBounds_toArray, List.set_cons_zero, List.set_cons_succ, Array.toArray_toList, List.getElem_toArray, List.getElem_cons_succ, List.getElem_cons_zero]))
    (refine Sch.t_load hO rfl (by rfl) (T := 22) rfl (g := w.heap.size) (o := 2) rfl (v := .int .u64 (P 2)) (fun w' h => ((Hb3.out.below h Hb3.out.lt).cell 2).trans (by rfl)) Try.underlying22 rfl ?_; (try simp only [Act.put, List.setIfInBounds_toArray, List.set_cons_zero, List.set_cons_succ, Array.toArray_toList, List.getElem_toArray, List.getElem_cons_succ, List.getElem_cons_zero]))
    (refine Sch.t_val hO rfl (by rfl) (v := .pointer (some ⟨w.heap.size, 0, none⟩)) (fun w _ => (by go_simp)) ?_; (try simp only [Act.put, List.setIfInBounds_toArray, List.set_cons_zero, List.set_cons_succ, Array.toArray_toList, List.getElem_toArray, List.getElem_cons_succ, List.getElem_cons_zero]))
    (refine Sch.t_load hO rfl (by rfl) (T := 22) rfl (g := w.heap.size) (o := 0) rfl (v := .int .u64 (P 0)) (fun w' h => ((Hb3.out.below h Hb3.out.lt).cell 0).trans (by rfl)) Try.underlying22 rfl ?_; (try simp only [Act.put, List.setIfInBounds_toArray, List.set_cons_zero, List.set_cons_succ, Array.toArray_toList, List.getElem_toArray, List.getElem_cons_succ, List.getElem_cons_zero]))
    refine Sch.s_one hO rfl (by rfl) (fun K hK => ?_)
    go_simp
    go_at_call 37
    refine (F1.out _).mono ?_
    rintro e y4_1 ⟨ad1, m1, c1, rfl, G1, k1, hb_y4_1⟩
    go_wp2_with fail
    refine hK.out _ _ (hHeld.trans (hb_y4_1.mono hHeld.size)) (fun hHeld => ?_)
    clear hK K
    (try simp only [Act.put, List.setIfInBounds_toArray, List.set_cons_zero, List.set_cons_succ, Array.toArray_toList, List.getElem_toArray, List.getElem_cons_succ, List.getElem_cons_zero])
    refine Sch.s_one hO rfl (by rfl) (fun K hK => ?_)
    go_simp
    go_at_call 37
    refine (F2.out _).mono ?_
    rintro e y4_2 ⟨ad2, m2, c2, rfl, G2, k2, hb_y4_2⟩
    replace G1 := hide (G1.out.below hb_y4_2 (Nat.le_refl _))
    go_wp2_with fail
    refine hK.out _ _ (hHeld.trans (hb_y4_2.mono hHeld.size)) (fun hHeld => ?_)
    clear hK K
    (try simp only [Act.put, List.setIfInBounds_toArray, List.set_cons_zero, List.set_cons_succ, Array.toArray_toList, List.getElem_toArray, List.getElem_cons_succ, List.getElem_cons_zero])
    refine Sch.s_one hO rfl (by rfl) (fun K hK => ?_)
    go_simp
    go_at_call 36
    refine (rmul_c _ _ _ _ _ _ _ G1 G2 (by omega) (by omega)).mono ?_
    rintro e y4_3 ⟨ad3, m3, c3, rfl, G3, k3, hb_y4_3⟩
    go_wp2_with fail
    refine hK.out _ _ (hHeld.trans (hb_y4_3.mono hHeld.size)) (fun hHeld => ?_)
    clear hK K
    (try simp only [Act.put, List.setIfInBounds_toArray, List.set_cons_zero, List.set_cons_succ, Array.toArray_toList, List.getElem_toArray, List.getElem_cons_succ, List.getElem_cons_zero])
    refine Sch.s_one hO rfl (by rfl) (fun K hK => ?_)
    go_simp
    go_at_call 37
    refine (F4.out _).mono ?_
    rintro e y4_4 ⟨ad4, m4, c4, rfl, G4, k4, hb_y4_4⟩
    replace G3 := hide (G3.out.below hb_y4_4 (Nat.le_refl _))
    go_wp2_with fail
    refine hK.out _ _ (hHeld.trans (hb_y4_4.mono hHeld.size)) (fun hHeld => ?_)
    clear hK K
    (try simp only [Act.put, List.setIfInBounds_toArray, List.set_cons_zero, List.set_cons_succ, Array.toArray_toList, List.getElem_toArray, List.getElem_cons_succ, List.getElem_cons_zero])
    refine Sch.s_one hO rfl (by rfl) (fun K hK => ?_)
    go_simp
    go_at_call 37
    refine (F5.out _).mono ?_
    rintro e y4_5 ⟨ad5, m5, c5, rfl, G5, k5, hb_y4_5⟩
    replace G3 := hide (G3.out.below hb_y4_5 (Nat.le_refl _))
    replace G4 := hide (G4.out.below hb_y4_5 (Nat.le_refl _))
    go_wp2_with fail
    refine hK.out _ _ (hHeld.trans (hb_y4_5.mono hHeld.size)) (fun hHeld => ?_)
    clear hK K
    (try simp only [Act.put, List.setIfInBounds_toArray, List.set_cons_zero, List.set_cons_succ, Array.toArray_toList, List.getElem_toArray, List.getElem_cons_succ, List.getElem_cons_zero])
    refine Sch.s_one hO rfl (by rfl) (fun K hK => ?_)
    go_simp
    go_at_call 36
    refine (rmul_c _ _ _ _ _ _ _ G4 G5 (by omega) (by omega)).mono ?_
    rintro e y4_6 ⟨ad6, m6, c6, rfl, G6, k6, hb_y4_6⟩
    replace G3 := hide (G3.out.below hb_y4_6 (Nat.le_refl _))
    go_wp2_with fail
    refine hK.out _ _ (hHeld.trans (hb_y4_6.mono hHeld.size)) (fun hHeld => ?_)
    clear hK K
    (try simp only [Act.put, List.setIfInBounds_toArray, List.set_cons_zero, List.set_cons_succ, Array.toArray_toList, List.getElem_toArray, List.getElem_cons_succ, List.getElem_cons_zero])
    refine Sch.s_one hO rfl (by rfl) (fun K hK => ?_)
    go_simp
    go_at_call 35
    refine (rdiv_c _ _ _ _ _ _ _ G3 G6 HBy.out (by omega) (by omega)).mono ?_
    rintro e y4_7 ⟨ad7, m7, c7, ad8, m8, c8, rfl, G7, G8, k7, k8, hb_y4_7⟩
    go_wp2_with fail
    refine hK.out _ _ (hHeld.trans (hb_y4_7.mono hHeld.size)) (fun hHeld => ?_)
    clear hK K
    (try simp only [Act.put, List.setIfInBounds_toArray, List.set_cons_zero, List.set_cons_succ, Array.toArray_toList, List.getElem_toArray, List.getElem_cons_succ, List.getElem_cons_zero])
    (refine Sch.t_move hO rfl (by rfl) (v := .tuple #[.slice ad7 m7 c7, .slice ad8 m8 c8]) (.inl rfl) rfl ?_; (try simp only [Act.put, List.setIfInBounds_toArray, List.set_cons_zero, List.set_cons_succ, Array.toArray_toList, List.getElem_toArray, List.getElem_cons_succ, List.getElem_cons_zero]))
    (refine Sch.t_val hO rfl (by rfl) (v := .slice ad7 m7 c7) (fun w _ => (by go_simp)) ?_; (try simp only [Act.put, List.setIfInBounds_toArray, List.set_cons_zero, List.set_cons_succ, Array.toArray_toList, List.getElem_toArray, List.getElem_cons_succ, List.getElem_cons_zero]))
    (refine Sch.t_val hO rfl (by rfl) (v := .slice ad8 m8 c8) (fun w _ => (by go_simp)) ?_; (try simp only [Act.put, List.setIfInBounds_toArray, List.set_cons_zero, List.set_cons_succ, Array.toArray_toList, List.getElem_toArray, List.getElem_cons_succ, List.getElem_cons_zero]))
    (refine Sch.t_move hO rfl (by rfl) (v := .slice ad7 m7 c7) (.inr rfl) rfl ?_; (try simp only [Act.put, List.setIfInBounds_toArray, List.set_cons_zero, List.set_cons_succ, Array.toArray_toList, List.getElem_toArray, List.getElem_cons_succ, List.getElem_cons_zero]))
    (refine Sch.t_move hO rfl (by rfl) (v := .slice ad8 m8 c8) (.inr rfl) rfl ?_; (try simp only [Act.put, List.setIfInBounds_toArray, List.set_cons_zero, List.set_cons_succ, Array.toArray_toList, List.getElem_toArray, List.getElem_cons_succ, List.getElem_cons_zero]))
    refine Sch.t_done ?_
    replace HB := hide (HB.out.trans (hHeld.mono HB.out.size))
    replace Hb3 := hide (Hb3.out.below hHeld Hb3.out.lt)
    clear hHeld hO
    go_wp2_with fail
    refine (F6.out _).mono ?_
    rintro e w4 ⟨ad9, m9, c9, rfl, G9, k9, hbc⟩
    replace HB := hide (HB.out.trans (hbc.mono HB.out.size))
    replace Hb3 := hide (Hb3.out.below hbc Hb3.out.lt)
    replace G7 := hide (G7.out.below hbc (Nat.le_refl _))
    clear hbc
    go_wp2_with fail
    refine (rmin_c _ _ _ _ _ _ _ G7 G9 (by omega) (by omega)).mono ?_
    rintro e w5 ⟨ad10, m10, c10, rfl, G10, k10, hbc⟩
    replace HB := hide (HB.out.trans (hbc.mono HB.out.size))
    replace Hb3 := hide (Hb3.out.below hbc Hb3.out.lt)
    clear hbc
    go_wp2_with fail
    refine (toBig_c HMn.out G10 (by omega)).mono ?_
    rintro e w6 ⟨rfl, hbc⟩
    replace HB := hide (HB.out.trans (hbc.mono HB.out.size))
    replace Hb3 := hide (Hb3.out.below hbc Hb3.out.lt)
    clear hbc
    rw [HLm.out]
    go_wp2
    go_ret2
    exact ⟨rfl, HB.out⟩
  · have tv : (fiV P == 0) = false := by simpa using h1
    rw [tv] at HV
    replace HV := hide HV
    rw [xV, xE, if_neg h1, if_neg h1]
    clear tv h1
    go_enter Try.func25, Try.ntmps25
    go_wp2_with (first | (refine n_box (by rfl) (T := 27) (x := (.tmp 1)) rfl (v := .agg (pC P)) rfl (ds := pC P) rfl ?_; intro w1 Hb3 hbn; have HB := hide hbn; clear hbn; replace Hb3 := hide Hb3) | (refine n_loadw (by rfl) (T := 27) (x := (.tmp 3)) rfl (g := w.heap.size) rfl Hb3.out Try.underlying27 rfl jc_s0 ?_))
    refine (HV.out _).mono ?_
    rintro e w2 ⟨rfl, hbc⟩
    replace HB := hide (HB.out.trans (hbc.mono HB.out.size))
    replace Hb3 := hide (Hb3.out.below hbc Hb3.out.lt)
    clear hbc
    go_wp2_with fail
    exact bodyPost_ret (results2 rfl (reads_tmp rfl) (reads_tmp rfl)) rfl ⟨rfl, HB.out⟩
set_option maxRecDepth 20000 in
set_option maxHeartbeats 16000000 in
theorem rfee_c (P : Nat → Int) (hP : PW P) {b : Int} (b0 : 0 ≤ b) (b1 : b < 18446744073709551616) (w : World) :
    Calls Try.prog 17 #[.int .u64 b, .agg (pC P)] w fun e w' => e = .returned (.tuple #[.agg #[.int .u64 (lim (feV b P) 0), .int .u64 (lim (feV b P) 1), .int .u64 (lim (feV b P) 2), .int .u64 (lim (feV b P) 3)], .int .i64 (feE b P)]) ∧ Below w.heap.size w w' := by
  have HX := fun w => rexponent_c P hP b0 b1 w
  by_cases h1 : fiV P = 0
  · rw [xV, xE, if_pos h1, if_pos h1] at HX
    rw [feV, feE, if_pos h1, if_pos h1]
    have hA := getU hP 4
    have hx0 : 0 ≤ xqV b P ∧ xqV b P < 18446744073709551616 := by
      obtain ⟨D, y, hi, lo, q, hD, d0, _⟩ := xq_facts hP h1 b0 b1
      have h := (xq_nat hP h1 b0 b1 hD d0 (by have := drn_rg (b := b) (s := P 0) (t := P 1) b0 b1 (hP 0).1 (hP 1).1; omega)).2.2
      rw [← h, lim0]
      omega
    have HS := fun w => rsexp_c (t := 10) hA.lt hx0.1 hx0.2 w
    obtain ⟨l0, l1, l2, l3⟩ := hA.lims
    rw [← l0, ← l1, ← l2, ← l3, show getL P 4 0 = P 3 from rfl, show getL P 4 1 = P 4 from rfl, show getL P 4 2 = P 5 from rfl, show getL P 4 3 = P 6 from rfl] at HS
    obtain ⟨X, hX⟩ : ∃ X, xqV b P = X := ⟨_, rfl⟩
    rw [hX] at HX HS ⊢
    obtain ⟨F, hF⟩ : ∃ F, seV (getN P 4) X 10 = F := ⟨_, rfl⟩
    obtain ⟨E, hE⟩ : ∃ E, seE (getN P 4) X 10 = E := ⟨_, rfl⟩
    rw [hF, hE] at HS ⊢
    replace HX := hide HX
    replace HS := hide HS
    clear h1 hA hx0 l0 l1 l2 l3 hX hF hE b0 b1
    go_enter Try.func17, Try.ntmps17
    go_wp2_with (first | (refine n_box (by rfl) (T := 27) (x := (.tmp 1)) rfl (v := .agg (pC P)) rfl (ds := pC P) rfl ?_; intro w1 Hb3 hbn; have HB := hide hbn; clear hbn; replace Hb3 := hide Hb3) | (refine n_alloc (by rfl) (T := 25) rfl jc_z1 (ds := #[.int .u64 0, .int .u64 0, .int .u64 0, .int .u64 0]) rfl ?_; intro w2 Hb4 hbn; have hsz_w1 := HB.out.size; have lt_b3_b4 := Hb3.out.lt; replace HB := hide (HB.out.trans (hbn.mono HB.out.size)); replace Hb3 := hide (Hb3.out.below hbn Hb3.out.lt); clear hbn; replace Hb4 := hide Hb4) | (refine n_loadw (by rfl) (T := 27) (x := (.tmp 3)) rfl (g := w.heap.size) rfl Hb3.out Try.underlying27 rfl jc_s0 ?_))
    refine (HX.out _).mono ?_
    rintro e w3 ⟨rfl, hbc⟩
    replace HB := hide (HB.out.trans (hbc.mono HB.out.size))
    replace Hb3 := hide (Hb3.out.below hbc Hb3.out.lt)
    replace Hb4 := hide (Hb4.out.below hbc Hb4.out.lt)
    clear hbc
    go_wp2_with (first | (refine n_loads (by rfl) (T := 25) (x := (.tmp 18)) rfl (g := w.heap.size) (o := 3) rfl Hb3.out (ds := #[.int .u64 (P 3), .int .u64 (P 4), .int .u64 (P 5), .int .u64 (P 6)]) (by rfl) Try.underlying25 rfl jc_s2 ?_))
    refine (HS.out _).mono ?_
    rintro e w4 ⟨rfl, hbc⟩
    replace HB := hide (HB.out.trans (hbc.mono HB.out.size))
    replace Hb3 := hide (Hb3.out.below hbc Hb3.out.lt)
    replace Hb4 := hide (Hb4.out.below hbc Hb4.out.lt)
    clear hbc
    go_wp2_with (first | (refine n_storew (by rfl) (T := 25) (x := (.tmp 4)) (y := (.tmp 22)) rfl (g := w1.heap.size) rfl (vs := #[.int .u64 (lim F 0), .int .u64 (lim F 1), .int .u64 (lim F 2), .int .u64 (lim F 3)]) rfl (by first | exact pC_one _ | (simp [Value.oneCell']; done)) Hb4.out rfl jc_s2 ?_; clear Hb4; intro w5 Hb4 hun; replace Hb4 := hide Hb4; replace HB := hide (hun.keep w.heap.size w (by omega) HB.out); replace Hb3 := hide (Hb3.out.upd hun (by omega)); clear hun))
    exact bodyPost_ret (results2 rfl (reads_row (g := w1.heap.size) rfl Hb4.out Try.underlying25 rfl jc_s2) (reads_tmp rfl)) rfl ⟨rfl, HB.out⟩
  · rw [xV, xE, if_neg h1, if_neg h1] at HX
    rw [feV, feE, if_neg h1, if_neg h1, lim_zero, lim_zero, lim_zero, lim_zero]
    replace HX := hide HX
    clear h1
    go_enter Try.func17, Try.ntmps17
    go_wp2_with (first | (refine n_box (by rfl) (T := 27) (x := (.tmp 1)) rfl (v := .agg (pC P)) rfl (ds := pC P) rfl ?_; intro w1 Hb3 hbn; have HB := hide hbn; clear hbn; replace Hb3 := hide Hb3) | (refine n_alloc (by rfl) (T := 25) rfl jc_z1 (ds := #[.int .u64 0, .int .u64 0, .int .u64 0, .int .u64 0]) rfl ?_; intro w2 Hb4 hbn; have hsz_w1 := HB.out.size; have lt_b3_b4 := Hb3.out.lt; replace HB := hide (HB.out.trans (hbn.mono HB.out.size)); replace Hb3 := hide (Hb3.out.below hbn Hb3.out.lt); clear hbn; replace Hb4 := hide Hb4) | (refine n_loadw (by rfl) (T := 27) (x := (.tmp 3)) rfl (g := w.heap.size) rfl Hb3.out Try.underlying27 rfl jc_s0 ?_))
    refine (HX.out _).mono ?_
    rintro e w3 ⟨rfl, hbc⟩
    replace HB := hide (HB.out.trans (hbc.mono HB.out.size))
    replace Hb3 := hide (Hb3.out.below hbc Hb3.out.lt)
    replace Hb4 := hide (Hb4.out.below hbc Hb4.out.lt)
    clear hbc
    go_wp2_with (first | (refine n_storew (by rfl) (T := 25) (x := (.tmp 4)) (y := (.tmp 16)) rfl (g := w1.heap.size) rfl (vs := #[.int .u64 0, .int .u64 0, .int .u64 0, .int .u64 0]) rfl (by first | exact pC_one _ | (simp [Value.oneCell']; done)) Hb4.out rfl jc_s2 ?_; clear Hb4; intro w4 Hb4 hun; replace Hb4 := hide Hb4; replace HB := hide (hun.keep w.heap.size w (by omega) HB.out); replace Hb3 := hide (Hb3.out.upd hun (by omega)); clear hun))
    exact bodyPost_ret (results2 rfl (reads_row (g := w1.heap.size) rfl Hb4.out Try.underlying25 rfl jc_s2) (reads_tmp rfl)) rfl ⟨rfl, HB.out⟩
end Go.Proofs.Ytkneiobohhhcpaa
