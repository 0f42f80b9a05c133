/- chapter 14: BaseFeeReference, walked. -/
import Derived.WalkKit
import Derived.KernelRfl
import Derived.RowKit3
import Derived.Deep.LoopGhost
import Derived.Deep.QuietTactic
import Derived.BigQuiet
import Derived.WideLaws
import Derived.Laws.Rows
import Derived.Below
import Derived.Deep.Draws
import Derived.Outline
import Derived.LoopN
import Derived.Handy
import Derived.Laws.Externs
import Derived.Laws.BitsAllLaws
import Derived.Laws.BitsLemmas
import Derived.Deep.DeepCutAuto
import Derived.Deep.CutBlock
import Derived.Deep.RegionHeld3
import Derived.Test.YtiebdccdnaceaaaJC
import Derived.Test.YtiebdccdnaceaaaF3
namespace Go.Proofs.Ytiebdccdnaceaaa
open Go.RowKit
set_option linter.unusedVariables false
set_option linter.unusedSimpArgs false
theorem jd_s0 : (Try.prog.info? 26).map (·.size) = some 21 := by kernel_rfl
theorem jd_s1 : (Try.prog.info? 27).map (·.size) = some 8 := by kernel_rfl
theorem jd_z2 : (Try.prog.info? 26).map (fun i => (i.zero, i.size)) = some (some (.agg #[.int .u64 0, .int .u64 0, .int .u64 0, .int .u64 0, .int .u64 0, .int .u64 0, .int .u64 0, .int .u64 0, .int .u64 0, .int .u64 0, .int .u64 0, .int .u64 0, .int .u64 0, .int .u64 0, .int .u64 0, .int .u64 0, .int .u64 0, .int .u64 0, .int .u64 0, .int .u64 0, .int .u64 0]), 21) := by kernel_rfl
theorem jd_z3 : (Try.prog.info? 24).map (fun i => (i.zero, i.size)) = some (some (.agg #[.int .u64 0, .int .u64 0, .int .u64 0, .int .u64 0]), 4) := by kernel_rfl
theorem jd_s4 : (Try.prog.info? 24).map (·.size) = some 4 := by kernel_rfl
def p3 (A B C : Nat → Int) : Array Value := #[.int .u64 (A 0), .int .u64 (A 1), .int .u64 (A 2), .int .u64 (A 3), .int .u64 (A 4), .int .u64 (A 5), .int .u64 (A 6), .int .u64 (A 7), .int .u64 (A 8), .int .u64 (A 9), .int .u64 (A 10), .int .u64 (A 11), .int .u64 (A 12), .int .u64 (A 13), .int .u64 (A 14), .int .u64 (A 15), .int .u64 (A 16), .int .u64 (A 17), .int .u64 (A 18), .int .u64 (A 19), .int .u64 (A 20), .int .u64 (B 0), .int .u64 (B 1), .int .u64 (B 2), .int .u64 (B 3), .int .u64 (B 4), .int .u64 (B 5), .int .u64 (B 6), .int .u64 (B 7), .int .u64 (B 8), .int .u64 (B 9), .int .u64 (B 10), .int .u64 (B 11), .int .u64 (B 12), .int .u64 (B 13), .int .u64 (B 14), .int .u64 (B 15), .int .u64 (B 16), .int .u64 (B 17), .int .u64 (B 18), .int .u64 (B 19), .int .u64 (B 20), .int .u64 (C 0), .int .u64 (C 1), .int .u64 (C 2), .int .u64 (C 3), .int .u64 (C 4), .int .u64 (C 5), .int .u64 (C 6), .int .u64 (C 7), .int .u64 (C 8), .int .u64 (C 9), .int .u64 (C 10), .int .u64 (C 11), .int .u64 (C 12), .int .u64 (C 13), .int .u64 (C 14), .int .u64 (C 15), .int .u64 (C 16), .int .u64 (C 17), .int .u64 (C 18), .int .u64 (C 19), .int .u64 (C 20)]
theorem Sch.t_build {P : Program} {ops O : Array Oper} {Q : Exit → Act → World → Prop} {S : World → Prop} {r : Sch} {a : Act} {w : World} {i : Nat} {oi : Oper} {T : TypeId} {parts : Array (Nat × Operand)} {vs : Array (Nat × Value)} {v : Value} (hO : Hid (O = ops)) (hi : ops[i]? = some oi) (hw : Region.wanted oi (yielded ops a.tmps) = true) (ho : oi.op = .build T parts) (hv : parts.map (fun p => (p.1, a.eval p.2)) = vs)
    (hb : ∀ w, (Instr.build T vs).run P w = .ok v w) (h : r.wp P O Q S (a.put oi.dst v) w) : (Sch.take i r).wp P O Q S a w :=
  Sch.t_val hO hi hw (fun w _ => by
    unfold execOp
    simp only [ho]
    rw [show (parts.map fun (i, x) => (i, a.eval x)) = vs from hv]
    simp [hb]) h
theorem p3_build (A B C : Nat → Int) (w : World) : (Instr.build 30 #[(0, .agg (pC A)), (1, .agg (pC B)), (2, .agg (pC C))]).run Try.prog w = .ok (.agg (p3 A B C)) w := by kernel_rfl
theorem p3_index (A B C : Nat → Int) : (∀ w, (Instr.index 30 (.agg (p3 A B C)) (.int .i64 (0 : Nat))).run Try.prog w = .ok (.agg (pC A)) w) ∧ (∀ w, (Instr.index 30 (.agg (p3 A B C)) (.int .i64 (1 : Nat))).run Try.prog w = .ok (.agg (pC B)) w) ∧ (∀ w, (Instr.index 30 (.agg (p3 A B C)) (.int .i64 (2 : Nat))).run Try.prog w = .ok (.agg (pC C)) w) := by
  refine ⟨?_, ?_, ?_⟩ <;> intro w <;> kernel_rfl
theorem n3_index (a b c : Int) : (∀ w, (Instr.index 31 (.agg #[.int .u64 a, .int .u64 b, .int .u64 c]) (.int .i64 (0 : Nat))).run Try.prog w = .ok (.int .u64 a) w) ∧ (∀ w, (Instr.index 31 (.agg #[.int .u64 a, .int .u64 b, .int .u64 c]) (.int .i64 (1 : Nat))).run Try.prog w = .ok (.int .u64 b) w) ∧ (∀ w, (Instr.index 31 (.agg #[.int .u64 a, .int .u64 b, .int .u64 c]) (.int .i64 (2 : Nat))).run Try.prog w = .ok (.int .u64 c) w) := by
  refine ⟨?_, ?_, ?_⟩ <;> intro w <;> kernel_rfl
theorem sel3 {P : Nat → Prop} (h0 : P 0) (h1 : P 1) (h2 : P 2) {K : Nat} (h : K < 3) : P K := by
  obtain rfl | rfl | rfl : K = 0 ∨ K = 1 ∨ K = 2 := by omega
  · exact h0
  · exact h1
  · exact h2
set_option maxRecDepth 20000 in
set_option maxHeartbeats 32000000 in
theorem Reference_in (b : Int) (b0 : 0 ≤ b) (b1 : b < 18446744073709551616) (R : Nat → Int) (hR : PW R) (v : Nat → Int) (hv : ∀ j, 0 ≤ v j ∧ v j < 18446744073709551616) (hw : PW (vpP v)) (w : World) :
    Calls Try.prog 3 #[.int .u64 b, .agg (pC R), .agg #[.int .u64 (v 0), .int .u64 (v 1), .int .u64 (v 2), .int .u64 (v 3), .int .u64 (v 4), .int .u64 (v 5), .int .u64 (v 6), .int .u64 (v 7)]] w fun e w' => e = .returned (.bool true) ∧ Below w.heap.size w w' := by
  have hR' := hide hR
  have hw' := hide hw
  obtain ⟨n1, e1, m1, k1⟩ : ∃ n, b.tmod 1099511627776 = n ∧ 0 ≤ n ∧ n < 18446744073709551616 := ⟨_, rfl, by rw [Int.tmod_eq_emod_of_nonneg b0]; omega, by rw [Int.tmod_eq_emod_of_nonneg b0]; omega⟩
  obtain ⟨n2, e2, m2, k2⟩ : ∃ n, b.tmod 10000000000 = n ∧ 0 ≤ n ∧ n < 18446744073709551616 := ⟨_, rfl, by rw [Int.tmod_eq_emod_of_nonneg b0]; omega, by rw [Int.tmod_eq_emod_of_nonneg b0]; omega⟩
  have f1 : IntKind.u64.wrap n1 = n1 := by rw [IntKind.wrap_u64]; omega
  have f2 : IntKind.u64.wrap n2 = n2 := by rw [IntKind.wrap_u64]; omega
  replace hv := hide hv
  clear hR hw
  go_enter Try.func3, Try.ntmps3
  go_upto_region 1 with (first | (refine n_box (by rfl) (T := 26) (x := (.tmp 1)) rfl (v := .agg (pC R)) rfl (ds := pC R) rfl ?_; intro w1 Hb4 hbn; have HB := hide hbn; clear hbn; replace Hb4 := hide Hb4) | (refine n_box (by rfl) (T := 27) (x := (.tmp 2)) rfl (v := .agg (#[.int .u64 (v 0), .int .u64 (v 1), .int .u64 (v 2), .int .u64 (v 3), .int .u64 (v 4), .int .u64 (v 5), .int .u64 (v 6), .int .u64 (v 7)])) rfl (ds := #[.int .u64 (v 0), .int .u64 (v 1), .int .u64 (v 2), .int .u64 (v 3), .int .u64 (v 4), .int .u64 (v 5), .int .u64 (v 6), .int .u64 (v 7)]) rfl ?_; intro w2 Hb5 hbn; have hsz_w1 := HB.out.size; have lt_b4_b5 := Hb4.out.lt; replace HB := hide (HB.out.trans (hbn.mono HB.out.size)); replace Hb4 := hide (Hb4.out.below hbn Hb4.out.lt); clear hbn; replace Hb5 := hide Hb5))
  refine Sch.start (Sch.take 0 (Sch.take 1 (Sch.take 5 (Sch.one 2 (Sch.one 3 (Sch.take 4 Sch.done)))))) (S := fun w' => Below w2.heap.size w2 w') (by kernel_rfl) (by kernel_rfl) (fun _ d _ _ _ h => by cases d <;> exact h) (by kernel_rfl) ((Below.refl _ _).drew) (fun O hO hHeld => ?_)
  (refine Sch.t_loadw hO rfl (by rfl) (T := 26) rfl (g := w.heap.size) rfl (fun w' h => Hb4.out.below h Hb4.out.lt) Try.underlying26 rfl jd_s0 ?_; (try simp only [Act.put, List.setIfInBounds_toArray, List.set_cons_zero, List.set_cons_succ, Array.toArray_toList, List.getElem_toArray, List.getElem_cons_succ, List.getElem_cons_zero]))
  (refine Sch.t_loadw hO rfl (by rfl) (T := 27) rfl (g := w1.heap.size) rfl (fun w' h => Hb5.out.below h Hb5.out.lt) Try.underlying27 rfl jd_s1 ?_; (try simp only [Act.put, List.setIfInBounds_toArray, List.set_cons_zero, List.set_cons_succ, Array.toArray_toList, List.getElem_toArray, List.getElem_cons_succ, List.getElem_cons_zero]))
  (refine Sch.t_move hO rfl (by rfl) (v := .int .i64 0) (.inl rfl) rfl ?_; (try simp only [Act.put, List.setIfInBounds_toArray, List.set_cons_zero, List.set_cons_succ, Array.toArray_toList, List.getElem_toArray, List.getElem_cons_succ, List.getElem_cons_zero]))
  refine Sch.s_one hO rfl (by rfl) (fun K hK => ?_)
  go_simp
  go_at_call 8
  refine (vp_c v hv.out _).mono ?_
  rintro e y1_1 ⟨rfl, hb_y1_1⟩
  go_wp2_with fail
  refine hK.out _ _ (hHeld.trans (hb_y1_1.mono hHeld.size)) (fun hHeld => ?_)
  clear hK K
  (try simp only [Act.put, List.setIfInBounds_toArray, List.set_cons_zero, List.set_cons_succ, Array.toArray_toList, List.getElem_toArray, List.getElem_cons_succ, List.getElem_cons_zero])
  refine Sch.s_one hO rfl (by rfl) (fun K hK => ?_)
  go_simp
  go_at_call 9
  refine (genesis_c _).mono ?_
  rintro e y1_2 ⟨rfl, hb_y1_2⟩
  go_wp2_with fail
  refine hK.out _ _ (hHeld.trans (hb_y1_2.mono hHeld.size)) (fun hHeld => ?_)
  clear hK K
  (try simp only [Act.put, List.setIfInBounds_toArray, List.set_cons_zero, List.set_cons_succ, Array.toArray_toList, List.getElem_toArray, List.getElem_cons_succ, List.getElem_cons_zero])
  (refine Sch.t_build hO rfl (by rfl) rfl (vs := #[(0, .agg (pC R)), (1, .agg (pC (vpP v))), (2, .agg (pC Gen))]) (by simp [Act.eval]) (fun w => p3_build R (vpP v) Gen w) ?_; (try simp only [Act.put, List.setIfInBounds_toArray, List.set_cons_zero, List.set_cons_succ, Array.toArray_toList, List.getElem_toArray, List.getElem_cons_succ, List.getElem_cons_zero]))
  refine Sch.t_done ?_
  replace HB := hide (HB.out.trans (hHeld.mono HB.out.size))
  replace Hb4 := hide (Hb4.out.below hHeld Hb4.out.lt)
  replace Hb5 := hide (Hb5.out.below hHeld Hb5.out.lt)
  clear hHeld hO
  go_wp2_with fail
  go_loopw [24] (fun v24 wr => ∃ K : Nat, K ≤ 3 ∧ v24 = .int .i64 K ∧ Hid (Below w.heap.size w wr)) (fun v24 _ => (3 - (intOf v24).toNat))
  case atStart => exact ⟨0, by omega, rfl, HB⟩
  case round =>
    obtain ⟨K, hK, rfl, HB⟩ := hrel
    rcases Nat.lt_or_ge K 3 with hk | hk
    · have hk0 : (K : Int) < 3 := by omega
      obtain ⟨X, hX, hix⟩ : ∃ X : Nat → Int, Hid (PW X) ∧ ∀ w, (Instr.index 30 (.agg (p3 R (vpP v) Gen)) (.int .i64 K)).run Try.prog w = .ok (.agg (pC X)) w :=
        sel3 (P := fun K => ∃ X : Nat → Int, Hid (PW X) ∧ ∀ w, (Instr.index 30 (.agg (p3 R (vpP v) Gen)) (.int .i64 (K : Nat))).run Try.prog w = .ok (.agg (pC X)) w) ⟨_, hR', (p3_index _ _ _).1⟩ ⟨_, hw', (p3_index _ _ _).2.1⟩ ⟨_, hide Gen_w, (p3_index _ _ _).2.2⟩ hk
      go_wp2_with (first | (refine n_alloc (by rfl) (T := 26) rfl jd_z2 (ds := pC fun _ => 0) rfl ?_; intro w3 Hb8 hbn; have hsz_wr := HB.out.size; replace HB := hide (HB.out.trans (hbn.mono HB.out.size)); clear hbn; replace Hb8 := hide Hb8) | (refine n_storew (by rfl) (T := 26) (x := (.tmp 8)) (y := (.tmp 26)) rfl (g := wr.heap.size) rfl (vs := pC X) rfl (by first | exact pC_one _ | (simp [Value.oneCell']; done)) Hb8.out rfl jd_s0 ?_; clear Hb8; intro w4 Hb8 hun; replace Hb8 := hide Hb8; replace HB := hide (hun.keep w.heap.size w (by omega) HB.out); clear hun))
      obtain ⟨wo, ewo⟩ : ∃ W, W = w4 := ⟨_, rfl⟩
      rw [← ewo] at HB Hb8 ⊢
      clear ewo
      obtain ⟨g8, eg8⟩ : ∃ g, g = wr.heap.size := ⟨_, rfl⟩
      rw [← eg8] at Hb8 ⊢
      clear eg8
      go_loopw [33] (fun v33 wr2 => ∃ J : Nat, J ≤ 3 ∧ v33 = .int .i64 J ∧ Hid (Below w.heap.size w wr2) ∧ Hid (NB wr2 g8 (pC X) 26)) (fun v33 _ => (3 - (intOf v33).toNat))
      case atStart => exact ⟨0, by omega, rfl, HB, Hb8⟩
      case round =>
        obtain ⟨J, hJ, rfl, HB, Hb8⟩ := hrel
        rcases Nat.lt_or_ge J 3 with hj | hj
        · have hj0 : (J : Int) < 3 := by omega
          obtain ⟨N, N0, N1, hjx⟩ : ∃ N : Int, 0 ≤ N ∧ N < 18446744073709551616 ∧ ∀ w, (Instr.index 31 (.agg #[.int .u64 b, .int .u64 n1, .int .u64 n2]) (.int .i64 J)).run Try.prog w = .ok (.int .u64 N) w :=
            sel3 (P := fun J => ∃ N : Int, 0 ≤ N ∧ N < 18446744073709551616 ∧ ∀ w, (Instr.index 31 (.agg #[.int .u64 b, .int .u64 n1, .int .u64 n2]) (.int .i64 (J : Nat))).run Try.prog w = .ok (.int .u64 N) w) ⟨_, b0, b1, (n3_index _ _ _).1⟩ ⟨_, m1, k1, (n3_index _ _ _).2.1⟩ ⟨_, m2, k2, (n3_index _ _ _).2.2⟩ hj
          have HX1 := fun w => exponent_c X hX.out N0 N1 w
          have HX2 := fun w => rexponent_c X hX.out N0 N1 w
          have HF1 := fun w => fee_c X hX.out N0 N1 w
          have HF2 := fun w => rfee_c X hX.out N0 N1 w
          obtain ⟨x, ex⟩ : ∃ x, xV N X = x := ⟨_, rfl⟩
          obtain ⟨e1, ee1⟩ : ∃ x, xE X = x := ⟨_, rfl⟩
          obtain ⟨F, eF⟩ : ∃ x, feV N X = x := ⟨_, rfl⟩
          obtain ⟨e2, ee2⟩ : ∃ x, feE N X = x := ⟨_, rfl⟩
          rw [ex, ee1] at HX1 HX2
          rw [eF, ee2] at HF1 HF2
          replace HX1 := hide HX1
          replace HX2 := hide HX2
          replace HF1 := hide HF1
          replace HF2 := hide HF2
          clear ex ee1 eF ee2
          go_wp2_with (first | (refine n_loadw (by rfl) (T := 26) (x := (.tmp 8)) rfl (g := g8) rfl Hb8.out Try.underlying26 rfl jd_s0 ?_))
          refine (HX1.out _).mono ?_
          rintro e w5 ⟨rfl, hbc⟩
          replace HB := hide (HB.out.trans (hbc.mono HB.out.size))
          replace Hb8 := hide (Hb8.out.below hbc Hb8.out.lt)
          clear hbc
          go_wp2_with (first | (refine n_loadw (by rfl) (T := 26) (x := (.tmp 8)) rfl (g := g8) rfl Hb8.out Try.underlying26 rfl jd_s0 ?_))
          refine (HX2.out _).mono ?_
          rintro e w6 ⟨rfl, hbc⟩
          replace HB := hide (HB.out.trans (hbc.mono HB.out.size))
          replace Hb8 := hide (Hb8.out.below hbc Hb8.out.lt)
          clear hbc
          go_wp2_with (first | (refine n_loadw (by rfl) (T := 26) (x := (.tmp 8)) rfl (g := g8) rfl Hb8.out Try.underlying26 rfl jd_s0 ?_))
          refine (HF1.out _).mono ?_
          rintro e w7 ⟨rfl, hbc⟩
          replace HB := hide (HB.out.trans (hbc.mono HB.out.size))
          replace Hb8 := hide (Hb8.out.below hbc Hb8.out.lt)
          clear hbc
          go_wp2_with (first | (refine n_alloc (by rfl) (T := 24) rfl jd_z3 (ds := #[.int .u64 0, .int .u64 0, .int .u64 0, .int .u64 0]) rfl ?_; intro w8 Hb15 hbn; have hsz_w7 := HB.out.size; have lt_b8_b15 := Hb8.out.lt; replace HB := hide (HB.out.trans (hbn.mono HB.out.size)); replace Hb8 := hide (Hb8.out.below hbn Hb8.out.lt); clear hbn; replace Hb15 := hide Hb15) | (refine n_storew (by rfl) (T := 24) (x := (.tmp 15)) (y := (.tmp 52)) rfl (g := w7.heap.size) rfl (vs := #[.int .u64 (lim F 0), .int .u64 (lim F 1), .int .u64 (lim F 2), .int .u64 (lim F 3)]) rfl (by first | exact pC_one _ | (simp [Value.oneCell']; done)) Hb15.out rfl jd_s4 ?_; clear Hb15; intro w9 Hb15 hun; replace Hb15 := hide Hb15; replace HB := hide (hun.keep w.heap.size w (by omega) HB.out); replace Hb8 := hide (Hb8.out.upd hun (by omega)); clear hun) | (refine n_loadw (by rfl) (T := 26) (x := (.tmp 8)) rfl (g := g8) rfl Hb8.out Try.underlying26 rfl jd_s0 ?_))
          refine (HF2.out _).mono ?_
          rintro e w10 ⟨rfl, hbc⟩
          replace HB := hide (HB.out.trans (hbc.mono HB.out.size))
          replace Hb8 := hide (Hb8.out.below hbc Hb8.out.lt)
          replace Hb15 := hide (Hb15.out.below hbc Hb15.out.lt)
          clear hbc
          go_wp2_with (first | (refine n_alloc (by rfl) (T := 24) rfl jd_z3 (ds := #[.int .u64 0, .int .u64 0, .int .u64 0, .int .u64 0]) rfl ?_; intro w11 Hb17 hbn; have hsz_w10 := HB.out.size; have lt_b8_b17 := Hb8.out.lt; have lt_b15_b17 := Hb15.out.lt; replace HB := hide (HB.out.trans (hbn.mono HB.out.size)); replace Hb8 := hide (Hb8.out.below hbn Hb8.out.lt); replace Hb15 := hide (Hb15.out.below hbn Hb15.out.lt); clear hbn; replace Hb17 := hide Hb17) | (refine n_storew (by rfl) (T := 24) (x := (.tmp 17)) (y := (.tmp 58)) rfl (g := w10.heap.size) rfl (vs := #[.int .u64 (lim F 0), .int .u64 (lim F 1), .int .u64 (lim F 2), .int .u64 (lim F 3)]) rfl (by first | exact pC_one _ | (simp [Value.oneCell']; done)) Hb17.out rfl jd_s4 ?_; clear Hb17; intro w12 Hb17 hun; replace Hb17 := hide Hb17; replace HB := hide (hun.keep w.heap.size w (by omega) HB.out); replace Hb8 := hide (Hb8.out.upd hun (by omega)); replace Hb15 := hide (Hb15.out.upd hun (by omega)); clear hun) | (refine n_loadw (by rfl) (T := 24) (x := (.tmp 15)) rfl (g := w7.heap.size) rfl Hb15.out Try.underlying24 rfl jd_s4 ?_) | (refine n_loadw (by rfl) (T := 24) (x := (.tmp 17)) rfl (g := w10.heap.size) rfl Hb17.out Try.underlying24 rfl jd_s4 ?_))
          go_roundw
          case rel => exact ⟨J + 1, by omega, by go_num, HB, Hb8⟩
          case measure => simp [intOf]; omega
        · obtain rfl : J = 3 := by omega
          go_wp2_with fail
          go_roundw
          case rel => exact ⟨K + 1, by omega, by go_num, HB⟩
          case measure => simp [intOf]; omega
    · obtain rfl : K = 3 := by omega
      go_wp2_with fail
      refine (awake14_c _).mono ?_
      rintro e w3 ⟨rfl, hbc⟩
      replace HB := hide (HB.out.trans (hbc.mono HB.out.size))
      clear hbc
      go_wp2_with fail
      go_ret
      exact ⟨rfl, HB.out⟩
def p21d (p0 p1 p2 p3 p4 p5 p6 p7 p8 p9 p10 p11 p12 p13 p14 p15 p16 p17 p18 p19 p20 : Int) : Nat → Int
  | 0 => p0 | 1 => p1 | 2 => p2 | 3 => p3 | 4 => p4 | 5 => p5 | 6 => p6 | 7 => p7 | 8 => p8 | 9 => p9 | 10 => p10 | 11 => p11 | 12 => p12 | 13 => p13 | 14 => p14 | 15 => p15 | 16 => p16 | 17 => p17 | 18 => p18 | 19 => p19 | 20 => p20 | _ => 0
theorem p21d_w {p0 p1 p2 p3 p4 p5 p6 p7 p8 p9 p10 p11 p12 p13 p14 p15 p16 p17 p18 p19 p20 : Int} (w1_0 : (Lit.int .u64 p0).wf = true) (w1_1 : (Lit.int .u64 p1).wf = true) (w1_2 : (Lit.int .u64 p2).wf = true) (w1_3 : (Lit.int .u64 p3).wf = true) (w1_4 : (Lit.int .u64 p4).wf = true) (w1_5 : (Lit.int .u64 p5).wf = true) (w1_6 : (Lit.int .u64 p6).wf = true) (w1_7 : (Lit.int .u64 p7).wf = true) (w1_8 : (Lit.int .u64 p8).wf = true) (w1_9 : (Lit.int .u64 p9).wf = true) (w1_10 : (Lit.int .u64 p10).wf = true) (w1_11 : (Lit.int .u64 p11).wf = true) (w1_12 : (Lit.int .u64 p12).wf = true) (w1_13 : (Lit.int .u64 p13).wf = true) (w1_14 : (Lit.int .u64 p14).wf = true) (w1_15 : (Lit.int .u64 p15).wf = true) (w1_16 : (Lit.int .u64 p16).wf = true) (w1_17 : (Lit.int .u64 p17).wf = true) (w1_18 : (Lit.int .u64 p18).wf = true) (w1_19 : (Lit.int .u64 p19).wf = true) (w1_20 : (Lit.int .u64 p20).wf = true) : PW (p21d p0 p1 p2 p3 p4 p5 p6 p7 p8 p9 p10 p11 p12 p13 p14 p15 p16 p17 p18 p19 p20) := by
  intro j
  unfold p21d
  split
  · have := bounds_u64 w1_0; omega
  · have := bounds_u64 w1_1; omega
  · have := bounds_u64 w1_2; omega
  · have := bounds_u64 w1_3; omega
  · have := bounds_u64 w1_4; omega
  · have := bounds_u64 w1_5; omega
  · have := bounds_u64 w1_6; omega
  · have := bounds_u64 w1_7; omega
  · have := bounds_u64 w1_8; omega
  · have := bounds_u64 w1_9; omega
  · have := bounds_u64 w1_10; omega
  · have := bounds_u64 w1_11; omega
  · have := bounds_u64 w1_12; omega
  · have := bounds_u64 w1_13; omega
  · have := bounds_u64 w1_14; omega
  · have := bounds_u64 w1_15; omega
  · have := bounds_u64 w1_16; omega
  · have := bounds_u64 w1_17; omega
  · have := bounds_u64 w1_18; omega
  · have := bounds_u64 w1_19; omega
  · have := bounds_u64 w1_20; omega
  · omega
def v8d (q0 q1 q2 q3 q4 q5 q6 q7 : Int) : Nat → Int
  | 0 => q0 | 1 => q1 | 2 => q2 | 3 => q3 | 4 => q4 | 5 => q5 | 6 => q6 | 7 => q7 | _ => 0
theorem v8d_w {q0 q1 q2 q3 q4 q5 q6 q7 : Int} (w2_0 : (Lit.int .u64 q0).wf = true) (w2_1 : (Lit.int .u64 q1).wf = true) (w2_2 : (Lit.int .u64 q2).wf = true) (w2_3 : (Lit.int .u64 q3).wf = true) (w2_4 : (Lit.int .u64 q4).wf = true) (w2_5 : (Lit.int .u64 q5).wf = true) (w2_6 : (Lit.int .u64 q6).wf = true) (w2_7 : (Lit.int .u64 q7).wf = true) : ∀ j, 0 ≤ v8d q0 q1 q2 q3 q4 q5 q6 q7 j ∧ v8d q0 q1 q2 q3 q4 q5 q6 q7 j < 18446744073709551616 := by
  intro j
  unfold v8d
  split
  · have := bounds_u64 w2_0; omega
  · have := bounds_u64 w2_1; omega
  · have := bounds_u64 w2_2; omega
  · have := bounds_u64 w2_3; omega
  · have := bounds_u64 w2_4; omega
  · have := bounds_u64 w2_5; omega
  · have := bounds_u64 w2_6; omega
  · have := bounds_u64 w2_7; omega
  · omega
theorem BaseFeeReference_walk (b p0 p1 p2 p3 p4 p5 p6 p7 p8 p9 p10 p11 p12 p13 p14 p15 p16 p17 p18 p19 p20 q0 q1 q2 q3 q4 q5 q6 q7 : Int) (w0 : (Lit.int .u64 b).wf = true) (w1_0 : (Lit.int .u64 p0).wf = true) (w1_1 : (Lit.int .u64 p1).wf = true) (w1_2 : (Lit.int .u64 p2).wf = true) (w1_3 : (Lit.int .u64 p3).wf = true) (w1_4 : (Lit.int .u64 p4).wf = true) (w1_5 : (Lit.int .u64 p5).wf = true) (w1_6 : (Lit.int .u64 p6).wf = true) (w1_7 : (Lit.int .u64 p7).wf = true) (w1_8 : (Lit.int .u64 p8).wf = true) (w1_9 : (Lit.int .u64 p9).wf = true) (w1_10 : (Lit.int .u64 p10).wf = true) (w1_11 : (Lit.int .u64 p11).wf = true) (w1_12 : (Lit.int .u64 p12).wf = true) (w1_13 : (Lit.int .u64 p13).wf = true) (w1_14 : (Lit.int .u64 p14).wf = true) (w1_15 : (Lit.int .u64 p15).wf = true) (w1_16 : (Lit.int .u64 p16).wf = true) (w1_17 : (Lit.int .u64 p17).wf = true) (w1_18 : (Lit.int .u64 p18).wf = true) (w1_19 : (Lit.int .u64 p19).wf = true) (w1_20 : (Lit.int .u64 p20).wf = true) (w2_0 : (Lit.int .u64 q0).wf = true) (w2_1 : (Lit.int .u64 q1).wf = true) (w2_2 : (Lit.int .u64 q2).wf = true) (w2_3 : (Lit.int .u64 q3).wf = true) (w2_4 : (Lit.int .u64 q4).wf = true) (w2_5 : (Lit.int .u64 q5).wf = true) (w2_6 : (Lit.int .u64 q6).wf = true) (w2_7 : (Lit.int .u64 q7).wf = true) (w : World) :
    Calls Try.prog 3 #[.int .u64 b, .agg #[.int .u64 p0, .int .u64 p1, .int .u64 p2, .int .u64 p3, .int .u64 p4, .int .u64 p5, .int .u64 p6, .int .u64 p7, .int .u64 p8, .int .u64 p9, .int .u64 p10, .int .u64 p11, .int .u64 p12, .int .u64 p13, .int .u64 p14, .int .u64 p15, .int .u64 p16, .int .u64 p17, .int .u64 p18, .int .u64 p19, .int .u64 p20], .agg #[.int .u64 q0, .int .u64 q1, .int .u64 q2, .int .u64 q3, .int .u64 q4, .int .u64 q5, .int .u64 q6, .int .u64 q7]] w fun e w' => e = .returned (.bool true) ∧ Below w.heap.size w w' := by
  obtain ⟨b0, b1⟩ := bounds_u64 w0
  exact Reference_in b b0 (by omega) (p21d p0 p1 p2 p3 p4 p5 p6 p7 p8 p9 p10 p11 p12 p13 p14 p15 p16 p17 p18 p19 p20) (p21d_w w1_0 w1_1 w1_2 w1_3 w1_4 w1_5 w1_6 w1_7 w1_8 w1_9 w1_10 w1_11 w1_12 w1_13 w1_14 w1_15 w1_16 w1_17 w1_18 w1_19 w1_20) (v8d q0 q1 q2 q3 q4 q5 q6 q7) (v8d_w w2_0 w2_1 w2_2 w2_3 w2_4 w2_5 w2_6 w2_7) (vp_w (v8d_w w2_0 w2_1 w2_2 w2_3 w2_4 w2_5 w2_6 w2_7)) w
end Go.Proofs.Ytiebdccdnaceaaa
