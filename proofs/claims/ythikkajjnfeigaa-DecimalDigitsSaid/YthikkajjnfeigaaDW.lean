/- chapter 4: examples, DecimalFormat, walked. -/
import Derived.WalkKit
import Derived.KernelRfl
import Derived.RowKit3
import Derived.Deep.LoopGhost
import Derived.Deep.QuietTactic
import Derived.BigQuiet
import Derived.WideLaws
import Derived.Laws.Rows
import Derived.Below
import Derived.Deep.Draws
import Derived.Outline
import Derived.LoopN
import Derived.Handy
import Derived.Laws.Externs
import Derived.Laws.BitsAllLaws
import Derived.Laws.BitsLemmas
import Derived.Deep.DeepCutAuto
import Derived.Deep.CutBlock
import Derived.Deep.RegionHeld3
import Derived.Test.YthikkajjnfeigaaDV
import Derived.Test.YthikkajjnfeigaaEQ
import Derived.Test.YthikkajjnfeigaaO
namespace Go.Proofs.Ythikkajjnfeigaa
open Go.RowKit
set_option linter.unusedVariables false
set_option linter.unusedSimpArgs false
theorem bool_law {P : Program} {e : TypeId} (he : P.underlying e = some .bool) (a b : Bool) (w : World) (d : Nat) : (Op.equalIn (d + 1) e (.bool a) (.bool b)).run P w = .ok (a == b) w := by
  simp [Op.equalIn, run_underlying he]
theorem isU_wf {a0 a1 a2 a3 : Int} (h0 : (Lit.int .u64 a0).wf = true) (h1 : (Lit.int .u64 a1).wf = true) (h2 : (Lit.int .u64 a2).wf = true) (h3 : (Lit.int .u64 a3).wf = true) : ∃ A, A < M256 ∧ a0 = lim A 0 ∧ a1 = lim A 1 ∧ a2 = lim A 2 ∧ a3 = lim A 3 := by
  obtain ⟨p0, q0⟩ := bounds_u64 h0
  obtain ⟨p1, q1⟩ := bounds_u64 h1
  obtain ⟨p2, q2⟩ := bounds_u64 h2
  obtain ⟨p3, q3⟩ := bounds_u64 h3
  obtain ⟨A, h⟩ := isU_ex p0 p1 p2 p3 (by omega) (by omega) (by omega) (by omega)
  exact ⟨A, h.lt, h.lims⟩
theorem fieldsI : (Try.prog.fieldsOf 33).toList.all (fun f => (f.type == 4 && decide (f.offset = 0)) || (f.type == 24 && decide (f.offset = 1))) = true := by kernel_rfl
theorem stoodI : Try.prog.stoodInHeld 33 = false := by kernel_rfl
theorem eqI_law (b : Bool) (x0 x1 x2 x3 : Int) (w : World) : (Op.equalIn 10000 33 (.agg #[.bool b, .int .u64 x0, .int .u64 x1, .int .u64 x2, .int .u64 x3]) (.agg #[.bool b, .int .u64 x0, .int .u64 x1, .int .u64 x2, .int .u64 x3])).run Try.prog w = .ok true w := by
  rw [run_equalIn_struct w 9999 33 _ _ (by kernel_rfl) stoodI]
  refine fields_same _ ?_
  intro f hf
  have := List.all_eq_true.1 fieldsI f hf
  simp only [Bool.or_eq_true, Bool.and_eq_true, beq_iff_eq, decide_eq_true_eq] at this
  rcases this with ⟨ht, ho⟩ | ⟨ht, ho⟩
  · rw [ht, ho]
    refine ⟨.bool b, ?_, by have := bool_law (P := Try.prog) Try.underlying4 b b w 9998; simpa using this⟩
    simp [part, isAgg, run_underlying Try.underlying4]
  · rw [ht, ho]
    refine ⟨.agg #[.int .u64 x0, .int .u64 x1, .int .u64 x2, .int .u64 x3], ?_, eqU_same 9997 _ _ _ _ w⟩
    have e : (#[Value.bool b, .int .u64 x0, .int .u64 x1, .int .u64 x2, .int .u64 x3] : Array Value).extract 1 5 = #[.int .u64 x0, .int .u64 x1, .int .u64 x2, .int .u64 x3] := rfl
    simp [part, isAgg, run_underlying Try.underlying24, cellsU4, e]
theorem ex4 : prE [48, 48, 55] = 3 ∧ prV [48, 48, 55] = 0 ∧ piB [45, 49, 50] = true ∧ piV [45, 49, 50] = 12 ∧ piE [45, 49, 50] = 0 ∧ piB [45, 48] = false ∧ piV [45, 48] = 0 ∧ piE [45, 48] = 3 ∧ decL 0 = [48] := by decide
theorem lim12 : lim 12 0 = 12 ∧ lim 12 1 = 0 ∧ lim 12 2 = 0 ∧ lim 12 3 = 0 := by decide
theorem dw_z0 : (Try.prog.info? 24).map (fun i => (i.zero, i.size)) = some (some (.agg #[.int .u64 0, .int .u64 0, .int .u64 0, .int .u64 0]), 4) := by kernel_rfl
theorem dw_s1 : (Try.prog.info? 24).map (·.size) = some 4 := by kernel_rfl
theorem dw_z2 : (Try.prog.info? 33).map (fun i => (i.zero, i.size)) = some (some (.agg #[.bool false, .int .u64 0, .int .u64 0, .int .u64 0, .int .u64 0]), 5) := by kernel_rfl
theorem dw_s3 : (Try.prog.info? 33).map (·.size) = some 5 := by kernel_rfl
set_option maxRecDepth 20000 in
set_option maxHeartbeats 8000000 in
theorem awake4_c (w : World) : Calls Try.prog 8 #[] w fun e w' => e = .returned (.bool true) ∧ Below w.heap.size w w' := by
  obtain ⟨x1, x2, x3, x4, x5, x6, x7, x8, x9⟩ := ex4
  obtain ⟨y0, y1, y2, y3⟩ := lim12
  have H1 := fun w => parse_c ⟨#[48, 48, 55]⟩ (by decide) w
  rw [show (⟨#[48, 48, 55]⟩ : ByteArray).data.toList = [48, 48, 55] from rfl, x1, x2, lim_zero, lim_zero, lim_zero, lim_zero] at H1
  have H2 := fun w => pint_c ⟨#[45, 49, 50]⟩ (by decide) w
  rw [show (⟨#[45, 49, 50]⟩ : ByteArray).data.toList = [45, 49, 50] from rfl, x3, x4, x5, y0, y1, y2, y3] at H2
  have H3 := fun w => pint_c ⟨#[45, 48]⟩ (by decide) w
  rw [show (⟨#[45, 48]⟩ : ByteArray).data.toList = [45, 48] from rfl, x6, x7, x8, lim_zero, lim_zero, lim_zero, lim_zero] at H3
  have H4 := fun w => format_c (A := 0) (by decide) w
  rw [x9, lim_zero, lim_zero, lim_zero, lim_zero] at H4
  have hq := eqI_law true 12 0 0 0
  replace H1 := hide H1
  replace H2 := hide H2
  replace H3 := hide H3
  replace H4 := hide H4
  clear x1 x2 x3 x4 x5 x6 x7 x8 x9 y0 y1 y2 y3
  go_enter Try.func8, Try.ntmps8
  go_wp2_with fail
  refine (H1.out _).mono ?_
  rintro e w1 ⟨rfl, hbc⟩
  have HB := hide hbc
  clear hbc
  go_wp2_with (first | (refine n_alloc (by rfl) (T := 24) rfl dw_z0 (ds := #[.int .u64 0, .int .u64 0, .int .u64 0, .int .u64 0]) rfl ?_; intro w2 Hb1 hbn; have hsz_w1 := HB.out.size; replace HB := hide (HB.out.trans (hbn.mono HB.out.size)); clear hbn; replace Hb1 := hide Hb1) | (refine n_storew (by rfl) (T := 24) (x := (.tmp 1)) (y := (.tmp 9)) rfl (g := w1.heap.size) rfl (vs := #[.int .u64 0, .int .u64 0, .int .u64 0, .int .u64 0]) rfl (by first | (simp [Value.oneCell']; done)) Hb1.out rfl dw_s1 ?_; clear Hb1; intro w3 Hb1 hun; replace Hb1 := hide Hb1; replace HB := hide (hun.keep w.heap.size w (by omega) HB.out); clear hun))
  refine (H2.out _).mono ?_
  rintro e w4 ⟨rfl, hbc⟩
  replace HB := hide (HB.out.trans (hbc.mono HB.out.size))
  replace Hb1 := hide (Hb1.out.below hbc Hb1.out.lt)
  clear hbc
  go_wp2_with (first | (refine n_alloc (by rfl) (T := 33) rfl dw_z2 (ds := #[.bool false, .int .u64 0, .int .u64 0, .int .u64 0, .int .u64 0]) rfl ?_; intro w5 Hb3 hbn; have hsz_w4 := HB.out.size; have lt_b1_b3 := Hb1.out.lt; replace HB := hide (HB.out.trans (hbn.mono HB.out.size)); replace Hb1 := hide (Hb1.out.below hbn Hb1.out.lt); clear hbn; replace Hb3 := hide Hb3) | (refine n_storew (by rfl) (T := 33) (x := (.tmp 3)) (y := (.tmp 13)) rfl (g := w4.heap.size) rfl (vs := #[.bool true, .int .u64 12, .int .u64 0, .int .u64 0, .int .u64 0]) rfl (by first | (simp [Value.oneCell']; done)) Hb3.out rfl dw_s3 ?_; clear Hb3; intro w6 Hb3 hun; replace Hb3 := hide Hb3; replace HB := hide (hun.keep w.heap.size w (by omega) HB.out); replace Hb1 := hide (Hb1.out.upd hun (by omega)); clear hun))
  refine (H3.out _).mono ?_
  rintro e w7 ⟨rfl, hbc⟩
  replace HB := hide (HB.out.trans (hbc.mono HB.out.size))
  replace Hb1 := hide (Hb1.out.below hbc Hb1.out.lt)
  replace Hb3 := hide (Hb3.out.below hbc Hb3.out.lt)
  clear hbc
  go_wp2_with (first | (refine n_alloc (by rfl) (T := 33) rfl dw_z2 (ds := #[.bool false, .int .u64 0, .int .u64 0, .int .u64 0, .int .u64 0]) rfl ?_; intro w8 Hb5 hbn; have hsz_w7 := HB.out.size; have lt_b1_b5 := Hb1.out.lt; have lt_b3_b5 := Hb3.out.lt; replace HB := hide (HB.out.trans (hbn.mono HB.out.size)); replace Hb1 := hide (Hb1.out.below hbn Hb1.out.lt); replace Hb3 := hide (Hb3.out.below hbn Hb3.out.lt); clear hbn; replace Hb5 := hide Hb5) | (refine n_storew (by rfl) (T := 33) (x := (.tmp 5)) (y := (.tmp 17)) rfl (g := w7.heap.size) rfl (vs := #[.bool false, .int .u64 0, .int .u64 0, .int .u64 0, .int .u64 0]) rfl (by first | (simp [Value.oneCell']; done)) Hb5.out rfl dw_s3 ?_; clear Hb5; intro w9 Hb5 hun; replace Hb5 := hide Hb5; replace HB := hide (hun.keep w.heap.size w (by omega) HB.out); replace Hb1 := hide (Hb1.out.upd hun (by omega)); replace Hb3 := hide (Hb3.out.upd hun (by omega)); clear hun) | (refine n_loadw (by rfl) (T := 33) (x := (.tmp 3)) rfl (g := w4.heap.size) rfl Hb3.out Try.underlying33 rfl dw_s3 ?_))
  refine (H4.out _).mono ?_
  rintro e w10 ⟨rfl, hbc⟩
  replace HB := hide (HB.out.trans (hbc.mono HB.out.size))
  replace Hb1 := hide (Hb1.out.below hbc Hb1.out.lt)
  replace Hb3 := hide (Hb3.out.below hbc Hb3.out.lt)
  replace Hb5 := hide (Hb5.out.below hbc Hb5.out.lt)
  clear hbc
  go_wp2_with fail
  go_ret
  exact ⟨rfl, HB.out⟩
set_option maxRecDepth 20000 in
set_option maxHeartbeats 8000000 in
theorem Format_in {A B : Nat} (hA : A < M256) (hB : B < M256) (b : Bool) {n : Int} (n0 : 0 ≤ n) (n1 : n < 18446744073709551616) (w : World) :
    Calls Try.prog 5 #[.agg #[.int .u64 (lim A 0), .int .u64 (lim A 1), .int .u64 (lim A 2), .int .u64 (lim A 3)], .agg #[.bool b, .int .u64 (lim B 0), .int .u64 (lim B 1), .int .u64 (lim B 2), .int .u64 (lim B 3)], .int .u64 n] w fun e w' => e = .returned (.bool true) ∧ Below w.heap.size w w' := by
  have F1 := fun w => format_c hA w
  have F2 := fun w => rformat_c hA w
  have F3 := fun w => fint_c hB b w
  have F4 := fun w => rfint_c hB b w
  have hu := isU_one n0 n1
  have F5 := fun w => format_c hu.lt w
  have F6 := fun w => rformat_c hu.lt w
  obtain ⟨l0, l1, l2, l3⟩ := hu.lims
  rw [← l0, ← l1, ← l2, ← l3] at F5 F6
  obtain ⟨sa, ea⟩ : ∃ s : ByteArray, ⟨(decL A).toArray⟩ = s := ⟨_, rfl⟩
  obtain ⟨sb, eb⟩ : ∃ s : ByteArray, ⟨(fiS b B).toArray⟩ = s := ⟨_, rfl⟩
  obtain ⟨sn, en⟩ : ∃ s : ByteArray, ⟨(decL n.toNat).toArray⟩ = s := ⟨_, rfl⟩
  rw [ea] at F1 F2
  rw [eb] at F3 F4
  rw [en] at F5 F6
  replace F1 := hide F1
  replace F2 := hide F2
  replace F3 := hide F3
  replace F4 := hide F4
  replace F5 := hide F5
  replace F6 := hide F6
  clear hu l0 l1 l2 l3 ea eb en n0 n1
  go_enter Try.func5, Try.ntmps5
  go_upto_region 1 with (first | (refine n_box (by rfl) (T := 24) (x := (.tmp 0)) rfl (v := .agg (#[.int .u64 (lim A 0), .int .u64 (lim A 1), .int .u64 (lim A 2), .int .u64 (lim A 3)])) rfl (ds := #[.int .u64 (lim A 0), .int .u64 (lim A 1), .int .u64 (lim A 2), .int .u64 (lim A 3)]) rfl ?_; intro w1 Hb3 hbn; have HB := hide hbn; clear hbn; replace Hb3 := hide Hb3) | (refine n_box (by rfl) (T := 33) (x := (.tmp 1)) rfl (v := .agg (#[.bool b, .int .u64 (lim B 0), .int .u64 (lim B 1), .int .u64 (lim B 2), .int .u64 (lim B 3)])) rfl (ds := #[.bool b, .int .u64 (lim B 0), .int .u64 (lim B 1), .int .u64 (lim B 2), .int .u64 (lim B 3)]) rfl ?_; intro w2 Hb4 hbn; have hsz_w1 := HB.out.size; have lt_b3_b4 := Hb3.out.lt; replace HB := hide (HB.out.trans (hbn.mono HB.out.size)); replace Hb3 := hide (Hb3.out.below hbn Hb3.out.lt); clear hbn; replace Hb4 := hide Hb4))
  refine Sch.start (Sch.take 0 (Sch.take 2 (Sch.one 1 (Sch.one 3 (Sch.take 4 (Sch.take 5 (Sch.take 6 (Sch.take 8 (Sch.one 7 (Sch.one 9 (Sch.take 10 (Sch.take 11 (Sch.take 12 (Sch.take 13 (Sch.take 14 (Sch.take 16 (Sch.take 17 (Sch.one 15 (Sch.one 18 (Sch.take 19 (Sch.take 20 (Sch.take 21 (Sch.one 22 (Sch.take 23 (Sch.take 24 Sch.done))))))))))))))))))))))))) (S := fun w' => Below w2.heap.size w2 w') (by kernel_rfl) (by kernel_rfl) (fun _ d _ _ _ h => by cases d <;> exact h) (by kernel_rfl) ((Below.refl _ _).drew) (fun O hO hHeld => ?_)
  (refine Sch.t_loadw hO rfl (by rfl) (T := 24) rfl (g := w.heap.size) rfl (fun w' h => Hb3.out.below h Hb3.out.lt) Try.underlying24 rfl dw_s1 ?_; (try simp only [Act.put, List.setIfInBounds_toArray, List.set_cons_zero, List.set_cons_succ, Array.toArray_toList, List.getElem_toArray, List.getElem_cons_succ, List.getElem_cons_zero]))
  (refine Sch.t_loadw hO rfl (by rfl) (T := 24) rfl (g := w.heap.size) rfl (fun w' h => Hb3.out.below h Hb3.out.lt) Try.underlying24 rfl dw_s1 ?_; (try simp only [Act.put, List.setIfInBounds_toArray, List.set_cons_zero, List.set_cons_succ, Array.toArray_toList, List.getElem_toArray, List.getElem_cons_succ, List.getElem_cons_zero]))
  refine Sch.s_one hO rfl (by rfl) (fun K hK => ?_)
  go_simp
  go_at_call 15
  refine (F1.out _).mono ?_
  rintro e y1_1 ⟨rfl, hb_y1_1⟩
  go_wp2_with fail
  refine hK.out _ _ (hHeld.trans (hb_y1_1.mono hHeld.size)) (fun hHeld => ?_)
  clear hK K
  (try simp only [Act.put, List.setIfInBounds_toArray, List.set_cons_zero, List.set_cons_succ, Array.toArray_toList, List.getElem_toArray, List.getElem_cons_succ, List.getElem_cons_zero])
  refine Sch.s_one hO rfl (by rfl) (fun K hK => ?_)
  go_simp
  go_at_call 9
  refine (F2.out _).mono ?_
  rintro e y1_2 ⟨rfl, hb_y1_2⟩
  go_wp2_with fail
  refine hK.out _ _ (hHeld.trans (hb_y1_2.mono hHeld.size)) (fun hHeld => ?_)
  clear hK K
  (try simp only [Act.put, List.setIfInBounds_toArray, List.set_cons_zero, List.set_cons_succ, Array.toArray_toList, List.getElem_toArray, List.getElem_cons_succ, List.getElem_cons_zero])
  (refine Sch.t_val hO rfl (by rfl) (v := .bool true) (fun w _ => (by go_simp)) ?_; (try simp only [Act.put, List.setIfInBounds_toArray, List.set_cons_zero, List.set_cons_succ, Array.toArray_toList, List.getElem_toArray, List.getElem_cons_succ, List.getElem_cons_zero]))
  (refine Sch.t_move hO rfl (by rfl) (v := .bool true) (.inl rfl) rfl ?_; (try simp only [Act.put, List.setIfInBounds_toArray, List.set_cons_zero, List.set_cons_succ, Array.toArray_toList, List.getElem_toArray, List.getElem_cons_succ, List.getElem_cons_zero]))
  (refine Sch.t_loadw hO rfl (by rfl) (T := 33) rfl (g := w1.heap.size) rfl (fun w' h => Hb4.out.below h Hb4.out.lt) Try.underlying33 rfl dw_s3 ?_; (try simp only [Act.put, List.setIfInBounds_toArray, List.set_cons_zero, List.set_cons_succ, Array.toArray_toList, List.getElem_toArray, List.getElem_cons_succ, List.getElem_cons_zero]))
  (refine Sch.t_loadw hO rfl (by rfl) (T := 33) rfl (g := w1.heap.size) rfl (fun w' h => Hb4.out.below h Hb4.out.lt) Try.underlying33 rfl dw_s3 ?_; (try simp only [Act.put, List.setIfInBounds_toArray, List.set_cons_zero, List.set_cons_succ, Array.toArray_toList, List.getElem_toArray, List.getElem_cons_succ, List.getElem_cons_zero]))
  refine Sch.s_one hO rfl (by rfl) (fun K hK => ?_)
  go_simp
  go_at_call 16
  refine (F3.out _).mono ?_
  rintro e y1_3 ⟨rfl, hb_y1_3⟩
  go_wp2_with fail
  refine hK.out _ _ (hHeld.trans (hb_y1_3.mono hHeld.size)) (fun hHeld => ?_)
  clear hK K
  (try simp only [Act.put, List.setIfInBounds_toArray, List.set_cons_zero, List.set_cons_succ, Array.toArray_toList, List.getElem_toArray, List.getElem_cons_succ, List.getElem_cons_zero])
  refine Sch.s_one hO rfl (by rfl) (fun K hK => ?_)
  go_simp
  go_at_call 17
  refine (F4.out _).mono ?_
  rintro e y1_4 ⟨rfl, hb_y1_4⟩
  go_wp2_with fail
  refine hK.out _ _ (hHeld.trans (hb_y1_4.mono hHeld.size)) (fun hHeld => ?_)
  clear hK K
  (try simp only [Act.put, List.setIfInBounds_toArray, List.set_cons_zero, List.set_cons_succ, Array.toArray_toList, List.getElem_toArray, List.getElem_cons_succ, List.getElem_cons_zero])
  (refine Sch.t_val hO rfl (by rfl) (v := .bool true) (fun w _ => (by go_simp)) ?_; (try simp only [Act.put, List.setIfInBounds_toArray, List.set_cons_zero, List.set_cons_succ, Array.toArray_toList, List.getElem_toArray, List.getElem_cons_succ, List.getElem_cons_zero]))
  (refine Sch.t_val hO rfl (by rfl) (v := .bool true) (fun w _ => (by go_simp)) ?_; (try simp only [Act.put, List.setIfInBounds_toArray, List.set_cons_zero, List.set_cons_succ, Array.toArray_toList, List.getElem_toArray, List.getElem_cons_succ, List.getElem_cons_zero]))
  (refine Sch.t_move hO rfl (by rfl) (v := .bool true) (.inl rfl) rfl ?_; (try simp only [Act.put, List.setIfInBounds_toArray, List.set_cons_zero, List.set_cons_succ, Array.toArray_toList, List.getElem_toArray, List.getElem_cons_succ, List.getElem_cons_zero]))
  (refine Sch.t_move hO rfl (by rfl) (v := .int .u64 n) (.inl rfl) rfl ?_; (try simp only [Act.put, List.setIfInBounds_toArray, List.set_cons_zero, List.set_cons_succ, Array.toArray_toList, List.getElem_toArray, List.getElem_cons_succ, List.getElem_cons_zero]))
  (refine Sch.t_val hO rfl (by rfl) (v := .agg (#[.int .u64 n, .int .u64 0, .int .u64 0, .int .u64 0])) (fun w _ => (by go_simp)) ?_; (try simp only [Act.put, List.setIfInBounds_toArray, List.set_cons_zero, List.set_cons_succ, Array.toArray_toList, List.getElem_toArray, List.getElem_cons_succ, List.getElem_cons_zero]))
  (refine Sch.t_move hO rfl (by rfl) (v := .int .u64 n) (.inl rfl) rfl ?_; (try simp only [Act.put, List.setIfInBounds_toArray, List.set_cons_zero, List.set_cons_succ, Array.toArray_toList, List.getElem_toArray, List.getElem_cons_succ, List.getElem_cons_zero]))
  (refine Sch.t_val hO rfl (by rfl) (v := .agg (#[.int .u64 n, .int .u64 0, .int .u64 0, .int .u64 0])) (fun w _ => (by go_simp)) ?_; (try simp only [Act.put, List.setIfInBounds_toArray, List.set_cons_zero, List.set_cons_succ, Array.toArray_toList, List.getElem_toArray, List.getElem_cons_succ, List.getElem_cons_zero]))
  refine Sch.s_one hO rfl (by rfl) (fun K hK => ?_)
  go_simp
  go_at_call 15
  refine (F5.out _).mono ?_
  rintro e y1_5 ⟨rfl, hb_y1_5⟩
  go_wp2_with fail
  refine hK.out _ _ (hHeld.trans (hb_y1_5.mono hHeld.size)) (fun hHeld => ?_)
  clear hK K
  (try simp only [Act.put, List.setIfInBounds_toArray, List.set_cons_zero, List.set_cons_succ, Array.toArray_toList, List.getElem_toArray, List.getElem_cons_succ, List.getElem_cons_zero])
  refine Sch.s_one hO rfl (by rfl) (fun K hK => ?_)
  go_simp
  go_at_call 9
  refine (F6.out _).mono ?_
  rintro e y1_6 ⟨rfl, hb_y1_6⟩
  go_wp2_with fail
  refine hK.out _ _ (hHeld.trans (hb_y1_6.mono hHeld.size)) (fun hHeld => ?_)
  clear hK K
  (try simp only [Act.put, List.setIfInBounds_toArray, List.set_cons_zero, List.set_cons_succ, Array.toArray_toList, List.getElem_toArray, List.getElem_cons_succ, List.getElem_cons_zero])
  (refine Sch.t_val hO rfl (by rfl) (v := .bool true) (fun w _ => (by go_simp)) ?_; (try simp only [Act.put, List.setIfInBounds_toArray, List.set_cons_zero, List.set_cons_succ, Array.toArray_toList, List.getElem_toArray, List.getElem_cons_succ, List.getElem_cons_zero]))
  (refine Sch.t_val hO rfl (by rfl) (v := .bool true) (fun w _ => (by go_simp)) ?_; (try simp only [Act.put, List.setIfInBounds_toArray, List.set_cons_zero, List.set_cons_succ, Array.toArray_toList, List.getElem_toArray, List.getElem_cons_succ, List.getElem_cons_zero]))
  (refine Sch.t_move hO rfl (by rfl) (v := .bool true) (.inl rfl) rfl ?_; (try simp only [Act.put, List.setIfInBounds_toArray, List.set_cons_zero, List.set_cons_succ, Array.toArray_toList, List.getElem_toArray, List.getElem_cons_succ, List.getElem_cons_zero]))
  refine Sch.s_one hO rfl (by rfl) (fun K hK => ?_)
  go_simp
  go_at_call 8
  refine (awake4_c _).mono ?_
  rintro e y1_7 ⟨rfl, hb_y1_7⟩
  go_wp2_with fail
  refine hK.out _ _ (hHeld.trans (hb_y1_7.mono hHeld.size)) (fun hHeld => ?_)
  clear hK K
  (try simp only [Act.put, List.setIfInBounds_toArray, List.set_cons_zero, List.set_cons_succ, Array.toArray_toList, List.getElem_toArray, List.getElem_cons_succ, List.getElem_cons_zero])
  (refine Sch.t_val hO rfl (by rfl) (v := .bool true) (fun w _ => (by go_simp)) ?_; (try simp only [Act.put, List.setIfInBounds_toArray, List.set_cons_zero, List.set_cons_succ, Array.toArray_toList, List.getElem_toArray, List.getElem_cons_succ, List.getElem_cons_zero]))
  (refine Sch.t_move hO rfl (by rfl) (v := .bool true) (.inr rfl) rfl ?_; (try simp only [Act.put, List.setIfInBounds_toArray, List.set_cons_zero, List.set_cons_succ, Array.toArray_toList, List.getElem_toArray, List.getElem_cons_succ, List.getElem_cons_zero]))
  refine Sch.t_done ?_
  replace HB := hide (HB.out.trans (hHeld.mono HB.out.size))
  replace Hb3 := hide (Hb3.out.below hHeld Hb3.out.lt)
  replace Hb4 := hide (Hb4.out.below hHeld Hb4.out.lt)
  clear hHeld hO
  go_wp2
  go_ret
  exact ⟨rfl, HB.out⟩
theorem DecimalFormat_walk (a0 a1 a2 a3 : Int) (b : Bool) (b0 b1 b2 b3 n : Int) (w0 : (Lit.int .u64 a0).wf = true) (w1 : (Lit.int .u64 a1).wf = true) (w2 : (Lit.int .u64 a2).wf = true) (w3 : (Lit.int .u64 a3).wf = true) (v0 : (Lit.int .u64 b0).wf = true) (v1 : (Lit.int .u64 b1).wf = true) (v2 : (Lit.int .u64 b2).wf = true) (v3 : (Lit.int .u64 b3).wf = true) (wn : (Lit.int .u64 n).wf = true) (w : World) :
    Calls Try.prog 5 #[.agg #[.int .u64 a0, .int .u64 a1, .int .u64 a2, .int .u64 a3], .agg #[.bool b, .int .u64 b0, .int .u64 b1, .int .u64 b2, .int .u64 b3], .int .u64 n] w fun e w' => e = .returned (.bool true) ∧ Below w.heap.size w w' := by
  obtain ⟨A, hA, rfl, rfl, rfl, rfl⟩ := isU_wf w0 w1 w2 w3
  obtain ⟨B, hB, rfl, rfl, rfl, rfl⟩ := isU_wf v0 v1 v2 v3
  obtain ⟨p, q⟩ := bounds_u64 wn
  exact Format_in hA hB b p (by omega) w
end Go.Proofs.Ythikkajjnfeigaa
