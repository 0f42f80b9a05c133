/- chapter 15: BlockReference, walked. -/
import Derived.WalkKit
import Derived.KernelRfl
import Derived.RowKit3
import Derived.Deep.LoopGhost
import Derived.Deep.QuietTactic
import Derived.BigQuiet
import Derived.WideLaws
import Derived.Laws.Rows
import Derived.Below
import Derived.Deep.Draws
import Derived.Outline
import Derived.LoopN
import Derived.Handy
import Derived.Laws.Externs
import Derived.Laws.BitsAllLaws
import Derived.Laws.BitsLemmas
import Derived.Deep.DeepCutAuto
import Derived.Deep.CutBlock
import Derived.Deep.RegionHeld3
import Derived.Test.YtkneiobohhhcpaaJE
import Derived.Test.YtkneiobohhhcpaaG3
namespace Go.Proofs.Ytkneiobohhhcpaa
open Go.RowKit
set_option linter.unusedVariables false
set_option linter.unusedSimpArgs false
theorem jf_s0 : (Try.prog.info? 30).map (·.size) = some 7 := by kernel_rfl
theorem jf_s1 : (Try.prog.info? 27).map (·.size) = some 21 := by kernel_rfl
theorem jf_z2 : (Try.prog.info? 30).map (fun i => (i.zero, i.size)) = some (some (.agg #[.int .u64 0, .int .u64 0, .int .u64 0, .int .u64 0, .int .u64 0, .int .u64 0, .int .u64 0]), 7) := by kernel_rfl
theorem jf_s3 : (Try.prog.info? 23).map (·.size) = some 8 := by kernel_rfl
theorem jf_z4 : (Try.prog.info? 27).map (fun i => (i.zero, i.size)) = some (some (.agg #[.int .u64 0, .int .u64 0, .int .u64 0, .int .u64 0, .int .u64 0, .int .u64 0, .int .u64 0, .int .u64 0, .int .u64 0, .int .u64 0, .int .u64 0, .int .u64 0, .int .u64 0, .int .u64 0, .int .u64 0, .int .u64 0, .int .u64 0, .int .u64 0, .int .u64 0, .int .u64 0, .int .u64 0]), 21) := by kernel_rfl
theorem Sch.t_build {P : Program} {ops O : Array Oper} {Q : Exit → Act → World → Prop} {S : World → Prop} {r : Sch} {a : Act} {w : World} {i : Nat} {oi : Oper} {T : TypeId} {parts : Array (Nat × Operand)} {vs : Array (Nat × Value)} {v : Value} (hO : Hid (O = ops)) (hi : ops[i]? = some oi) (hw : Region.wanted oi (yielded ops a.tmps) = true) (ho : oi.op = .build T parts) (hv : parts.map (fun p => (p.1, a.eval p.2)) = vs)
    (hb : ∀ w, (Instr.build T vs).run P w = .ok v w) (h : r.wp P O Q S (a.put oi.dst v) w) : (Sch.take i r).wp P O Q S a w :=
  Sch.t_val hO hi hw (fun w _ => by
    unfold execOp
    simp only [ho]
    rw [show (parts.map fun (i, x) => (i, a.eval x)) = vs from hv]
    simp [hb]) h
def p2 (A B : Nat → Int) : Array Value := #[.int .u64 (A 0), .int .u64 (A 1), .int .u64 (A 2), .int .u64 (A 3), .int .u64 (A 4), .int .u64 (A 5), .int .u64 (A 6), .int .u64 (A 7), .int .u64 (A 8), .int .u64 (A 9), .int .u64 (A 10), .int .u64 (A 11), .int .u64 (A 12), .int .u64 (A 13), .int .u64 (A 14), .int .u64 (A 15), .int .u64 (A 16), .int .u64 (A 17), .int .u64 (A 18), .int .u64 (A 19), .int .u64 (A 20), .int .u64 (B 0), .int .u64 (B 1), .int .u64 (B 2), .int .u64 (B 3), .int .u64 (B 4), .int .u64 (B 5), .int .u64 (B 6), .int .u64 (B 7), .int .u64 (B 8), .int .u64 (B 9), .int .u64 (B 10), .int .u64 (B 11), .int .u64 (B 12), .int .u64 (B 13), .int .u64 (B 14), .int .u64 (B 15), .int .u64 (B 16), .int .u64 (B 17), .int .u64 (B 18), .int .u64 (B 19), .int .u64 (B 20)]
theorem p2_build (A B : Nat → Int) (w : World) : (Instr.build 36 #[(0, .agg (pC A)), (1, .agg (pC B))]).run Try.prog w = .ok (.agg (p2 A B)) w := by kernel_rfl
theorem p2_index (A B : Nat → Int) : (∀ w, (Instr.index 36 (.agg (p2 A B)) (.int .i64 (0 : Nat))).run Try.prog w = .ok (.agg (pC A)) w) ∧ (∀ w, (Instr.index 36 (.agg (p2 A B)) (.int .i64 (1 : Nat))).run Try.prog w = .ok (.agg (pC B)) w) := by
  refine ⟨?_, ?_⟩ <;> intro w <;> kernel_rfl
theorem n3_index (a b c : Int) : (∀ w, (Instr.index 49 (.agg #[.int .u64 a, .int .u64 b, .int .u64 c]) (.int .i64 (0 : Nat))).run Try.prog w = .ok (.int .u64 a) w) ∧ (∀ w, (Instr.index 49 (.agg #[.int .u64 a, .int .u64 b, .int .u64 c]) (.int .i64 (1 : Nat))).run Try.prog w = .ok (.int .u64 b) w) ∧ (∀ w, (Instr.index 49 (.agg #[.int .u64 a, .int .u64 b, .int .u64 c]) (.int .i64 (2 : Nat))).run Try.prog w = .ok (.int .u64 c) w) := by
  refine ⟨?_, ?_, ?_⟩ <;> intro w <;> kernel_rfl
theorem sel3 {P : Nat → Prop} (h0 : P 0) (h1 : P 1) (h2 : P 2) {K : Nat} (h : K < 3) : P K := by
  obtain rfl | rfl | rfl : K = 0 ∨ K = 1 ∨ K = 2 := by omega
  · exact h0
  · exact h1
  · exact h2
theorem sel2 {P : Nat → Prop} (h0 : P 0) (h1 : P 1) {K : Nat} (h : K < 2) : P K := by
  obtain rfl | rfl : K = 0 ∨ K = 1 := by omega
  · exact h0
  · exact h1
set_option maxRecDepth 20000 in
set_option maxHeartbeats 32000000 in
theorem gas_c (n t g f0 f1 f2 f3 x : Int) (P : Nat → Int) (hP : PW P) (g0 : 0 ≤ g) (g1 : g < 18446744073709551616) (x0 : 0 ≤ x) (x1 : x < 18446744073709551616) (w : World) :
    Calls Try.prog 13 #[.agg #[.int .u64 n, .int .u64 t, .int .u64 g, .int .u64 f0, .int .u64 f1, .int .u64 f2, .int .u64 f3], .int .u64 x, .agg (pC P)] w fun e w' => e = .returned (.bool true) ∧ Below w.heap.size w w' := by
  have hr := gr_rg hP g0 g1
  have HG1 := fun w => gr_c n t g f0 f1 f2 f3 P hP g0 w
  have HG2 := fun w => rgr_c n t g f0 f1 f2 f3 P hP g0 w
  obtain ⟨G, hG⟩ : ∃ G, grV g P = G := ⟨_, rfl⟩
  rw [hG] at hr HG1 HG2
  replace HG1 := hide HG1
  replace HG2 := hide HG2
  have HUG := hide (fun N (hN : 0 ≤ N) w => ug_c n t g f0 f1 f2 f3 N P hP g0 g1 hN w)
  have HUR := hide (fun N (hN : 0 ≤ N) w => rug_c n t g f0 f1 f2 f3 N P hP g0 g1 hN w)
  obtain ⟨n1, e1, m1, k1⟩ : ∃ n, x.tmod 100000 = n ∧ 0 ≤ n ∧ n < 18446744073709551616 := ⟨_, rfl, by rw [Int.tmod_eq_emod_of_nonneg x0]; omega, by rw [Int.tmod_eq_emod_of_nonneg x0]; omega⟩
  have f1' : IntKind.u64.wrap n1 = n1 := by rw [IntKind.wrap_u64]; omega
  clear hG
  go_enter Try.func13, Try.ntmps13
  go_wp2_with (first | (refine n_box (by rfl) (T := 30) (x := (.tmp 0)) rfl (v := .agg (#[.int .u64 n, .int .u64 t, .int .u64 g, .int .u64 f0, .int .u64 f1, .int .u64 f2, .int .u64 f3])) rfl (ds := #[.int .u64 n, .int .u64 t, .int .u64 g, .int .u64 f0, .int .u64 f1, .int .u64 f2, .int .u64 f3]) rfl ?_; intro w1 Hb3 hbn; have HB := hide hbn; clear hbn; replace Hb3 := hide Hb3) | (refine n_box (by rfl) (T := 27) (x := (.tmp 2)) rfl (v := .agg (pC P)) rfl (ds := pC P) rfl ?_; intro w2 Hb5 hbn; have hsz_w1 := HB.out.size; have lt_b3_b5 := Hb3.out.lt; replace HB := hide (HB.out.trans (hbn.mono HB.out.size)); replace Hb3 := hide (Hb3.out.below hbn Hb3.out.lt); clear hbn; replace Hb5 := hide Hb5) | (refine n_loadw (by rfl) (T := 30) (x := (.tmp 3)) rfl (g := w.heap.size) rfl Hb3.out Try.underlying30 rfl jf_s0 ?_) | (refine n_loadw (by rfl) (T := 27) (x := (.tmp 5)) rfl (g := w1.heap.size) rfl Hb5.out Try.underlying27 rfl jf_s1 ?_))
  refine (HG2.out _).mono ?_
  rintro e w3 ⟨rfl, hbc⟩
  replace HB := hide (HB.out.trans (hbc.mono HB.out.size))
  replace Hb3 := hide (Hb3.out.below hbc Hb3.out.lt)
  replace Hb5 := hide (Hb5.out.below hbc Hb5.out.lt)
  clear hbc
  go_wp2_with fail
  go_loopw [20] (fun v20 wr => ∃ J : Nat, J ≤ 3 ∧ v20 = .int .i64 J ∧ Hid (Below w.heap.size w wr) ∧ Hid (NB wr (w.heap.size) #[.int .u64 n, .int .u64 t, .int .u64 g, .int .u64 f0, .int .u64 f1, .int .u64 f2, .int .u64 f3] 30) ∧ Hid (NB wr (w1.heap.size) (pC P) 27)) (fun v20 _ => (3 - (intOf v20).toNat))
  case atStart => exact ⟨0, by omega, rfl, HB, Hb3, Hb5⟩
  case round =>
    obtain ⟨J, hJ, rfl, HB, Hb3, Hb5⟩ := hrel
    rcases Nat.lt_or_ge J 3 with hj | hj
    · have hj0 : (J : Int) < 3 := by omega
      obtain ⟨N, N0, hjx⟩ : ∃ N : Int, 0 ≤ N ∧ ∀ w, (Instr.index 49 (.agg #[.int .u64 x, .int .u64 n1, .int .u64 G]) (.int .i64 J)).run Try.prog w = .ok (.int .u64 N) w :=
        sel3 (P := fun J => ∃ N : Int, 0 ≤ N ∧ ∀ w, (Instr.index 49 (.agg #[.int .u64 x, .int .u64 n1, .int .u64 G]) (.int .i64 (J : Nat))).run Try.prog w = .ok (.int .u64 N) w) ⟨_, x0, (n3_index _ _ _).1⟩ ⟨_, m1, (n3_index _ _ _).2.1⟩ ⟨_, hr.1, (n3_index _ _ _).2.2⟩ hj
      have HU1 := HUG.out N N0
      have HU2 := HUR.out N N0
      obtain ⟨u0, eu0⟩ : ∃ u, ugB g N P n = u := ⟨_, rfl⟩
      obtain ⟨u1, eu1⟩ : ∃ u, ugB g N P t = u := ⟨_, rfl⟩
      obtain ⟨u2, eu2⟩ : ∃ u, ugB g N P (g + N) = u := ⟨_, rfl⟩
      obtain ⟨u3, eu3⟩ : ∃ u, ugB g N P f0 = u := ⟨_, rfl⟩
      obtain ⟨u4, eu4⟩ : ∃ u, ugB g N P f1 = u := ⟨_, rfl⟩
      obtain ⟨u5, eu5⟩ : ∃ u, ugB g N P f2 = u := ⟨_, rfl⟩
      obtain ⟨u6, eu6⟩ : ∃ u, ugB g N P f3 = u := ⟨_, rfl⟩
      obtain ⟨e, ee⟩ : ∃ u, ugE g N P = u := ⟨_, rfl⟩
      rw [eu0, eu1, eu2, eu3, eu4, eu5, eu6, ee] at HU1 HU2
      replace HU1 := hide HU1
      replace HU2 := hide HU2
      clear eu0 eu1 eu2 eu3 eu4 eu5 eu6 ee
      have hq := eqB_law u0 u1 u2 u3 u4 u5 u6
      go_wp2_with (first | (refine n_loadw (by rfl) (T := 30) (x := (.tmp 3)) rfl (g := w.heap.size) rfl Hb3.out Try.underlying30 rfl jf_s0 ?_) | (refine n_loadw (by rfl) (T := 27) (x := (.tmp 5)) rfl (g := w1.heap.size) rfl Hb5.out Try.underlying27 rfl jf_s1 ?_))
      refine (HU1.out _).mono ?_
      rintro e w4 ⟨rfl, hbc⟩
      replace HB := hide (HB.out.trans (hbc.mono HB.out.size))
      replace Hb3 := hide (Hb3.out.below hbc Hb3.out.lt)
      replace Hb5 := hide (Hb5.out.below hbc Hb5.out.lt)
      clear hbc
      go_wp2_with (first | (refine n_alloc (by rfl) (T := 30) rfl jf_z2 (ds := #[.int .u64 0, .int .u64 0, .int .u64 0, .int .u64 0, .int .u64 0, .int .u64 0, .int .u64 0]) rfl ?_; intro w5 Hb9 hbn; have hsz_w4 := HB.out.size; have lt_b3_b9 := Hb3.out.lt; have lt_b5_b9 := Hb5.out.lt; replace HB := hide (HB.out.trans (hbn.mono HB.out.size)); replace Hb3 := hide (Hb3.out.below hbn Hb3.out.lt); replace Hb5 := hide (Hb5.out.below hbn Hb5.out.lt); clear hbn; replace Hb9 := hide Hb9) | (refine n_storew (by rfl) (T := 30) (x := (.tmp 9)) (y := (.tmp 28)) rfl (g := w4.heap.size) rfl (vs := #[.int .u64 u0, .int .u64 u1, .int .u64 u2, .int .u64 u3, .int .u64 u4, .int .u64 u5, .int .u64 u6]) rfl (by first | exact pC_one _ | (simp [Value.oneCell']; done)) Hb9.out rfl jf_s0 ?_; clear Hb9; intro w6 Hb9 hun; replace Hb9 := hide Hb9; replace HB := hide (hun.keep w.heap.size w (by omega) HB.out); replace Hb3 := hide (Hb3.out.upd hun (by omega)); replace Hb5 := hide (Hb5.out.upd hun (by omega)); clear hun) | (refine n_loadw (by rfl) (T := 30) (x := (.tmp 3)) rfl (g := w.heap.size) rfl Hb3.out Try.underlying30 rfl jf_s0 ?_) | (refine n_loadw (by rfl) (T := 27) (x := (.tmp 5)) rfl (g := w1.heap.size) rfl Hb5.out Try.underlying27 rfl jf_s1 ?_))
      refine (HU2.out _).mono ?_
      rintro e w7 ⟨rfl, hbc⟩
      replace HB := hide (HB.out.trans (hbc.mono HB.out.size))
      replace Hb3 := hide (Hb3.out.below hbc Hb3.out.lt)
      replace Hb5 := hide (Hb5.out.below hbc Hb5.out.lt)
      replace Hb9 := hide (Hb9.out.below hbc Hb9.out.lt)
      clear hbc
      go_wp2_with (first | (refine n_alloc (by rfl) (T := 30) rfl jf_z2 (ds := #[.int .u64 0, .int .u64 0, .int .u64 0, .int .u64 0, .int .u64 0, .int .u64 0, .int .u64 0]) rfl ?_; intro w8 Hb11 hbn; have hsz_w7 := HB.out.size; have lt_b3_b11 := Hb3.out.lt; have lt_b5_b11 := Hb5.out.lt; have lt_b9_b11 := Hb9.out.lt; replace HB := hide (HB.out.trans (hbn.mono HB.out.size)); replace Hb3 := hide (Hb3.out.below hbn Hb3.out.lt); replace Hb5 := hide (Hb5.out.below hbn Hb5.out.lt); replace Hb9 := hide (Hb9.out.below hbn Hb9.out.lt); clear hbn; replace Hb11 := hide Hb11) | (refine n_storew (by rfl) (T := 30) (x := (.tmp 11)) (y := (.tmp 35)) rfl (g := w7.heap.size) rfl (vs := #[.int .u64 u0, .int .u64 u1, .int .u64 u2, .int .u64 u3, .int .u64 u4, .int .u64 u5, .int .u64 u6]) rfl (by first | exact pC_one _ | (simp [Value.oneCell']; done)) Hb11.out rfl jf_s0 ?_; clear Hb11; intro w9 Hb11 hun; replace Hb11 := hide Hb11; replace HB := hide (hun.keep w.heap.size w (by omega) HB.out); replace Hb3 := hide (Hb3.out.upd hun (by omega)); replace Hb5 := hide (Hb5.out.upd hun (by omega)); replace Hb9 := hide (Hb9.out.upd hun (by omega)); clear hun) | (refine n_loadw (by rfl) (T := 30) (x := (.tmp 9)) rfl (g := w4.heap.size) rfl Hb9.out Try.underlying30 rfl jf_s0 ?_) | (refine n_loadw (by rfl) (T := 30) (x := (.tmp 11)) rfl (g := w7.heap.size) rfl Hb11.out Try.underlying30 rfl jf_s0 ?_))
      go_roundw
      case rel => exact ⟨J + 1, by omega, by go_num, HB, Hb3, Hb5⟩
      case measure => simp [intOf]; omega
    · obtain rfl : J = 3 := by omega
      go_upto_region 9 with fail
      refine Sch.start (Sch.take 0 (Sch.take 1 (Sch.take 3 (Sch.take 4 (Sch.one 2 (Sch.one 5 (Sch.take 6 (Sch.take 7 Sch.done)))))))) (S := fun w' => Below wr.heap.size wr w') (by kernel_rfl) (by kernel_rfl) (fun _ d _ _ _ h => by cases d <;> exact h) (by kernel_rfl) ((Below.refl _ _).drew) (fun O hO hHeld => ?_)
      (refine Sch.t_loadw hO rfl (by rfl) (T := 30) rfl (g := w.heap.size) rfl (fun w' h => Hb3.out.below h Hb3.out.lt) Try.underlying30 rfl jf_s0 ?_; (try simp only [Act.put, List.setIfInBounds_toArray, List.set_cons_zero, List.set_cons_succ, Array.toArray_toList, List.getElem_toArray, List.getElem_cons_succ, List.getElem_cons_zero]))
      (refine Sch.t_loadw hO rfl (by rfl) (T := 27) rfl (g := w1.heap.size) rfl (fun w' h => Hb5.out.below h Hb5.out.lt) Try.underlying27 rfl jf_s1 ?_; (try simp only [Act.put, List.setIfInBounds_toArray, List.set_cons_zero, List.set_cons_succ, Array.toArray_toList, List.getElem_toArray, List.getElem_cons_succ, List.getElem_cons_zero]))
      (refine Sch.t_loadw hO rfl (by rfl) (T := 30) rfl (g := w.heap.size) rfl (fun w' h => Hb3.out.below h Hb3.out.lt) Try.underlying30 rfl jf_s0 ?_; (try simp only [Act.put, List.setIfInBounds_toArray, List.set_cons_zero, List.set_cons_succ, Array.toArray_toList, List.getElem_toArray, List.getElem_cons_succ, List.getElem_cons_zero]))
      (refine Sch.t_loadw hO rfl (by rfl) (T := 27) rfl (g := w1.heap.size) rfl (fun w' h => Hb5.out.below h Hb5.out.lt) Try.underlying27 rfl jf_s1 ?_; (try simp only [Act.put, List.setIfInBounds_toArray, List.set_cons_zero, List.set_cons_succ, Array.toArray_toList, List.getElem_toArray, List.getElem_cons_succ, List.getElem_cons_zero]))
      refine Sch.s_one hO rfl (by rfl) (fun K hK => ?_)
      go_simp
      go_at_call 15
      refine (HG1.out _).mono ?_
      rintro e y9_1 ⟨rfl, hb_y9_1⟩
      go_wp2_with fail
      refine hK.out _ _ (hHeld.trans (hb_y9_1.mono hHeld.size)) (fun hHeld => ?_)
      clear hK K
      (try simp only [Act.put, List.setIfInBounds_toArray, List.set_cons_zero, List.set_cons_succ, Array.toArray_toList, List.getElem_toArray, List.getElem_cons_succ, List.getElem_cons_zero])
      refine Sch.s_one hO rfl (by rfl) (fun K hK => ?_)
      go_simp
      go_at_call 20
      refine (HG2.out _).mono ?_
      rintro e y9_2 ⟨rfl, hb_y9_2⟩
      go_wp2_with fail
      refine hK.out _ _ (hHeld.trans (hb_y9_2.mono hHeld.size)) (fun hHeld => ?_)
      clear hK K
      (try simp only [Act.put, List.setIfInBounds_toArray, List.set_cons_zero, List.set_cons_succ, Array.toArray_toList, List.getElem_toArray, List.getElem_cons_succ, List.getElem_cons_zero])
      (refine Sch.t_val hO rfl (by rfl) (v := .bool true) (fun w _ => (by go_simp)) ?_; (try simp only [Act.put, List.setIfInBounds_toArray, List.set_cons_zero, List.set_cons_succ, Array.toArray_toList, List.getElem_toArray, List.getElem_cons_succ, List.getElem_cons_zero]))
      (refine Sch.t_move hO rfl (by rfl) (v := .bool true) (.inr rfl) rfl ?_; (try simp only [Act.put, List.setIfInBounds_toArray, List.set_cons_zero, List.set_cons_succ, Array.toArray_toList, List.getElem_toArray, List.getElem_cons_succ, List.getElem_cons_zero]))
      refine Sch.t_done ?_
      replace HB := hide (HB.out.trans (hHeld.mono HB.out.size))
      replace Hb3 := hide (Hb3.out.below hHeld Hb3.out.lt)
      replace Hb5 := hide (Hb5.out.below hHeld Hb5.out.lt)
      clear hHeld hO
      go_wp2
      go_ret
      exact ⟨rfl, HB.out⟩
set_option maxRecDepth 20000 in
set_option maxHeartbeats 64000000 in
theorem BReference_in (n t g f0 f1 f2 f3 : Int) (n0 : 0 ≤ n) (n1 : n < 18446744073709551616) (t0 : 0 ≤ t) (t1 : t < 18446744073709551616) (g0 : 0 ≤ g) (g1 : g < 18446744073709551616) (R : Nat → Int) (hR : PW R) (v : Nat → Int) (hv : ∀ j, 0 ≤ v j ∧ v j < 18446744073709551616) (s b x : Int) (s0 : 0 ≤ s) (s1 : s < 18446744073709551616) (bb0 : 0 ≤ b) (bb1 : b < 18446744073709551616) (x0 : 0 ≤ x) (x1 : x < 18446744073709551616) (w : World) :
    Calls Try.prog 4 #[.agg #[.int .u64 n, .int .u64 t, .int .u64 g, .int .u64 f0, .int .u64 f1, .int .u64 f2, .int .u64 f3], .agg (pC R), .agg #[.int .u64 (v 0), .int .u64 (v 1), .int .u64 (v 2), .int .u64 (v 3), .int .u64 (v 4), .int .u64 (v 5), .int .u64 (v 6), .int .u64 (v 7)], .int .u64 s, .int .u64 b, .int .u64 x] w fun e w' => e = .returned (.bool true) ∧ Below w.heap.size w w' := by
  have hR' := hide hR
  have hw' := hide (vp_w hv)
  obtain ⟨s3, es, m1, k1⟩ : ∃ n, s.tmod 1048577 = n ∧ 0 ≤ n ∧ n < 1048577 := ⟨_, rfl, by rw [Int.tmod_eq_emod_of_nonneg s0]; omega, by rw [Int.tmod_eq_emod_of_nonneg s0]; omega⟩
  obtain ⟨b2, eb2, m2, k2⟩ : ∃ n, b.tmod 1099511627776 = n ∧ 0 ≤ n ∧ n < 18446744073709551616 := ⟨_, rfl, by rw [Int.tmod_eq_emod_of_nonneg bb0]; omega, by rw [Int.tmod_eq_emod_of_nonneg bb0]; omega⟩
  obtain ⟨s2, es2, ps2, qs2⟩ : ∃ n, 1 + s3 = n ∧ 0 ≤ n ∧ n < 18446744073709551616 := ⟨_, rfl, by omega, by omega⟩
  have fs3 : IntKind.u64.wrap s3 = s3 := by rw [IntKind.wrap_u64]; omega
  have fs2 : IntKind.u64.wrap s2 = s2 := by rw [IntKind.wrap_u64]; omega
  have fb2 : IntKind.u64.wrap b2 = b2 := by rw [IntKind.wrap_u64]; omega
  replace hv := hide hv
  clear hR
  go_enter Try.func4, Try.ntmps4
  go_upto_region 1 with (first | (refine n_box (by rfl) (T := 30) (x := (.tmp 0)) rfl (v := .agg (#[.int .u64 n, .int .u64 t, .int .u64 g, .int .u64 f0, .int .u64 f1, .int .u64 f2, .int .u64 f3])) rfl (ds := #[.int .u64 n, .int .u64 t, .int .u64 g, .int .u64 f0, .int .u64 f1, .int .u64 f2, .int .u64 f3]) rfl ?_; intro w1 Hb6 hbn; have HB := hide hbn; clear hbn; replace Hb6 := hide Hb6) | (refine n_box (by rfl) (T := 27) (x := (.tmp 1)) rfl (v := .agg (pC R)) rfl (ds := pC R) rfl ?_; intro w2 Hb7 hbn; have hsz_w1 := HB.out.size; have lt_b6_b7 := Hb6.out.lt; replace HB := hide (HB.out.trans (hbn.mono HB.out.size)); replace Hb6 := hide (Hb6.out.below hbn Hb6.out.lt); clear hbn; replace Hb7 := hide Hb7) | (refine n_box (by rfl) (T := 23) (x := (.tmp 2)) rfl (v := .agg (#[.int .u64 (v 0), .int .u64 (v 1), .int .u64 (v 2), .int .u64 (v 3), .int .u64 (v 4), .int .u64 (v 5), .int .u64 (v 6), .int .u64 (v 7)])) rfl (ds := #[.int .u64 (v 0), .int .u64 (v 1), .int .u64 (v 2), .int .u64 (v 3), .int .u64 (v 4), .int .u64 (v 5), .int .u64 (v 6), .int .u64 (v 7)]) rfl ?_; intro w3 Hb8 hbn; have hsz_w2 := HB.out.size; have lt_b6_b8 := Hb6.out.lt; have lt_b7_b8 := Hb7.out.lt; replace HB := hide (HB.out.trans (hbn.mono HB.out.size)); replace Hb6 := hide (Hb6.out.below hbn Hb6.out.lt); replace Hb7 := hide (Hb7.out.below hbn Hb7.out.lt); clear hbn; replace Hb8 := hide Hb8))
  refine Sch.start (Sch.take 0 (Sch.take 1 (Sch.take 4 (Sch.one 2 (Sch.take 3 Sch.done))))) (S := fun w' => Below w3.heap.size w3 w') (by kernel_rfl) (by kernel_rfl) (fun _ d _ _ _ h => by cases d <;> exact h) (by kernel_rfl) ((Below.refl _ _).drew) (fun O hO hHeld => ?_)
  (refine Sch.t_loadw hO rfl (by rfl) (T := 27) rfl (g := w1.heap.size) rfl (fun w' h => Hb7.out.below h Hb7.out.lt) Try.underlying27 rfl jf_s1 ?_; (try simp only [Act.put, List.setIfInBounds_toArray, List.set_cons_zero, List.set_cons_succ, Array.toArray_toList, List.getElem_toArray, List.getElem_cons_succ, List.getElem_cons_zero]))
  (refine Sch.t_loadw hO rfl (by rfl) (T := 23) rfl (g := w2.heap.size) rfl (fun w' h => Hb8.out.below h Hb8.out.lt) Try.underlying23 rfl jf_s3 ?_; (try simp only [Act.put, List.setIfInBounds_toArray, List.set_cons_zero, List.set_cons_succ, Array.toArray_toList, List.getElem_toArray, List.getElem_cons_succ, List.getElem_cons_zero]))
  (refine Sch.t_move hO rfl (by rfl) (v := .int .i64 0) (.inl rfl) rfl ?_; (try simp only [Act.put, List.setIfInBounds_toArray, List.set_cons_zero, List.set_cons_succ, Array.toArray_toList, List.getElem_toArray, List.getElem_cons_succ, List.getElem_cons_zero]))
  refine Sch.s_one hO rfl (by rfl) (fun K hK => ?_)
  go_simp
  go_at_call 6
  refine (vp_c v hv.out _).mono ?_
  rintro e y1_1 ⟨rfl, hb_y1_1⟩
  go_wp2_with fail
  refine hK.out _ _ (hHeld.trans (hb_y1_1.mono hHeld.size)) (fun hHeld => ?_)
  clear hK K
  (try simp only [Act.put, List.setIfInBounds_toArray, List.set_cons_zero, List.set_cons_succ, Array.toArray_toList, List.getElem_toArray, List.getElem_cons_succ, List.getElem_cons_zero])
  (refine Sch.t_build hO rfl (by rfl) rfl (vs := #[(0, .agg (pC R)), (1, .agg (pC (vpP v)))]) (by simp [Act.eval]) (fun w => p2_build R (vpP v) w) ?_; (try simp only [Act.put, List.setIfInBounds_toArray, List.set_cons_zero, List.set_cons_succ, Array.toArray_toList, List.getElem_toArray, List.getElem_cons_succ, List.getElem_cons_zero]))
  refine Sch.t_done ?_
  replace HB := hide (HB.out.trans (hHeld.mono HB.out.size))
  replace Hb6 := hide (Hb6.out.below hHeld Hb6.out.lt)
  replace Hb7 := hide (Hb7.out.below hHeld Hb7.out.lt)
  replace Hb8 := hide (Hb8.out.below hHeld Hb8.out.lt)
  clear hHeld hO
  go_wp2_with fail
  go_loopw [31] (fun v31 wr => ∃ K : Nat, K ≤ 2 ∧ v31 = .int .i64 K ∧ Hid (Below w.heap.size w wr) ∧ Hid (NB wr (w.heap.size) #[.int .u64 n, .int .u64 t, .int .u64 g, .int .u64 f0, .int .u64 f1, .int .u64 f2, .int .u64 f3] 30)) (fun v31 _ => (2 - (intOf v31).toNat))
  case atStart => exact ⟨0, by omega, rfl, HB, Hb6⟩
  case round =>
    obtain ⟨K, hK, rfl, HB, Hb6⟩ := hrel
    rcases Nat.lt_or_ge K 2 with hk | hk
    · have hk0 : (K : Int) < 2 := by omega
      obtain ⟨X, hX, hix⟩ : ∃ X : Nat → Int, Hid (PW X) ∧ ∀ w, (Instr.index 36 (.agg (p2 R (vpP v))) (.int .i64 K)).run Try.prog w = .ok (.agg (pC X)) w :=
        sel2 (P := fun K => ∃ X : Nat → Int, Hid (PW X) ∧ ∀ w, (Instr.index 36 (.agg (p2 R (vpP v))) (.int .i64 (K : Nat))).run Try.prog w = .ok (.agg (pC X)) w) ⟨_, hR', (p2_index _ _).1⟩ ⟨_, hw', (p2_index _ _).2⟩ hk
      have HA1 := fun w => bgen_c X hX.out w
      have HA2 := fun w => rbgen_c X hX.out w
      obtain ⟨a0, ge_a0⟩ : ∃ u, geB X 1 = u := ⟨_, rfl⟩
      obtain ⟨a3, ge_a3⟩ : ∃ u, geB X (lim (feV 0 X) 0) = u := ⟨_, rfl⟩
      obtain ⟨a4, ge_a4⟩ : ∃ u, geB X (lim (feV 0 X) 1) = u := ⟨_, rfl⟩
      obtain ⟨a5, ge_a5⟩ : ∃ u, geB X (lim (feV 0 X) 2) = u := ⟨_, rfl⟩
      obtain ⟨a6, ge_a6⟩ : ∃ u, geB X (lim (feV 0 X) 3) = u := ⟨_, rfl⟩
      obtain ⟨ea, ge_ea⟩ : ∃ u, geE X = u := ⟨_, rfl⟩
      rw [ge_a0, ge_a3, ge_a4, ge_a5, ge_a6, ge_ea] at HA1 HA2
      replace HA1 := hide HA1
      replace HA2 := hide HA2
      clear ge_a0 ge_a3 ge_a4 ge_a5 ge_a6 ge_ea
      have HB1 := fun w => next_c n t g f0 f1 f2 f3 s b X hX.out n0 n1 t0 t1 s0 s1 bb0 bb1 w
      have HB2 := fun w => rnext_c n t g f0 f1 f2 f3 s b X hX.out n0 n1 t0 t1 s0 s1 bb0 bb1 w
      obtain ⟨b0, ge_b0⟩ : ∃ u, nxB n t s X (n + 1) = u := ⟨_, rfl⟩
      obtain ⟨b1, ge_b1⟩ : ∃ u, nxB n t s X (t + s) = u := ⟨_, rfl⟩
      obtain ⟨b3, ge_b3⟩ : ∃ u, nxB n t s X (lim (feV b X) 0) = u := ⟨_, rfl⟩
      obtain ⟨b4, ge_b4⟩ : ∃ u, nxB n t s X (lim (feV b X) 1) = u := ⟨_, rfl⟩
      obtain ⟨b5, ge_b5⟩ : ∃ u, nxB n t s X (lim (feV b X) 2) = u := ⟨_, rfl⟩
      obtain ⟨b6, ge_b6⟩ : ∃ u, nxB n t s X (lim (feV b X) 3) = u := ⟨_, rfl⟩
      obtain ⟨eb, ge_eb⟩ : ∃ u, nxE n t s X = u := ⟨_, rfl⟩
      rw [ge_b0, ge_b1, ge_b3, ge_b4, ge_b5, ge_b6, ge_eb] at HB1 HB2
      replace HB1 := hide HB1
      replace HB2 := hide HB2
      clear ge_b0 ge_b1 ge_b3 ge_b4 ge_b5 ge_b6 ge_eb
      have HC1 := fun w => next_c n t g f0 f1 f2 f3 s2 b2 X hX.out n0 n1 t0 t1 ps2 qs2 m2 k2 w
      have HC2 := fun w => rnext_c n t g f0 f1 f2 f3 s2 b2 X hX.out n0 n1 t0 t1 ps2 qs2 m2 k2 w
      obtain ⟨c0, ge_c0⟩ : ∃ u, nxB n t s2 X (n + 1) = u := ⟨_, rfl⟩
      obtain ⟨c1, ge_c1⟩ : ∃ u, nxB n t s2 X (t + s2) = u := ⟨_, rfl⟩
      obtain ⟨c3, ge_c3⟩ : ∃ u, nxB n t s2 X (lim (feV b2 X) 0) = u := ⟨_, rfl⟩
      obtain ⟨c4, ge_c4⟩ : ∃ u, nxB n t s2 X (lim (feV b2 X) 1) = u := ⟨_, rfl⟩
      obtain ⟨c5, ge_c5⟩ : ∃ u, nxB n t s2 X (lim (feV b2 X) 2) = u := ⟨_, rfl⟩
      obtain ⟨c6, ge_c6⟩ : ∃ u, nxB n t s2 X (lim (feV b2 X) 3) = u := ⟨_, rfl⟩
      obtain ⟨ec, ge_ec⟩ : ∃ u, nxE n t s2 X = u := ⟨_, rfl⟩
      rw [ge_c0, ge_c1, ge_c3, ge_c4, ge_c5, ge_c6, ge_ec] at HC1 HC2
      replace HC1 := hide HC1
      replace HC2 := hide HC2
      clear ge_c0 ge_c1 ge_c3 ge_c4 ge_c5 ge_c6 ge_ec
      have HGas := hide (fun w => gas_c n t g f0 f1 f2 f3 x X hX.out g0 g1 x0 x1 w)
      have hqa := eqB_law a0 0 0 a3 a4 a5 a6
      have hqb := eqB_law b0 b1 0 b3 b4 b5 b6
      have hqc := eqB_law c0 c1 0 c3 c4 c5 c6
      go_wp2_with (first | (refine n_alloc (by rfl) (T := 27) rfl jf_z4 (ds := pC fun _ => 0) rfl ?_; intro w4 Hb14 hbn; have hsz_wr := HB.out.size; have lt_b6_b14 := Hb6.out.lt; replace HB := hide (HB.out.trans (hbn.mono HB.out.size)); replace Hb6 := hide (Hb6.out.below hbn Hb6.out.lt); clear hbn; replace Hb14 := hide Hb14) | (refine n_storew (by rfl) (T := 27) (x := (.tmp 14)) (y := (.tmp 33)) rfl (g := wr.heap.size) rfl (vs := pC X) rfl (by first | exact pC_one _ | (simp [Value.oneCell']; done)) Hb14.out rfl jf_s1 ?_; clear Hb14; intro w5 Hb14 hun; replace Hb14 := hide Hb14; replace HB := hide (hun.keep w.heap.size w (by omega) HB.out); replace Hb6 := hide (Hb6.out.upd hun (by omega)); clear hun) | (refine n_loadw (by rfl) (T := 27) (x := (.tmp 14)) rfl (g := wr.heap.size) rfl Hb14.out Try.underlying27 rfl jf_s1 ?_))
      refine (HA1.out _).mono ?_
      rintro e w6 ⟨rfl, hbc⟩
      replace HB := hide (HB.out.trans (hbc.mono HB.out.size))
      replace Hb6 := hide (Hb6.out.below hbc Hb6.out.lt)
      replace Hb14 := hide (Hb14.out.below hbc Hb14.out.lt)
      clear hbc
      go_wp2_with (first | (refine n_alloc (by rfl) (T := 30) rfl jf_z2 (ds := #[.int .u64 0, .int .u64 0, .int .u64 0, .int .u64 0, .int .u64 0, .int .u64 0, .int .u64 0]) rfl ?_; intro w7 Hb15 hbn; have hsz_w6 := HB.out.size; have lt_b6_b15 := Hb6.out.lt; have lt_b14_b15 := Hb14.out.lt; replace HB := hide (HB.out.trans (hbn.mono HB.out.size)); replace Hb6 := hide (Hb6.out.below hbn Hb6.out.lt); replace Hb14 := hide (Hb14.out.below hbn Hb14.out.lt); clear hbn; replace Hb15 := hide Hb15) | (refine n_storew (by rfl) (T := 30) (x := (.tmp 15)) (y := (.tmp 37)) rfl (g := w6.heap.size) rfl (vs := #[.int .u64 a0, .int .u64 0, .int .u64 0, .int .u64 a3, .int .u64 a4, .int .u64 a5, .int .u64 a6]) rfl (by first | exact pC_one _ | (simp [Value.oneCell']; done)) Hb15.out rfl jf_s0 ?_; clear Hb15; intro w8 Hb15 hun; replace Hb15 := hide Hb15; replace HB := hide (hun.keep w.heap.size w (by omega) HB.out); replace Hb6 := hide (Hb6.out.upd hun (by omega)); replace Hb14 := hide (Hb14.out.upd hun (by omega)); clear hun) | (refine n_loadw (by rfl) (T := 27) (x := (.tmp 14)) rfl (g := wr.heap.size) rfl Hb14.out Try.underlying27 rfl jf_s1 ?_))
      refine (HA2.out _).mono ?_
      rintro e w9 ⟨rfl, hbc⟩
      replace HB := hide (HB.out.trans (hbc.mono HB.out.size))
      replace Hb6 := hide (Hb6.out.below hbc Hb6.out.lt)
      replace Hb14 := hide (Hb14.out.below hbc Hb14.out.lt)
      replace Hb15 := hide (Hb15.out.below hbc Hb15.out.lt)
      clear hbc
      go_wp2_with (first | (refine n_alloc (by rfl) (T := 30) rfl jf_z2 (ds := #[.int .u64 0, .int .u64 0, .int .u64 0, .int .u64 0, .int .u64 0, .int .u64 0, .int .u64 0]) rfl ?_; intro w10 Hb17 hbn; have hsz_w9 := HB.out.size; have lt_b6_b17 := Hb6.out.lt; have lt_b14_b17 := Hb14.out.lt; have lt_b15_b17 := Hb15.out.lt; replace HB := hide (HB.out.trans (hbn.mono HB.out.size)); replace Hb6 := hide (Hb6.out.below hbn Hb6.out.lt); replace Hb14 := hide (Hb14.out.below hbn Hb14.out.lt); replace Hb15 := hide (Hb15.out.below hbn Hb15.out.lt); clear hbn; replace Hb17 := hide Hb17) | (refine n_storew (by rfl) (T := 30) (x := (.tmp 17)) (y := (.tmp 42)) rfl (g := w9.heap.size) rfl (vs := #[.int .u64 a0, .int .u64 0, .int .u64 0, .int .u64 a3, .int .u64 a4, .int .u64 a5, .int .u64 a6]) rfl (by first | exact pC_one _ | (simp [Value.oneCell']; done)) Hb17.out rfl jf_s0 ?_; clear Hb17; intro w11 Hb17 hun; replace Hb17 := hide Hb17; replace HB := hide (hun.keep w.heap.size w (by omega) HB.out); replace Hb6 := hide (Hb6.out.upd hun (by omega)); replace Hb14 := hide (Hb14.out.upd hun (by omega)); replace Hb15 := hide (Hb15.out.upd hun (by omega)); clear hun) | (refine n_loadw (by rfl) (T := 30) (x := (.tmp 6)) rfl (g := w.heap.size) rfl Hb6.out Try.underlying30 rfl jf_s0 ?_) | (refine n_loadw (by rfl) (T := 27) (x := (.tmp 14)) rfl (g := wr.heap.size) rfl Hb14.out Try.underlying27 rfl jf_s1 ?_))
      refine (HB1.out _).mono ?_
      rintro e w12 ⟨rfl, hbc⟩
      replace HB := hide (HB.out.trans (hbc.mono HB.out.size))
      replace Hb6 := hide (Hb6.out.below hbc Hb6.out.lt)
      replace Hb14 := hide (Hb14.out.below hbc Hb14.out.lt)
      replace Hb15 := hide (Hb15.out.below hbc Hb15.out.lt)
      replace Hb17 := hide (Hb17.out.below hbc Hb17.out.lt)
      clear hbc
      go_wp2_with (first | (refine n_alloc (by rfl) (T := 30) rfl jf_z2 (ds := #[.int .u64 0, .int .u64 0, .int .u64 0, .int .u64 0, .int .u64 0, .int .u64 0, .int .u64 0]) rfl ?_; intro w13 Hb19 hbn; have hsz_w12 := HB.out.size; have lt_b6_b19 := Hb6.out.lt; have lt_b14_b19 := Hb14.out.lt; have lt_b15_b19 := Hb15.out.lt; have lt_b17_b19 := Hb17.out.lt; replace HB := hide (HB.out.trans (hbn.mono HB.out.size)); replace Hb6 := hide (Hb6.out.below hbn Hb6.out.lt); replace Hb14 := hide (Hb14.out.below hbn Hb14.out.lt); replace Hb15 := hide (Hb15.out.below hbn Hb15.out.lt); replace Hb17 := hide (Hb17.out.below hbn Hb17.out.lt); clear hbn; replace Hb19 := hide Hb19) | (refine n_storew (by rfl) (T := 30) (x := (.tmp 19)) (y := (.tmp 50)) rfl (g := w12.heap.size) rfl (vs := #[.int .u64 b0, .int .u64 b1, .int .u64 0, .int .u64 b3, .int .u64 b4, .int .u64 b5, .int .u64 b6]) rfl (by first | exact pC_one _ | (simp [Value.oneCell']; done)) Hb19.out rfl jf_s0 ?_; clear Hb19; intro w14 Hb19 hun; replace Hb19 := hide Hb19; replace HB := hide (hun.keep w.heap.size w (by omega) HB.out); replace Hb6 := hide (Hb6.out.upd hun (by omega)); replace Hb14 := hide (Hb14.out.upd hun (by omega)); replace Hb15 := hide (Hb15.out.upd hun (by omega)); replace Hb17 := hide (Hb17.out.upd hun (by omega)); clear hun) | (refine n_loadw (by rfl) (T := 30) (x := (.tmp 6)) rfl (g := w.heap.size) rfl Hb6.out Try.underlying30 rfl jf_s0 ?_) | (refine n_loadw (by rfl) (T := 27) (x := (.tmp 14)) rfl (g := wr.heap.size) rfl Hb14.out Try.underlying27 rfl jf_s1 ?_))
      refine (HB2.out _).mono ?_
      rintro e w15 ⟨rfl, hbc⟩
      replace HB := hide (HB.out.trans (hbc.mono HB.out.size))
      replace Hb6 := hide (Hb6.out.below hbc Hb6.out.lt)
      replace Hb14 := hide (Hb14.out.below hbc Hb14.out.lt)
      replace Hb15 := hide (Hb15.out.below hbc Hb15.out.lt)
      replace Hb17 := hide (Hb17.out.below hbc Hb17.out.lt)
      replace Hb19 := hide (Hb19.out.below hbc Hb19.out.lt)
      clear hbc
      go_wp2_with (first | (refine n_alloc (by rfl) (T := 30) rfl jf_z2 (ds := #[.int .u64 0, .int .u64 0, .int .u64 0, .int .u64 0, .int .u64 0, .int .u64 0, .int .u64 0]) rfl ?_; intro w16 Hb21 hbn; have hsz_w15 := HB.out.size; have lt_b6_b21 := Hb6.out.lt; have lt_b14_b21 := Hb14.out.lt; have lt_b15_b21 := Hb15.out.lt; have lt_b17_b21 := Hb17.out.lt; have lt_b19_b21 := Hb19.out.lt; replace HB := hide (HB.out.trans (hbn.mono HB.out.size)); replace Hb6 := hide (Hb6.out.below hbn Hb6.out.lt); replace Hb14 := hide (Hb14.out.below hbn Hb14.out.lt); replace Hb15 := hide (Hb15.out.below hbn Hb15.out.lt); replace Hb17 := hide (Hb17.out.below hbn Hb17.out.lt); replace Hb19 := hide (Hb19.out.below hbn Hb19.out.lt); clear hbn; replace Hb21 := hide Hb21) | (refine n_storew (by rfl) (T := 30) (x := (.tmp 21)) (y := (.tmp 58)) rfl (g := w15.heap.size) rfl (vs := #[.int .u64 b0, .int .u64 b1, .int .u64 0, .int .u64 b3, .int .u64 b4, .int .u64 b5, .int .u64 b6]) rfl (by first | exact pC_one _ | (simp [Value.oneCell']; done)) Hb21.out rfl jf_s0 ?_; clear Hb21; intro w17 Hb21 hun; replace Hb21 := hide Hb21; replace HB := hide (hun.keep w.heap.size w (by omega) HB.out); replace Hb6 := hide (Hb6.out.upd hun (by omega)); replace Hb14 := hide (Hb14.out.upd hun (by omega)); replace Hb15 := hide (Hb15.out.upd hun (by omega)); replace Hb17 := hide (Hb17.out.upd hun (by omega)); replace Hb19 := hide (Hb19.out.upd hun (by omega)); clear hun) | (refine n_loadw (by rfl) (T := 30) (x := (.tmp 6)) rfl (g := w.heap.size) rfl Hb6.out Try.underlying30 rfl jf_s0 ?_) | (refine n_loadw (by rfl) (T := 27) (x := (.tmp 14)) rfl (g := wr.heap.size) rfl Hb14.out Try.underlying27 rfl jf_s1 ?_))
      refine (HC1.out _).mono ?_
      rintro e w18 ⟨rfl, hbc⟩
      replace HB := hide (HB.out.trans (hbc.mono HB.out.size))
      replace Hb6 := hide (Hb6.out.below hbc Hb6.out.lt)
      replace Hb14 := hide (Hb14.out.below hbc Hb14.out.lt)
      replace Hb15 := hide (Hb15.out.below hbc Hb15.out.lt)
      replace Hb17 := hide (Hb17.out.below hbc Hb17.out.lt)
      replace Hb19 := hide (Hb19.out.below hbc Hb19.out.lt)
      replace Hb21 := hide (Hb21.out.below hbc Hb21.out.lt)
      clear hbc
      go_wp2_with (first | (refine n_alloc (by rfl) (T := 30) rfl jf_z2 (ds := #[.int .u64 0, .int .u64 0, .int .u64 0, .int .u64 0, .int .u64 0, .int .u64 0, .int .u64 0]) rfl ?_; intro w19 Hb23 hbn; have hsz_w18 := HB.out.size; have lt_b6_b23 := Hb6.out.lt; have lt_b14_b23 := Hb14.out.lt; have lt_b15_b23 := Hb15.out.lt; have lt_b17_b23 := Hb17.out.lt; have lt_b19_b23 := Hb19.out.lt; have lt_b21_b23 := Hb21.out.lt; replace HB := hide (HB.out.trans (hbn.mono HB.out.size)); replace Hb6 := hide (Hb6.out.below hbn Hb6.out.lt); replace Hb14 := hide (Hb14.out.below hbn Hb14.out.lt); replace Hb15 := hide (Hb15.out.below hbn Hb15.out.lt); replace Hb17 := hide (Hb17.out.below hbn Hb17.out.lt); replace Hb19 := hide (Hb19.out.below hbn Hb19.out.lt); replace Hb21 := hide (Hb21.out.below hbn Hb21.out.lt); clear hbn; replace Hb23 := hide Hb23) | (refine n_storew (by rfl) (T := 30) (x := (.tmp 23)) (y := (.tmp 69)) rfl (g := w18.heap.size) rfl (vs := #[.int .u64 c0, .int .u64 c1, .int .u64 0, .int .u64 c3, .int .u64 c4, .int .u64 c5, .int .u64 c6]) rfl (by first | exact pC_one _ | (simp [Value.oneCell']; done)) Hb23.out rfl jf_s0 ?_; clear Hb23; intro w20 Hb23 hun; replace Hb23 := hide Hb23; replace HB := hide (hun.keep w.heap.size w (by omega) HB.out); replace Hb6 := hide (Hb6.out.upd hun (by omega)); replace Hb14 := hide (Hb14.out.upd hun (by omega)); replace Hb15 := hide (Hb15.out.upd hun (by omega)); replace Hb17 := hide (Hb17.out.upd hun (by omega)); replace Hb19 := hide (Hb19.out.upd hun (by omega)); replace Hb21 := hide (Hb21.out.upd hun (by omega)); clear hun) | (refine n_loadw (by rfl) (T := 30) (x := (.tmp 6)) rfl (g := w.heap.size) rfl Hb6.out Try.underlying30 rfl jf_s0 ?_) | (refine n_loadw (by rfl) (T := 27) (x := (.tmp 14)) rfl (g := wr.heap.size) rfl Hb14.out Try.underlying27 rfl jf_s1 ?_))
      refine (HC2.out _).mono ?_
      rintro e w21 ⟨rfl, hbc⟩
      replace HB := hide (HB.out.trans (hbc.mono HB.out.size))
      replace Hb6 := hide (Hb6.out.below hbc Hb6.out.lt)
      replace Hb14 := hide (Hb14.out.below hbc Hb14.out.lt)
      replace Hb15 := hide (Hb15.out.below hbc Hb15.out.lt)
      replace Hb17 := hide (Hb17.out.below hbc Hb17.out.lt)
      replace Hb19 := hide (Hb19.out.below hbc Hb19.out.lt)
      replace Hb21 := hide (Hb21.out.below hbc Hb21.out.lt)
      replace Hb23 := hide (Hb23.out.below hbc Hb23.out.lt)
      clear hbc
      go_wp2_with (first | (refine n_alloc (by rfl) (T := 30) rfl jf_z2 (ds := #[.int .u64 0, .int .u64 0, .int .u64 0, .int .u64 0, .int .u64 0, .int .u64 0, .int .u64 0]) rfl ?_; intro w22 Hb25 hbn; have hsz_w21 := HB.out.size; have lt_b6_b25 := Hb6.out.lt; have lt_b14_b25 := Hb14.out.lt; have lt_b15_b25 := Hb15.out.lt; have lt_b17_b25 := Hb17.out.lt; have lt_b19_b25 := Hb19.out.lt; have lt_b21_b25 := Hb21.out.lt; have lt_b23_b25 := Hb23.out.lt; replace HB := hide (HB.out.trans (hbn.mono HB.out.size)); replace Hb6 := hide (Hb6.out.below hbn Hb6.out.lt); replace Hb14 := hide (Hb14.out.below hbn Hb14.out.lt); replace Hb15 := hide (Hb15.out.below hbn Hb15.out.lt); replace Hb17 := hide (Hb17.out.below hbn Hb17.out.lt); replace Hb19 := hide (Hb19.out.below hbn Hb19.out.lt); replace Hb21 := hide (Hb21.out.below hbn Hb21.out.lt); replace Hb23 := hide (Hb23.out.below hbn Hb23.out.lt); clear hbn; replace Hb25 := hide Hb25) | (refine n_storew (by rfl) (T := 30) (x := (.tmp 25)) (y := (.tmp 80)) rfl (g := w21.heap.size) rfl (vs := #[.int .u64 c0, .int .u64 c1, .int .u64 0, .int .u64 c3, .int .u64 c4, .int .u64 c5, .int .u64 c6]) rfl (by first | exact pC_one _ | (simp [Value.oneCell']; done)) Hb25.out rfl jf_s0 ?_; clear Hb25; intro w23 Hb25 hun; replace Hb25 := hide Hb25; replace HB := hide (hun.keep w.heap.size w (by omega) HB.out); replace Hb6 := hide (Hb6.out.upd hun (by omega)); replace Hb14 := hide (Hb14.out.upd hun (by omega)); replace Hb15 := hide (Hb15.out.upd hun (by omega)); replace Hb17 := hide (Hb17.out.upd hun (by omega)); replace Hb19 := hide (Hb19.out.upd hun (by omega)); replace Hb21 := hide (Hb21.out.upd hun (by omega)); replace Hb23 := hide (Hb23.out.upd hun (by omega)); clear hun) | (refine n_loadw (by rfl) (T := 30) (x := (.tmp 15)) rfl (g := w6.heap.size) rfl Hb15.out Try.underlying30 rfl jf_s0 ?_) | (refine n_loadw (by rfl) (T := 30) (x := (.tmp 17)) rfl (g := w9.heap.size) rfl Hb17.out Try.underlying30 rfl jf_s0 ?_) | (refine n_loadw (by rfl) (T := 30) (x := (.tmp 19)) rfl (g := w12.heap.size) rfl Hb19.out Try.underlying30 rfl jf_s0 ?_) | (refine n_loadw (by rfl) (T := 30) (x := (.tmp 21)) rfl (g := w15.heap.size) rfl Hb21.out Try.underlying30 rfl jf_s0 ?_) | (refine n_loadw (by rfl) (T := 30) (x := (.tmp 23)) rfl (g := w18.heap.size) rfl Hb23.out Try.underlying30 rfl jf_s0 ?_) | (refine n_loadw (by rfl) (T := 30) (x := (.tmp 25)) rfl (g := w21.heap.size) rfl Hb25.out Try.underlying30 rfl jf_s0 ?_) | (refine n_loadw (by rfl) (T := 30) (x := (.tmp 6)) rfl (g := w.heap.size) rfl Hb6.out Try.underlying30 rfl jf_s0 ?_) | (refine n_loadw (by rfl) (T := 27) (x := (.tmp 14)) rfl (g := wr.heap.size) rfl Hb14.out Try.underlying27 rfl jf_s1 ?_))
      refine (HGas.out _).mono ?_
      rintro e w24 ⟨rfl, hbc⟩
      replace HB := hide (HB.out.trans (hbc.mono HB.out.size))
      replace Hb6 := hide (Hb6.out.below hbc Hb6.out.lt)
      replace Hb14 := hide (Hb14.out.below hbc Hb14.out.lt)
      replace Hb15 := hide (Hb15.out.below hbc Hb15.out.lt)
      replace Hb17 := hide (Hb17.out.below hbc Hb17.out.lt)
      replace Hb19 := hide (Hb19.out.below hbc Hb19.out.lt)
      replace Hb21 := hide (Hb21.out.below hbc Hb21.out.lt)
      replace Hb23 := hide (Hb23.out.below hbc Hb23.out.lt)
      replace Hb25 := hide (Hb25.out.below hbc Hb25.out.lt)
      clear hbc
      go_wp2_with fail
      go_roundw
      case rel => exact ⟨K + 1, by omega, by go_num, HB, Hb6⟩
      case measure => simp [intOf]; omega
    · obtain rfl : K = 2 := by omega
      go_wp2_with fail
      refine (awake15_c _).mono ?_
      rintro e w4 ⟨rfl, hbc⟩
      replace HB := hide (HB.out.trans (hbc.mono HB.out.size))
      replace Hb6 := hide (Hb6.out.below hbc Hb6.out.lt)
      clear hbc
      go_wp2_with fail
      go_ret
      exact ⟨rfl, HB.out⟩
def p21f (p0 p1 p2 p3 p4 p5 p6 p7 p8 p9 p10 p11 p12 p13 p14 p15 p16 p17 p18 p19 p20 : Int) : Nat → Int
  | 0 => p0 | 1 => p1 | 2 => p2 | 3 => p3 | 4 => p4 | 5 => p5 | 6 => p6 | 7 => p7 | 8 => p8 | 9 => p9 | 10 => p10 | 11 => p11 | 12 => p12 | 13 => p13 | 14 => p14 | 15 => p15 | 16 => p16 | 17 => p17 | 18 => p18 | 19 => p19 | 20 => p20 | _ => 0
theorem p21f_w {p0 p1 p2 p3 p4 p5 p6 p7 p8 p9 p10 p11 p12 p13 p14 p15 p16 p17 p18 p19 p20 : Int} (w1_0 : (Lit.int .u64 p0).wf = true) (w1_1 : (Lit.int .u64 p1).wf = true) (w1_2 : (Lit.int .u64 p2).wf = true) (w1_3 : (Lit.int .u64 p3).wf = true) (w1_4 : (Lit.int .u64 p4).wf = true) (w1_5 : (Lit.int .u64 p5).wf = true) (w1_6 : (Lit.int .u64 p6).wf = true) (w1_7 : (Lit.int .u64 p7).wf = true) (w1_8 : (Lit.int .u64 p8).wf = true) (w1_9 : (Lit.int .u64 p9).wf = true) (w1_10 : (Lit.int .u64 p10).wf = true) (w1_11 : (Lit.int .u64 p11).wf = true) (w1_12 : (Lit.int .u64 p12).wf = true) (w1_13 : (Lit.int .u64 p13).wf = true) (w1_14 : (Lit.int .u64 p14).wf = true) (w1_15 : (Lit.int .u64 p15).wf = true) (w1_16 : (Lit.int .u64 p16).wf = true) (w1_17 : (Lit.int .u64 p17).wf = true) (w1_18 : (Lit.int .u64 p18).wf = true) (w1_19 : (Lit.int .u64 p19).wf = true) (w1_20 : (Lit.int .u64 p20).wf = true) : PW (p21f p0 p1 p2 p3 p4 p5 p6 p7 p8 p9 p10 p11 p12 p13 p14 p15 p16 p17 p18 p19 p20) := by
  intro j
  unfold p21f
  split
  · have := bounds_u64 w1_0; omega
  · have := bounds_u64 w1_1; omega
  · have := bounds_u64 w1_2; omega
  · have := bounds_u64 w1_3; omega
  · have := bounds_u64 w1_4; omega
  · have := bounds_u64 w1_5; omega
  · have := bounds_u64 w1_6; omega
  · have := bounds_u64 w1_7; omega
  · have := bounds_u64 w1_8; omega
  · have := bounds_u64 w1_9; omega
  · have := bounds_u64 w1_10; omega
  · have := bounds_u64 w1_11; omega
  · have := bounds_u64 w1_12; omega
  · have := bounds_u64 w1_13; omega
  · have := bounds_u64 w1_14; omega
  · have := bounds_u64 w1_15; omega
  · have := bounds_u64 w1_16; omega
  · have := bounds_u64 w1_17; omega
  · have := bounds_u64 w1_18; omega
  · have := bounds_u64 w1_19; omega
  · have := bounds_u64 w1_20; omega
  · omega
def v8f (q0 q1 q2 q3 q4 q5 q6 q7 : Int) : Nat → Int
  | 0 => q0 | 1 => q1 | 2 => q2 | 3 => q3 | 4 => q4 | 5 => q5 | 6 => q6 | 7 => q7 | _ => 0
theorem v8f_w {q0 q1 q2 q3 q4 q5 q6 q7 : Int} (w2_0 : (Lit.int .u64 q0).wf = true) (w2_1 : (Lit.int .u64 q1).wf = true) (w2_2 : (Lit.int .u64 q2).wf = true) (w2_3 : (Lit.int .u64 q3).wf = true) (w2_4 : (Lit.int .u64 q4).wf = true) (w2_5 : (Lit.int .u64 q5).wf = true) (w2_6 : (Lit.int .u64 q6).wf = true) (w2_7 : (Lit.int .u64 q7).wf = true) : ∀ j, 0 ≤ v8f q0 q1 q2 q3 q4 q5 q6 q7 j ∧ v8f q0 q1 q2 q3 q4 q5 q6 q7 j < 18446744073709551616 := by
  intro j
  unfold v8f
  split
  · have := bounds_u64 w2_0; omega
  · have := bounds_u64 w2_1; omega
  · have := bounds_u64 w2_2; omega
  · have := bounds_u64 w2_3; omega
  · have := bounds_u64 w2_4; omega
  · have := bounds_u64 w2_5; omega
  · have := bounds_u64 w2_6; omega
  · have := bounds_u64 w2_7; omega
  · omega
theorem BlockReference_walk (n t g f0 f1 f2 f3 p0 p1 p2 p3 p4 p5 p6 p7 p8 p9 p10 p11 p12 p13 p14 p15 p16 p17 p18 p19 p20 q0 q1 q2 q3 q4 q5 q6 q7 s b x : Int) (w0_0 : (Lit.int .u64 n).wf = true) (w0_1 : (Lit.int .u64 t).wf = true) (w0_2 : (Lit.int .u64 g).wf = true) (w0_3 : (Lit.int .u64 f0).wf = true) (w0_4 : (Lit.int .u64 f1).wf = true) (w0_5 : (Lit.int .u64 f2).wf = true) (w0_6 : (Lit.int .u64 f3).wf = true) (w1_0 : (Lit.int .u64 p0).wf = true) (w1_1 : (Lit.int .u64 p1).wf = true) (w1_2 : (Lit.int .u64 p2).wf = true) (w1_3 : (Lit.int .u64 p3).wf = true) (w1_4 : (Lit.int .u64 p4).wf = true) (w1_5 : (Lit.int .u64 p5).wf = true) (w1_6 : (Lit.int .u64 p6).wf = true) (w1_7 : (Lit.int .u64 p7).wf = true) (w1_8 : (Lit.int .u64 p8).wf = true) (w1_9 : (Lit.int .u64 p9).wf = true) (w1_10 : (Lit.int .u64 p10).wf = true) (w1_11 : (Lit.int .u64 p11).wf = true) (w1_12 : (Lit.int .u64 p12).wf = true) (w1_13 : (Lit.int .u64 p13).wf = true) (w1_14 : (Lit.int .u64 p14).wf = true) (w1_15 : (Lit.int .u64 p15).wf = true) (w1_16 : (Lit.int .u64 p16).wf = true) (w1_17 : (Lit.int .u64 p17).wf = true) (w1_18 : (Lit.int .u64 p18).wf = true) (w1_19 : (Lit.int .u64 p19).wf = true) (w1_20 : (Lit.int .u64 p20).wf = true) (w2_0 : (Lit.int .u64 q0).wf = true) (w2_1 : (Lit.int .u64 q1).wf = true) (w2_2 : (Lit.int .u64 q2).wf = true) (w2_3 : (Lit.int .u64 q3).wf = true) (w2_4 : (Lit.int .u64 q4).wf = true) (w2_5 : (Lit.int .u64 q5).wf = true) (w2_6 : (Lit.int .u64 q6).wf = true) (w2_7 : (Lit.int .u64 q7).wf = true) (w3 : (Lit.int .u64 s).wf = true) (w4 : (Lit.int .u64 b).wf = true) (w5 : (Lit.int .u64 x).wf = true) (w : World) :
    Calls Try.prog 4 #[.agg #[.int .u64 n, .int .u64 t, .int .u64 g, .int .u64 f0, .int .u64 f1, .int .u64 f2, .int .u64 f3], .agg #[.int .u64 p0, .int .u64 p1, .int .u64 p2, .int .u64 p3, .int .u64 p4, .int .u64 p5, .int .u64 p6, .int .u64 p7, .int .u64 p8, .int .u64 p9, .int .u64 p10, .int .u64 p11, .int .u64 p12, .int .u64 p13, .int .u64 p14, .int .u64 p15, .int .u64 p16, .int .u64 p17, .int .u64 p18, .int .u64 p19, .int .u64 p20], .agg #[.int .u64 q0, .int .u64 q1, .int .u64 q2, .int .u64 q3, .int .u64 q4, .int .u64 q5, .int .u64 q6, .int .u64 q7], .int .u64 s, .int .u64 b, .int .u64 x] w fun e w' => e = .returned (.bool true) ∧ Below w.heap.size w w' := by
  have b0 := bounds_u64 w0_0; have b1 := bounds_u64 w0_1; have b2 := bounds_u64 w0_2; have b3 := bounds_u64 w3; have b4 := bounds_u64 w4; have b5 := bounds_u64 w5
  exact BReference_in n t g f0 f1 f2 f3 (by omega) (by omega) (by omega) (by omega) (by omega) (by omega) (p21f p0 p1 p2 p3 p4 p5 p6 p7 p8 p9 p10 p11 p12 p13 p14 p15 p16 p17 p18 p19 p20) (p21f_w w1_0 w1_1 w1_2 w1_3 w1_4 w1_5 w1_6 w1_7 w1_8 w1_9 w1_10 w1_11 w1_12 w1_13 w1_14 w1_15 w1_16 w1_17 w1_18 w1_19 w1_20) (v8f q0 q1 q2 q3 q4 q5 q6 q7) (v8f_w w2_0 w2_1 w2_2 w2_3 w2_4 w2_5 w2_6 w2_7) s b x (by omega) (by omega) (by omega) (by omega) (by omega) (by omega) w
end Go.Proofs.Ytkneiobohhhcpaa
