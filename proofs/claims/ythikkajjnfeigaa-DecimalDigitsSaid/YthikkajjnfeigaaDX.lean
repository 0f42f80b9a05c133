/- chapter 4: DecimalOrder, walked. -/
import Derived.WalkKit
import Derived.KernelRfl
import Derived.RowKit3
import Derived.Deep.LoopGhost
import Derived.Deep.QuietTactic
import Derived.BigQuiet
import Derived.WideLaws
import Derived.Laws.Rows
import Derived.Below
import Derived.Deep.Draws
import Derived.Outline
import Derived.LoopN
import Derived.Handy
import Derived.Laws.Externs
import Derived.Laws.BitsAllLaws
import Derived.Laws.BitsLemmas
import Derived.Deep.DeepCutAuto
import Derived.Deep.CutBlock
import Derived.Deep.RegionHeld3
import Derived.Test.YthikkajjnfeigaaDW
namespace Go.Proofs.Ythikkajjnfeigaa
open Go.RowKit
set_option linter.unusedVariables false
set_option linter.unusedSimpArgs false
theorem dx_s0 : (Try.prog.info? 24).map (·.size) = some 4 := by kernel_rfl
theorem dx_z1 : (Try.prog.info? 42).map (fun i => (i.zero, i.size)) = some (some (.agg #[.int .u64 0, .int .u64 0, .int .u64 0, .int .u64 0, .int .u64 0, .int .u64 0, .int .u64 0, .int .u64 0]), 8) := by kernel_rfl
theorem dx_s2 : (Try.prog.info? 42).map (·.size) = some 8 := by kernel_rfl
theorem i2_law (x0 x1 x2 x3 y0 y1 y2 y3 u0 u1 u2 u3 z0 z1 z2 z3 : Int) : (∀ w, (Instr.index 43 (.agg #[.int .u64 x0, .int .u64 x1, .int .u64 x2, .int .u64 x3, .int .u64 y0, .int .u64 y1, .int .u64 y2, .int .u64 y3, .int .u64 u0, .int .u64 u1, .int .u64 u2, .int .u64 u3, .int .u64 z0, .int .u64 z1, .int .u64 z2, .int .u64 z3]) (.int .i64 (0 : Nat))).run Try.prog w = .ok (.agg #[.int .u64 x0, .int .u64 x1, .int .u64 x2, .int .u64 x3, .int .u64 y0, .int .u64 y1, .int .u64 y2, .int .u64 y3]) w) ∧ (∀ w, (Instr.index 43 (.agg #[.int .u64 x0, .int .u64 x1, .int .u64 x2, .int .u64 x3, .int .u64 y0, .int .u64 y1, .int .u64 y2, .int .u64 y3, .int .u64 u0, .int .u64 u1, .int .u64 u2, .int .u64 u3, .int .u64 z0, .int .u64 z1, .int .u64 z2, .int .u64 z3]) (.int .i64 (1 : Nat))).run Try.prog w = .ok (.agg #[.int .u64 u0, .int .u64 u1, .int .u64 u2, .int .u64 u3, .int .u64 z0, .int .u64 z1, .int .u64 z2, .int .u64 z3]) w) := by
  refine ⟨?_, ?_⟩ <;> intro w <;> kernel_rfl
theorem lim_test {A B : Nat} (hA : A < M256) (hB : B < M256) : (lim A 0 == lim B 0 && (lim A 1 == lim B 1 && (lim A 2 == lim B 2 && lim A 3 == lim B 3))) = decide (A = B) := by
  obtain ⟨p0, p1, p2, p3, q0, q1, q2, q3, v⟩ := isU_lim hA
  obtain ⟨r0, r1, r2, r3, s0, s1, s2, s3, u⟩ := isU_lim hB
  rw [Bool.eq_iff_iff]
  simp only [Bool.and_eq_true, beq_iff_eq, decide_eq_true_eq]
  omega
theorem ord_ways {X Y : Nat} (hX : X < 10 ^ nf) (hY : Y < 10 ^ nf) :
    ((X = Y) = False ∧ cmpV X Y = -1 ∧ (((⟨(decL X).toArray⟩ : ByteArray).size : Int) < (⟨(decL Y).toArray⟩ : ByteArray).size) ∧ ((⟨(decL X).toArray⟩ : ByteArray).toList == (⟨(decL Y).toArray⟩ : ByteArray).toList) = false) ∨
    ((X = Y) = False ∧ cmpV X Y = -1 ∧ ¬ (((⟨(decL X).toArray⟩ : ByteArray).size : Int) < (⟨(decL Y).toArray⟩ : ByteArray).size) ∧ (⟨(decL X).toArray⟩ : ByteArray).size = (⟨(decL Y).toArray⟩ : ByteArray).size ∧ Go.Op.bytesLess (⟨(decL X).toArray⟩ : ByteArray).toList (⟨(decL Y).toArray⟩ : ByteArray).toList = true ∧ ((⟨(decL X).toArray⟩ : ByteArray).toList == (⟨(decL Y).toArray⟩ : ByteArray).toList) = false) ∨
    ((X = Y) = True ∧ cmpV X Y = 0 ∧ ¬ (((⟨(decL X).toArray⟩ : ByteArray).size : Int) < (⟨(decL Y).toArray⟩ : ByteArray).size) ∧ (⟨(decL X).toArray⟩ : ByteArray).size = (⟨(decL Y).toArray⟩ : ByteArray).size ∧ Go.Op.bytesLess (⟨(decL X).toArray⟩ : ByteArray).toList (⟨(decL Y).toArray⟩ : ByteArray).toList = false ∧ ((⟨(decL X).toArray⟩ : ByteArray).toList == (⟨(decL Y).toArray⟩ : ByteArray).toList) = true) ∨
    ((X = Y) = False ∧ cmpV X Y = 1 ∧ ¬ (((⟨(decL X).toArray⟩ : ByteArray).size : Int) < (⟨(decL Y).toArray⟩ : ByteArray).size) ∧ ¬ (⟨(decL X).toArray⟩ : ByteArray).size = (⟨(decL Y).toArray⟩ : ByteArray).size ∧ ((⟨(decL X).toArray⟩ : ByteArray).toList == (⟨(decL Y).toArray⟩ : ByteArray).toList) = false) ∨
    ((X = Y) = False ∧ cmpV X Y = 1 ∧ ¬ (((⟨(decL X).toArray⟩ : ByteArray).size : Int) < (⟨(decL Y).toArray⟩ : ByteArray).size) ∧ (⟨(decL X).toArray⟩ : ByteArray).size = (⟨(decL Y).toArray⟩ : ByteArray).size ∧ Go.Op.bytesLess (⟨(decL X).toArray⟩ : ByteArray).toList (⟨(decL Y).toArray⟩ : ByteArray).toList = false ∧ ((⟨(decL X).toArray⟩ : ByteArray).toList == (⟨(decL Y).toArray⟩ : ByteArray).toList) = false) := by
  have hl := dec_less hX hY
  have hl' := dec_less hY hX
  have hj := @dec_inj X Y hX hY
  have sz : ∀ l : List UInt8, (⟨l.toArray⟩ : ByteArray).size = l.length := fun l => by simp [ByteArray.size]
  have tl : ∀ l : List UInt8, (⟨l.toArray⟩ : ByteArray).toList = l := fun l => by rw [toList_data]
  simp only [sz, tl]
  unfold cmpV
  by_cases h : X = Y
  · subst h
    have h0 : Go.Op.bytesLess (decL X) (decL X) = false := by
      cases h : Go.Op.bytesLess (decL X) (decL X)
      · rfl
      · exact absurd (hl.1 (.inr ⟨rfl, h⟩)) (Nat.lt_irrefl _)
    right; right; left
    simp [h0]
  · have hne : (decL X == decL Y) = false := by
      cases h' : (decL X == decL Y)
      · rfl
      · exact absurd (hj (by simpa using h')) h
    by_cases hlt : X < Y
    · rcases hl.2 hlt with h1 | ⟨h1, h2⟩
      · left
        simp [h, hlt, hne]
        omega
      · right; left
        simp [h, hlt, hne, h1, h2]
    · have hgt : Y < X := by omega
      have h0 : ¬ ((decL X).length < (decL Y).length ∨ (decL X).length = (decL Y).length ∧ Go.Op.bytesLess (decL X) (decL Y) = true) := fun k => hlt (hl.1 k)
      by_cases he : (decL X).length = (decL Y).length
      · right; right; right; right
        have hb : Go.Op.bytesLess (decL X) (decL Y) = false := by
          cases h' : Go.Op.bytesLess (decL X) (decL Y)
          · rfl
          · exact absurd (.inr ⟨he, h'⟩) h0
        simp [h, hlt, hgt, hne, he, hb]
      · right; right; right; left
        have : ¬ (decL X).length < (decL Y).length := fun k => h0 (.inl k)
        simp [h, hlt, hgt, hne, he]
        omega
set_option maxRecDepth 20000 in
set_option maxHeartbeats 64000000 in
theorem Order4_in {A B : Nat} (hA : A < M256) (hB : B < M256) {c e : Int} (c0 : 0 ≤ c) (c1 : c < 18446744073709551616) (e0 : 0 ≤ e) (e1 : e < 18446744073709551616) (w : World) :
    Calls Try.prog 7 #[.agg #[.int .u64 (lim A 0), .int .u64 (lim A 1), .int .u64 (lim A 2), .int .u64 (lim A 3)], .agg #[.int .u64 (lim B 0), .int .u64 (lim B 1), .int .u64 (lim B 2), .int .u64 (lim B 3)], .int .u64 c, .int .u64 e] w fun e w' => e = .returned (.bool true) ∧ Below w.heap.size w w' := by
  go_enter Try.func7, Try.ntmps7
  go_wp2_with (first | (refine n_box (by rfl) (T := 24) (x := (.tmp 0)) rfl (v := .agg (#[.int .u64 (lim A 0), .int .u64 (lim A 1), .int .u64 (lim A 2), .int .u64 (lim A 3)])) rfl (ds := #[.int .u64 (lim A 0), .int .u64 (lim A 1), .int .u64 (lim A 2), .int .u64 (lim A 3)]) rfl ?_; intro w1 Hb4 hbn; have HB := hide hbn; clear hbn; replace Hb4 := hide Hb4) | (refine n_box (by rfl) (T := 24) (x := (.tmp 1)) rfl (v := .agg (#[.int .u64 (lim B 0), .int .u64 (lim B 1), .int .u64 (lim B 2), .int .u64 (lim B 3)])) rfl (ds := #[.int .u64 (lim B 0), .int .u64 (lim B 1), .int .u64 (lim B 2), .int .u64 (lim B 3)]) rfl ?_; intro w2 Hb5 hbn; have hsz_w1 := HB.out.size; have lt_b4_b5 := Hb4.out.lt; replace HB := hide (HB.out.trans (hbn.mono HB.out.size)); replace Hb4 := hide (Hb4.out.below hbn Hb4.out.lt); clear hbn; replace Hb5 := hide Hb5) | (refine n_loadw (by rfl) (T := 24) (x := (.tmp 4)) rfl (g := w.heap.size) rfl Hb4.out Try.underlying24 rfl dx_s0 ?_) | (refine n_loadw (by rfl) (T := 24) (x := (.tmp 5)) rfl (g := w1.heap.size) rfl Hb5.out Try.underlying24 rfl dx_s0 ?_))
  go_loopw [23] (fun v23 wr => ∃ K : Nat, K ≤ 2 ∧ v23 = .int .i64 K ∧ Hid (Below w.heap.size w wr)) (fun v23 _ => (2 - (intOf v23).toNat))
  case atStart => exact ⟨0, by omega, rfl, HB⟩
  case round =>
    obtain ⟨K, hK, rfl, HB⟩ := hrel
    rcases Nat.lt_or_ge K 2 with hk | hk
    · have hk0 : (K : Int) < 2 := by omega
      obtain ⟨X, Y, hX, hY, hix⟩ : ∃ X Y : Nat, X < M256 ∧ Y < M256 ∧ ∀ w, (Instr.index 43 (.agg #[.int .u64 (lim A 0), .int .u64 (lim A 1), .int .u64 (lim A 2), .int .u64 (lim A 3), .int .u64 (lim B 0), .int .u64 (lim B 1), .int .u64 (lim B 2), .int .u64 (lim B 3), .int .u64 c, .int .u64 0, .int .u64 0, .int .u64 0, .int .u64 e, .int .u64 0, .int .u64 0, .int .u64 0]) (.int .i64 K)).run Try.prog w = .ok (.agg #[.int .u64 (lim X 0), .int .u64 (lim X 1), .int .u64 (lim X 2), .int .u64 (lim X 3), .int .u64 (lim Y 0), .int .u64 (lim Y 1), .int .u64 (lim Y 2), .int .u64 (lim Y 3)]) w := by
        obtain rfl | rfl : K = 0 ∨ K = 1 := by omega
        · exact ⟨A, B, hA, hB, (i2_law _ _ _ _ _ _ _ _ _ _ _ _ _ _ _ _).1⟩
        · have uc := isU_one c0 c1
          have ue := isU_one e0 e1
          obtain ⟨p0, p1, p2, p3⟩ := uc.lims
          obtain ⟨q0, q1, q2, q3⟩ := ue.lims
          refine ⟨c.toNat, e.toNat, uc.lt, ue.lt, ?_⟩
          rw [← p0, ← p1, ← p2, ← p3, ← q0, ← q1, ← q2, ← q3]
          exact (i2_law _ _ _ _ _ _ _ _ _ _ _ _ _ _ _ _).2
      have FX := fun w => format_c hX w
      have FY := fun w => format_c hY w
      have HC := fun w => cmp_c (isU_lim hX) (isU_lim hY) w
      have hq := lim_test hX hY
      have hw := @ord_ways X Y (Nat.lt_trans hX m256_78) (Nat.lt_trans hY m256_78)
      obtain ⟨sx, ex⟩ : ∃ s : ByteArray, ⟨(decL X).toArray⟩ = s := ⟨_, rfl⟩
      obtain ⟨sy, ey⟩ : ∃ s : ByteArray, ⟨(decL Y).toArray⟩ = s := ⟨_, rfl⟩
      rw [ex, ey] at hw
      rw [ex] at FX
      rw [ey] at FY
      replace FX := hide FX
      replace FY := hide FY
      clear hX hY ex ey hA hB
      rcases hw with ⟨h0, hc, h1, h3⟩ | ⟨h0, hc, h1, h2, h3, h4⟩ | ⟨h0, hc, h1, h2, h3, h4⟩ | ⟨h0, hc, h1, h2, h3⟩ | ⟨h0, hc, h1, h2, h3, h4⟩
      · rw [hc] at HC
        replace HC := hide HC
        simp only [h0, decide_true, decide_false] at hq
        clear h0 hc
        go_upto_region 4 with (first | (refine n_alloc (by rfl) (T := 42) rfl dx_z1 (ds := #[.int .u64 0, .int .u64 0, .int .u64 0, .int .u64 0, .int .u64 0, .int .u64 0, .int .u64 0, .int .u64 0]) rfl ?_; intro w3 Hb10 hbn; have hsz_wr := HB.out.size; replace HB := hide (HB.out.trans (hbn.mono HB.out.size)); clear hbn; replace Hb10 := hide Hb10) | (refine n_storew (by rfl) (T := 42) (x := (.tmp 10)) (y := (.tmp 25)) rfl (g := wr.heap.size) rfl (vs := #[.int .u64 (lim X 0), .int .u64 (lim X 1), .int .u64 (lim X 2), .int .u64 (lim X 3), .int .u64 (lim Y 0), .int .u64 (lim Y 1), .int .u64 (lim Y 2), .int .u64 (lim Y 3)]) rfl (by first | (simp [Value.oneCell']; done)) Hb10.out rfl dx_s2 ?_; clear Hb10; intro w4 Hb10 hun; replace Hb10 := hide Hb10; replace HB := hide (hun.keep w.heap.size w (by omega) HB.out); clear hun))
        refine Sch.start (Sch.take 0 (Sch.take 1 (Sch.take 3 (Sch.take 4 (Sch.one 2 (Sch.one 5 (Sch.take 6 (Sch.take 7 Sch.done)))))))) (S := fun w' => Below w4.heap.size w4 w') (by kernel_rfl) (by kernel_rfl) (fun _ d _ _ _ h => by cases d <;> exact h) (by kernel_rfl) ((Below.refl _ _).drew) (fun O hO hHeld => ?_)
        (refine Sch.t_val hO rfl (by rfl) (v := .pointer (some ⟨wr.heap.size, 0, none⟩)) (fun w _ => (by go_simp)) ?_; (try simp only [Act.put, List.setIfInBounds_toArray, List.set_cons_zero, List.set_cons_succ, Array.toArray_toList, List.getElem_toArray, List.getElem_cons_succ, List.getElem_cons_zero]))
        (refine Sch.t_loads hO rfl (by rfl) (T := 24) rfl (g := wr.heap.size) (o := 0) rfl (fun w' h => Hb10.out.below h Hb10.out.lt) (ds := #[.int .u64 (lim X 0), .int .u64 (lim X 1), .int .u64 (lim X 2), .int .u64 (lim X 3)]) (by rfl) Try.underlying24 rfl dx_s0 ?_; (try simp only [Act.put, List.setIfInBounds_toArray, List.set_cons_zero, List.set_cons_succ, Array.toArray_toList, List.getElem_toArray, List.getElem_cons_succ, List.getElem_cons_zero]))
        (refine Sch.t_val hO rfl (by rfl) (v := .pointer (some ⟨wr.heap.size, 4, none⟩)) (fun w _ => (by go_simp)) ?_; (try simp only [Act.put, List.setIfInBounds_toArray, List.set_cons_zero, List.set_cons_succ, Array.toArray_toList, List.getElem_toArray, List.getElem_cons_succ, List.getElem_cons_zero]))
        (refine Sch.t_loads hO rfl (by rfl) (T := 24) rfl (g := wr.heap.size) (o := 4) rfl (fun w' h => Hb10.out.below h Hb10.out.lt) (ds := #[.int .u64 (lim Y 0), .int .u64 (lim Y 1), .int .u64 (lim Y 2), .int .u64 (lim Y 3)]) (by rfl) Try.underlying24 rfl dx_s0 ?_; (try simp only [Act.put, List.setIfInBounds_toArray, List.set_cons_zero, List.set_cons_succ, Array.toArray_toList, List.getElem_toArray, List.getElem_cons_succ, List.getElem_cons_zero]))
        refine Sch.s_one hO rfl (by rfl) (fun K hK => ?_)
        go_simp
        go_at_call 15
        refine (FX.out _).mono ?_
        rintro e y4_1 ⟨rfl, hb_y4_1⟩
        go_wp2_with fail
        refine hK.out _ _ (hHeld.trans (hb_y4_1.mono hHeld.size)) (fun hHeld => ?_)
        clear hK K
        (try simp only [Act.put, List.setIfInBounds_toArray, List.set_cons_zero, List.set_cons_succ, Array.toArray_toList, List.getElem_toArray, List.getElem_cons_succ, List.getElem_cons_zero])
        refine Sch.s_one hO rfl (by rfl) (fun K hK => ?_)
        go_simp
        go_at_call 15
        refine (FY.out _).mono ?_
        rintro e y4_2 ⟨rfl, hb_y4_2⟩
        go_wp2_with fail
        refine hK.out _ _ (hHeld.trans (hb_y4_2.mono hHeld.size)) (fun hHeld => ?_)
        clear hK K
        (try simp only [Act.put, List.setIfInBounds_toArray, List.set_cons_zero, List.set_cons_succ, Array.toArray_toList, List.getElem_toArray, List.getElem_cons_succ, List.getElem_cons_zero])
        (refine Sch.t_move hO rfl (by rfl) (v := .string sx) (.inr rfl) rfl ?_; (try simp only [Act.put, List.setIfInBounds_toArray, List.set_cons_zero, List.set_cons_succ, Array.toArray_toList, List.getElem_toArray, List.getElem_cons_succ, List.getElem_cons_zero]))
        (refine Sch.t_move hO rfl (by rfl) (v := .string sy) (.inr rfl) rfl ?_; (try simp only [Act.put, List.setIfInBounds_toArray, List.set_cons_zero, List.set_cons_succ, Array.toArray_toList, List.getElem_toArray, List.getElem_cons_succ, List.getElem_cons_zero]))
        refine Sch.t_done ?_
        replace HB := hide (HB.out.trans (hHeld.mono HB.out.size))
        replace Hb10 := hide (Hb10.out.below hHeld Hb10.out.lt)
        clear hHeld hO
        go_wp2_with (first | (refine n_loads (by rfl) (T := 24) (x := (.tmp 50)) rfl (g := wr.heap.size) (o := 0) rfl Hb10.out (ds := #[.int .u64 (lim X 0), .int .u64 (lim X 1), .int .u64 (lim X 2), .int .u64 (lim X 3)]) (by rfl) Try.underlying24 rfl dx_s0 ?_) | (refine n_loads (by rfl) (T := 24) (x := (.tmp 52)) rfl (g := wr.heap.size) (o := 4) rfl Hb10.out (ds := #[.int .u64 (lim Y 0), .int .u64 (lim Y 1), .int .u64 (lim Y 2), .int .u64 (lim Y 3)]) (by rfl) Try.underlying24 rfl dx_s0 ?_))
        refine (HC.out _).mono ?_
        rintro e w5 ⟨rfl, hbc⟩
        replace HB := hide (HB.out.trans (hbc.mono HB.out.size))
        replace Hb10 := hide (Hb10.out.below hbc Hb10.out.lt)
        clear hbc
        go_wp2_with (first | (refine n_loads (by rfl) (T := 24) (x := (.tmp 61)) rfl (g := wr.heap.size) (o := 0) rfl Hb10.out (ds := #[.int .u64 (lim X 0), .int .u64 (lim X 1), .int .u64 (lim X 2), .int .u64 (lim X 3)]) (by rfl) Try.underlying24 rfl dx_s0 ?_) | (refine n_loads (by rfl) (T := 24) (x := (.tmp 63)) rfl (g := wr.heap.size) (o := 4) rfl Hb10.out (ds := #[.int .u64 (lim Y 0), .int .u64 (lim Y 1), .int .u64 (lim Y 2), .int .u64 (lim Y 3)]) (by rfl) Try.underlying24 rfl dx_s0 ?_))
        go_roundw
        case rel => exact ⟨K + 1, by omega, by go_num, HB⟩
        case measure => simp [intOf]; omega
      · rw [hc] at HC
        replace HC := hide HC
        simp only [h0, decide_true, decide_false] at hq
        clear h0 hc
        go_upto_region 4 with (first | (refine n_alloc (by rfl) (T := 42) rfl dx_z1 (ds := #[.int .u64 0, .int .u64 0, .int .u64 0, .int .u64 0, .int .u64 0, .int .u64 0, .int .u64 0, .int .u64 0]) rfl ?_; intro w3 Hb10 hbn; have hsz_wr := HB.out.size; replace HB := hide (HB.out.trans (hbn.mono HB.out.size)); clear hbn; replace Hb10 := hide Hb10) | (refine n_storew (by rfl) (T := 42) (x := (.tmp 10)) (y := (.tmp 25)) rfl (g := wr.heap.size) rfl (vs := #[.int .u64 (lim X 0), .int .u64 (lim X 1), .int .u64 (lim X 2), .int .u64 (lim X 3), .int .u64 (lim Y 0), .int .u64 (lim Y 1), .int .u64 (lim Y 2), .int .u64 (lim Y 3)]) rfl (by first | (simp [Value.oneCell']; done)) Hb10.out rfl dx_s2 ?_; clear Hb10; intro w4 Hb10 hun; replace Hb10 := hide Hb10; replace HB := hide (hun.keep w.heap.size w (by omega) HB.out); clear hun))
        refine Sch.start (Sch.take 0 (Sch.take 1 (Sch.take 3 (Sch.take 4 (Sch.one 2 (Sch.one 5 (Sch.take 6 (Sch.take 7 Sch.done)))))))) (S := fun w' => Below w4.heap.size w4 w') (by kernel_rfl) (by kernel_rfl) (fun _ d _ _ _ h => by cases d <;> exact h) (by kernel_rfl) ((Below.refl _ _).drew) (fun O hO hHeld => ?_)
        (refine Sch.t_val hO rfl (by rfl) (v := .pointer (some ⟨wr.heap.size, 0, none⟩)) (fun w _ => (by go_simp)) ?_; (try simp only [Act.put, List.setIfInBounds_toArray, List.set_cons_zero, List.set_cons_succ, Array.toArray_toList, List.getElem_toArray, List.getElem_cons_succ, List.getElem_cons_zero]))
        (refine Sch.t_loads hO rfl (by rfl) (T := 24) rfl (g := wr.heap.size) (o := 0) rfl (fun w' h => Hb10.out.below h Hb10.out.lt) (ds := #[.int .u64 (lim X 0), .int .u64 (lim X 1), .int .u64 (lim X 2), .int .u64 (lim X 3)]) (by rfl) Try.underlying24 rfl dx_s0 ?_; (try simp only [Act.put, List.setIfInBounds_toArray, List.set_cons_zero, List.set_cons_succ, Array.toArray_toList, List.getElem_toArray, List.getElem_cons_succ, List.getElem_cons_zero]))
        (refine Sch.t_val hO rfl (by rfl) (v := .pointer (some ⟨wr.heap.size, 4, none⟩)) (fun w _ => (by go_simp)) ?_; (try simp only [Act.put, List.setIfInBounds_toArray, List.set_cons_zero, List.set_cons_succ, Array.toArray_toList, List.getElem_toArray, List.getElem_cons_succ, List.getElem_cons_zero]))
        (refine Sch.t_loads hO rfl (by rfl) (T := 24) rfl (g := wr.heap.size) (o := 4) rfl (fun w' h => Hb10.out.below h Hb10.out.lt) (ds := #[.int .u64 (lim Y 0), .int .u64 (lim Y 1), .int .u64 (lim Y 2), .int .u64 (lim Y 3)]) (by rfl) Try.underlying24 rfl dx_s0 ?_; (try simp only [Act.put, List.setIfInBounds_toArray, List.set_cons_zero, List.set_cons_succ, Array.toArray_toList, List.getElem_toArray, List.getElem_cons_succ, List.getElem_cons_zero]))
        refine Sch.s_one hO rfl (by rfl) (fun K hK => ?_)
        go_simp
        go_at_call 15
        refine (FX.out _).mono ?_
        rintro e y4_1 ⟨rfl, hb_y4_1⟩
        go_wp2_with fail
        refine hK.out _ _ (hHeld.trans (hb_y4_1.mono hHeld.size)) (fun hHeld => ?_)
        clear hK K
        (try simp only [Act.put, List.setIfInBounds_toArray, List.set_cons_zero, List.set_cons_succ, Array.toArray_toList, List.getElem_toArray, List.getElem_cons_succ, List.getElem_cons_zero])
        refine Sch.s_one hO rfl (by rfl) (fun K hK => ?_)
        go_simp
        go_at_call 15
        refine (FY.out _).mono ?_
        rintro e y4_2 ⟨rfl, hb_y4_2⟩
        go_wp2_with fail
        refine hK.out _ _ (hHeld.trans (hb_y4_2.mono hHeld.size)) (fun hHeld => ?_)
        clear hK K
        (try simp only [Act.put, List.setIfInBounds_toArray, List.set_cons_zero, List.set_cons_succ, Array.toArray_toList, List.getElem_toArray, List.getElem_cons_succ, List.getElem_cons_zero])
        (refine Sch.t_move hO rfl (by rfl) (v := .string sx) (.inr rfl) rfl ?_; (try simp only [Act.put, List.setIfInBounds_toArray, List.set_cons_zero, List.set_cons_succ, Array.toArray_toList, List.getElem_toArray, List.getElem_cons_succ, List.getElem_cons_zero]))
        (refine Sch.t_move hO rfl (by rfl) (v := .string sy) (.inr rfl) rfl ?_; (try simp only [Act.put, List.setIfInBounds_toArray, List.set_cons_zero, List.set_cons_succ, Array.toArray_toList, List.getElem_toArray, List.getElem_cons_succ, List.getElem_cons_zero]))
        refine Sch.t_done ?_
        replace HB := hide (HB.out.trans (hHeld.mono HB.out.size))
        replace Hb10 := hide (Hb10.out.below hHeld Hb10.out.lt)
        clear hHeld hO
        go_wp2_with (first | (refine n_loads (by rfl) (T := 24) (x := (.tmp 50)) rfl (g := wr.heap.size) (o := 0) rfl Hb10.out (ds := #[.int .u64 (lim X 0), .int .u64 (lim X 1), .int .u64 (lim X 2), .int .u64 (lim X 3)]) (by rfl) Try.underlying24 rfl dx_s0 ?_) | (refine n_loads (by rfl) (T := 24) (x := (.tmp 52)) rfl (g := wr.heap.size) (o := 4) rfl Hb10.out (ds := #[.int .u64 (lim Y 0), .int .u64 (lim Y 1), .int .u64 (lim Y 2), .int .u64 (lim Y 3)]) (by rfl) Try.underlying24 rfl dx_s0 ?_))
        refine (HC.out _).mono ?_
        rintro e w5 ⟨rfl, hbc⟩
        replace HB := hide (HB.out.trans (hbc.mono HB.out.size))
        replace Hb10 := hide (Hb10.out.below hbc Hb10.out.lt)
        clear hbc
        go_wp2_with (first | (refine n_loads (by rfl) (T := 24) (x := (.tmp 61)) rfl (g := wr.heap.size) (o := 0) rfl Hb10.out (ds := #[.int .u64 (lim X 0), .int .u64 (lim X 1), .int .u64 (lim X 2), .int .u64 (lim X 3)]) (by rfl) Try.underlying24 rfl dx_s0 ?_) | (refine n_loads (by rfl) (T := 24) (x := (.tmp 63)) rfl (g := wr.heap.size) (o := 4) rfl Hb10.out (ds := #[.int .u64 (lim Y 0), .int .u64 (lim Y 1), .int .u64 (lim Y 2), .int .u64 (lim Y 3)]) (by rfl) Try.underlying24 rfl dx_s0 ?_))
        go_roundw
        case rel => exact ⟨K + 1, by omega, by go_num, HB⟩
        case measure => simp [intOf]; omega
      · rw [hc] at HC
        replace HC := hide HC
        simp only [h0, decide_true, decide_false] at hq
        clear h0 hc
        go_upto_region 4 with (first | (refine n_alloc (by rfl) (T := 42) rfl dx_z1 (ds := #[.int .u64 0, .int .u64 0, .int .u64 0, .int .u64 0, .int .u64 0, .int .u64 0, .int .u64 0, .int .u64 0]) rfl ?_; intro w3 Hb10 hbn; have hsz_wr := HB.out.size; replace HB := hide (HB.out.trans (hbn.mono HB.out.size)); clear hbn; replace Hb10 := hide Hb10) | (refine n_storew (by rfl) (T := 42) (x := (.tmp 10)) (y := (.tmp 25)) rfl (g := wr.heap.size) rfl (vs := #[.int .u64 (lim X 0), .int .u64 (lim X 1), .int .u64 (lim X 2), .int .u64 (lim X 3), .int .u64 (lim Y 0), .int .u64 (lim Y 1), .int .u64 (lim Y 2), .int .u64 (lim Y 3)]) rfl (by first | (simp [Value.oneCell']; done)) Hb10.out rfl dx_s2 ?_; clear Hb10; intro w4 Hb10 hun; replace Hb10 := hide Hb10; replace HB := hide (hun.keep w.heap.size w (by omega) HB.out); clear hun))
        refine Sch.start (Sch.take 0 (Sch.take 1 (Sch.take 3 (Sch.take 4 (Sch.one 2 (Sch.one 5 (Sch.take 6 (Sch.take 7 Sch.done)))))))) (S := fun w' => Below w4.heap.size w4 w') (by kernel_rfl) (by kernel_rfl) (fun _ d _ _ _ h => by cases d <;> exact h) (by kernel_rfl) ((Below.refl _ _).drew) (fun O hO hHeld => ?_)
        (refine Sch.t_val hO rfl (by rfl) (v := .pointer (some ⟨wr.heap.size, 0, none⟩)) (fun w _ => (by go_simp)) ?_; (try simp only [Act.put, List.setIfInBounds_toArray, List.set_cons_zero, List.set_cons_succ, Array.toArray_toList, List.getElem_toArray, List.getElem_cons_succ, List.getElem_cons_zero]))
        (refine Sch.t_loads hO rfl (by rfl) (T := 24) rfl (g := wr.heap.size) (o := 0) rfl (fun w' h => Hb10.out.below h Hb10.out.lt) (ds := #[.int .u64 (lim X 0), .int .u64 (lim X 1), .int .u64 (lim X 2), .int .u64 (lim X 3)]) (by rfl) Try.underlying24 rfl dx_s0 ?_; (try simp only [Act.put, List.setIfInBounds_toArray, List.set_cons_zero, List.set_cons_succ, Array.toArray_toList, List.getElem_toArray, List.getElem_cons_succ, List.getElem_cons_zero]))
        (refine Sch.t_val hO rfl (by rfl) (v := .pointer (some ⟨wr.heap.size, 4, none⟩)) (fun w _ => (by go_simp)) ?_; (try simp only [Act.put, List.setIfInBounds_toArray, List.set_cons_zero, List.set_cons_succ, Array.toArray_toList, List.getElem_toArray, List.getElem_cons_succ, List.getElem_cons_zero]))
        (refine Sch.t_loads hO rfl (by rfl) (T := 24) rfl (g := wr.heap.size) (o := 4) rfl (fun w' h => Hb10.out.below h Hb10.out.lt) (ds := #[.int .u64 (lim Y 0), .int .u64 (lim Y 1), .int .u64 (lim Y 2), .int .u64 (lim Y 3)]) (by rfl) Try.underlying24 rfl dx_s0 ?_; (try simp only [Act.put, List.setIfInBounds_toArray, List.set_cons_zero, List.set_cons_succ, Array.toArray_toList, List.getElem_toArray, List.getElem_cons_succ, List.getElem_cons_zero]))
        refine Sch.s_one hO rfl (by rfl) (fun K hK => ?_)
        go_simp
        go_at_call 15
        refine (FX.out _).mono ?_
        rintro e y4_1 ⟨rfl, hb_y4_1⟩
        go_wp2_with fail
        refine hK.out _ _ (hHeld.trans (hb_y4_1.mono hHeld.size)) (fun hHeld => ?_)
        clear hK K
        (try simp only [Act.put, List.setIfInBounds_toArray, List.set_cons_zero, List.set_cons_succ, Array.toArray_toList, List.getElem_toArray, List.getElem_cons_succ, List.getElem_cons_zero])
        refine Sch.s_one hO rfl (by rfl) (fun K hK => ?_)
        go_simp
        go_at_call 15
        refine (FY.out _).mono ?_
        rintro e y4_2 ⟨rfl, hb_y4_2⟩
        go_wp2_with fail
        refine hK.out _ _ (hHeld.trans (hb_y4_2.mono hHeld.size)) (fun hHeld => ?_)
        clear hK K
        (try simp only [Act.put, List.setIfInBounds_toArray, List.set_cons_zero, List.set_cons_succ, Array.toArray_toList, List.getElem_toArray, List.getElem_cons_succ, List.getElem_cons_zero])
        (refine Sch.t_move hO rfl (by rfl) (v := .string sx) (.inr rfl) rfl ?_; (try simp only [Act.put, List.setIfInBounds_toArray, List.set_cons_zero, List.set_cons_succ, Array.toArray_toList, List.getElem_toArray, List.getElem_cons_succ, List.getElem_cons_zero]))
        (refine Sch.t_move hO rfl (by rfl) (v := .string sy) (.inr rfl) rfl ?_; (try simp only [Act.put, List.setIfInBounds_toArray, List.set_cons_zero, List.set_cons_succ, Array.toArray_toList, List.getElem_toArray, List.getElem_cons_succ, List.getElem_cons_zero]))
        refine Sch.t_done ?_
        replace HB := hide (HB.out.trans (hHeld.mono HB.out.size))
        replace Hb10 := hide (Hb10.out.below hHeld Hb10.out.lt)
        clear hHeld hO
        go_wp2_with (first | (refine n_loads (by rfl) (T := 24) (x := (.tmp 50)) rfl (g := wr.heap.size) (o := 0) rfl Hb10.out (ds := #[.int .u64 (lim X 0), .int .u64 (lim X 1), .int .u64 (lim X 2), .int .u64 (lim X 3)]) (by rfl) Try.underlying24 rfl dx_s0 ?_) | (refine n_loads (by rfl) (T := 24) (x := (.tmp 52)) rfl (g := wr.heap.size) (o := 4) rfl Hb10.out (ds := #[.int .u64 (lim Y 0), .int .u64 (lim Y 1), .int .u64 (lim Y 2), .int .u64 (lim Y 3)]) (by rfl) Try.underlying24 rfl dx_s0 ?_))
        refine (HC.out _).mono ?_
        rintro e w5 ⟨rfl, hbc⟩
        replace HB := hide (HB.out.trans (hbc.mono HB.out.size))
        replace Hb10 := hide (Hb10.out.below hbc Hb10.out.lt)
        clear hbc
        go_wp2_with (first | (refine n_loads (by rfl) (T := 24) (x := (.tmp 61)) rfl (g := wr.heap.size) (o := 0) rfl Hb10.out (ds := #[.int .u64 (lim X 0), .int .u64 (lim X 1), .int .u64 (lim X 2), .int .u64 (lim X 3)]) (by rfl) Try.underlying24 rfl dx_s0 ?_) | (refine n_loads (by rfl) (T := 24) (x := (.tmp 63)) rfl (g := wr.heap.size) (o := 4) rfl Hb10.out (ds := #[.int .u64 (lim Y 0), .int .u64 (lim Y 1), .int .u64 (lim Y 2), .int .u64 (lim Y 3)]) (by rfl) Try.underlying24 rfl dx_s0 ?_))
        go_roundw
        case rel => exact ⟨K + 1, by omega, by go_num, HB⟩
        case measure => simp [intOf]; omega
      · rw [hc] at HC
        replace HC := hide HC
        simp only [h0, decide_true, decide_false] at hq
        clear h0 hc
        have h5 : decide (sx.size < sy.size) = false := by
          rw [decide_eq_false_iff_not]
          omega
        have h6 : ((sx.size : Int) == (sy.size : Int)) = false := by
          rw [beq_eq_false_iff_ne]
          omega
        clear h1 h2
        go_upto_region 4 with (first | (refine n_alloc (by rfl) (T := 42) rfl dx_z1 (ds := #[.int .u64 0, .int .u64 0, .int .u64 0, .int .u64 0, .int .u64 0, .int .u64 0, .int .u64 0, .int .u64 0]) rfl ?_; intro w3 Hb10 hbn; have hsz_wr := HB.out.size; replace HB := hide (HB.out.trans (hbn.mono HB.out.size)); clear hbn; replace Hb10 := hide Hb10) | (refine n_storew (by rfl) (T := 42) (x := (.tmp 10)) (y := (.tmp 25)) rfl (g := wr.heap.size) rfl (vs := #[.int .u64 (lim X 0), .int .u64 (lim X 1), .int .u64 (lim X 2), .int .u64 (lim X 3), .int .u64 (lim Y 0), .int .u64 (lim Y 1), .int .u64 (lim Y 2), .int .u64 (lim Y 3)]) rfl (by first | (simp [Value.oneCell']; done)) Hb10.out rfl dx_s2 ?_; clear Hb10; intro w4 Hb10 hun; replace Hb10 := hide Hb10; replace HB := hide (hun.keep w.heap.size w (by omega) HB.out); clear hun))
        refine Sch.start (Sch.take 0 (Sch.take 1 (Sch.take 3 (Sch.take 4 (Sch.one 2 (Sch.one 5 (Sch.take 6 (Sch.take 7 Sch.done)))))))) (S := fun w' => Below w4.heap.size w4 w') (by kernel_rfl) (by kernel_rfl) (fun _ d _ _ _ h => by cases d <;> exact h) (by kernel_rfl) ((Below.refl _ _).drew) (fun O hO hHeld => ?_)
        (refine Sch.t_val hO rfl (by rfl) (v := .pointer (some ⟨wr.heap.size, 0, none⟩)) (fun w _ => (by go_simp)) ?_; (try simp only [Act.put, List.setIfInBounds_toArray, List.set_cons_zero, List.set_cons_succ, Array.toArray_toList, List.getElem_toArray, List.getElem_cons_succ, List.getElem_cons_zero]))
        (refine Sch.t_loads hO rfl (by rfl) (T := 24) rfl (g := wr.heap.size) (o := 0) rfl (fun w' h => Hb10.out.below h Hb10.out.lt) (ds := #[.int .u64 (lim X 0), .int .u64 (lim X 1), .int .u64 (lim X 2), .int .u64 (lim X 3)]) (by rfl) Try.underlying24 rfl dx_s0 ?_; (try simp only [Act.put, List.setIfInBounds_toArray, List.set_cons_zero, List.set_cons_succ, Array.toArray_toList, List.getElem_toArray, List.getElem_cons_succ, List.getElem_cons_zero]))
        (refine Sch.t_val hO rfl (by rfl) (v := .pointer (some ⟨wr.heap.size, 4, none⟩)) (fun w _ => (by go_simp)) ?_; (try simp only [Act.put, List.setIfInBounds_toArray, List.set_cons_zero, List.set_cons_succ, Array.toArray_toList, List.getElem_toArray, List.getElem_cons_succ, List.getElem_cons_zero]))
        (refine Sch.t_loads hO rfl (by rfl) (T := 24) rfl (g := wr.heap.size) (o := 4) rfl (fun w' h => Hb10.out.below h Hb10.out.lt) (ds := #[.int .u64 (lim Y 0), .int .u64 (lim Y 1), .int .u64 (lim Y 2), .int .u64 (lim Y 3)]) (by rfl) Try.underlying24 rfl dx_s0 ?_; (try simp only [Act.put, List.setIfInBounds_toArray, List.set_cons_zero, List.set_cons_succ, Array.toArray_toList, List.getElem_toArray, List.getElem_cons_succ, List.getElem_cons_zero]))
        refine Sch.s_one hO rfl (by rfl) (fun K hK => ?_)
        go_simp
        go_at_call 15
        refine (FX.out _).mono ?_
        rintro e y4_1 ⟨rfl, hb_y4_1⟩
        go_wp2_with fail
        refine hK.out _ _ (hHeld.trans (hb_y4_1.mono hHeld.size)) (fun hHeld => ?_)
        clear hK K
        (try simp only [Act.put, List.setIfInBounds_toArray, List.set_cons_zero, List.set_cons_succ, Array.toArray_toList, List.getElem_toArray, List.getElem_cons_succ, List.getElem_cons_zero])
        refine Sch.s_one hO rfl (by rfl) (fun K hK => ?_)
        go_simp
        go_at_call 15
        refine (FY.out _).mono ?_
        rintro e y4_2 ⟨rfl, hb_y4_2⟩
        go_wp2_with fail
        refine hK.out _ _ (hHeld.trans (hb_y4_2.mono hHeld.size)) (fun hHeld => ?_)
        clear hK K
        (try simp only [Act.put, List.setIfInBounds_toArray, List.set_cons_zero, List.set_cons_succ, Array.toArray_toList, List.getElem_toArray, List.getElem_cons_succ, List.getElem_cons_zero])
        (refine Sch.t_move hO rfl (by rfl) (v := .string sx) (.inr rfl) rfl ?_; (try simp only [Act.put, List.setIfInBounds_toArray, List.set_cons_zero, List.set_cons_succ, Array.toArray_toList, List.getElem_toArray, List.getElem_cons_succ, List.getElem_cons_zero]))
        (refine Sch.t_move hO rfl (by rfl) (v := .string sy) (.inr rfl) rfl ?_; (try simp only [Act.put, List.setIfInBounds_toArray, List.set_cons_zero, List.set_cons_succ, Array.toArray_toList, List.getElem_toArray, List.getElem_cons_succ, List.getElem_cons_zero]))
        refine Sch.t_done ?_
        replace HB := hide (HB.out.trans (hHeld.mono HB.out.size))
        replace Hb10 := hide (Hb10.out.below hHeld Hb10.out.lt)
        clear hHeld hO
        go_wp2_with (first | (refine n_loads (by rfl) (T := 24) (x := (.tmp 50)) rfl (g := wr.heap.size) (o := 0) rfl Hb10.out (ds := #[.int .u64 (lim X 0), .int .u64 (lim X 1), .int .u64 (lim X 2), .int .u64 (lim X 3)]) (by rfl) Try.underlying24 rfl dx_s0 ?_) | (refine n_loads (by rfl) (T := 24) (x := (.tmp 52)) rfl (g := wr.heap.size) (o := 4) rfl Hb10.out (ds := #[.int .u64 (lim Y 0), .int .u64 (lim Y 1), .int .u64 (lim Y 2), .int .u64 (lim Y 3)]) (by rfl) Try.underlying24 rfl dx_s0 ?_))
        refine (HC.out _).mono ?_
        rintro e w5 ⟨rfl, hbc⟩
        replace HB := hide (HB.out.trans (hbc.mono HB.out.size))
        replace Hb10 := hide (Hb10.out.below hbc Hb10.out.lt)
        clear hbc
        go_wp2_with (first | (refine n_loads (by rfl) (T := 24) (x := (.tmp 61)) rfl (g := wr.heap.size) (o := 0) rfl Hb10.out (ds := #[.int .u64 (lim X 0), .int .u64 (lim X 1), .int .u64 (lim X 2), .int .u64 (lim X 3)]) (by rfl) Try.underlying24 rfl dx_s0 ?_) | (refine n_loads (by rfl) (T := 24) (x := (.tmp 63)) rfl (g := wr.heap.size) (o := 4) rfl Hb10.out (ds := #[.int .u64 (lim Y 0), .int .u64 (lim Y 1), .int .u64 (lim Y 2), .int .u64 (lim Y 3)]) (by rfl) Try.underlying24 rfl dx_s0 ?_))
        go_roundw
        case rel => exact ⟨K + 1, by omega, by go_num, HB⟩
        case measure => simp [intOf]; omega
      · rw [hc] at HC
        replace HC := hide HC
        simp only [h0, decide_true, decide_false] at hq
        clear h0 hc
        go_upto_region 4 with (first | (refine n_alloc (by rfl) (T := 42) rfl dx_z1 (ds := #[.int .u64 0, .int .u64 0, .int .u64 0, .int .u64 0, .int .u64 0, .int .u64 0, .int .u64 0, .int .u64 0]) rfl ?_; intro w3 Hb10 hbn; have hsz_wr := HB.out.size; replace HB := hide (HB.out.trans (hbn.mono HB.out.size)); clear hbn; replace Hb10 := hide Hb10) | (refine n_storew (by rfl) (T := 42) (x := (.tmp 10)) (y := (.tmp 25)) rfl (g := wr.heap.size) rfl (vs := #[.int .u64 (lim X 0), .int .u64 (lim X 1), .int .u64 (lim X 2), .int .u64 (lim X 3), .int .u64 (lim Y 0), .int .u64 (lim Y 1), .int .u64 (lim Y 2), .int .u64 (lim Y 3)]) rfl (by first | (simp [Value.oneCell']; done)) Hb10.out rfl dx_s2 ?_; clear Hb10; intro w4 Hb10 hun; replace Hb10 := hide Hb10; replace HB := hide (hun.keep w.heap.size w (by omega) HB.out); clear hun))
        refine Sch.start (Sch.take 0 (Sch.take 1 (Sch.take 3 (Sch.take 4 (Sch.one 2 (Sch.one 5 (Sch.take 6 (Sch.take 7 Sch.done)))))))) (S := fun w' => Below w4.heap.size w4 w') (by kernel_rfl) (by kernel_rfl) (fun _ d _ _ _ h => by cases d <;> exact h) (by kernel_rfl) ((Below.refl _ _).drew) (fun O hO hHeld => ?_)
        (refine Sch.t_val hO rfl (by rfl) (v := .pointer (some ⟨wr.heap.size, 0, none⟩)) (fun w _ => (by go_simp)) ?_; (try simp only [Act.put, List.setIfInBounds_toArray, List.set_cons_zero, List.set_cons_succ, Array.toArray_toList, List.getElem_toArray, List.getElem_cons_succ, List.getElem_cons_zero]))
        (refine Sch.t_loads hO rfl (by rfl) (T := 24) rfl (g := wr.heap.size) (o := 0) rfl (fun w' h => Hb10.out.below h Hb10.out.lt) (ds := #[.int .u64 (lim X 0), .int .u64 (lim X 1), .int .u64 (lim X 2), .int .u64 (lim X 3)]) (by rfl) Try.underlying24 rfl dx_s0 ?_; (try simp only [Act.put, List.setIfInBounds_toArray, List.set_cons_zero, List.set_cons_succ, Array.toArray_toList, List.getElem_toArray, List.getElem_cons_succ, List.getElem_cons_zero]))
        (refine Sch.t_val hO rfl (by rfl) (v := .pointer (some ⟨wr.heap.size, 4, none⟩)) (fun w _ => (by go_simp)) ?_; (try simp only [Act.put, List.setIfInBounds_toArray, List.set_cons_zero, List.set_cons_succ, Array.toArray_toList, List.getElem_toArray, List.getElem_cons_succ, List.getElem_cons_zero]))
        (refine Sch.t_loads hO rfl (by rfl) (T := 24) rfl (g := wr.heap.size) (o := 4) rfl (fun w' h => Hb10.out.below h Hb10.out.lt) (ds := #[.int .u64 (lim Y 0), .int .u64 (lim Y 1), .int .u64 (lim Y 2), .int .u64 (lim Y 3)]) (by rfl) Try.underlying24 rfl dx_s0 ?_; (try simp only [Act.put, List.setIfInBounds_toArray, List.set_cons_zero, List.set_cons_succ, Array.toArray_toList, List.getElem_toArray, List.getElem_cons_succ, List.getElem_cons_zero]))
        refine Sch.s_one hO rfl (by rfl) (fun K hK => ?_)
        go_simp
        go_at_call 15
        refine (FX.out _).mono ?_
        rintro e y4_1 ⟨rfl, hb_y4_1⟩
        go_wp2_with fail
        refine hK.out _ _ (hHeld.trans (hb_y4_1.mono hHeld.size)) (fun hHeld => ?_)
        clear hK K
        (try simp only [Act.put, List.setIfInBounds_toArray, List.set_cons_zero, List.set_cons_succ, Array.toArray_toList, List.getElem_toArray, List.getElem_cons_succ, List.getElem_cons_zero])
        refine Sch.s_one hO rfl (by rfl) (fun K hK => ?_)
        go_simp
        go_at_call 15
        refine (FY.out _).mono ?_
        rintro e y4_2 ⟨rfl, hb_y4_2⟩
        go_wp2_with fail
        refine hK.out _ _ (hHeld.trans (hb_y4_2.mono hHeld.size)) (fun hHeld => ?_)
        clear hK K
        (try simp only [Act.put, List.setIfInBounds_toArray, List.set_cons_zero, List.set_cons_succ, Array.toArray_toList, List.getElem_toArray, List.getElem_cons_succ, List.getElem_cons_zero])
        (refine Sch.t_move hO rfl (by rfl) (v := .string sx) (.inr rfl) rfl ?_; (try simp only [Act.put, List.setIfInBounds_toArray, List.set_cons_zero, List.set_cons_succ, Array.toArray_toList, List.getElem_toArray, List.getElem_cons_succ, List.getElem_cons_zero]))
        (refine Sch.t_move hO rfl (by rfl) (v := .string sy) (.inr rfl) rfl ?_; (try simp only [Act.put, List.setIfInBounds_toArray, List.set_cons_zero, List.set_cons_succ, Array.toArray_toList, List.getElem_toArray, List.getElem_cons_succ, List.getElem_cons_zero]))
        refine Sch.t_done ?_
        replace HB := hide (HB.out.trans (hHeld.mono HB.out.size))
        replace Hb10 := hide (Hb10.out.below hHeld Hb10.out.lt)
        clear hHeld hO
        go_wp2_with (first | (refine n_loads (by rfl) (T := 24) (x := (.tmp 50)) rfl (g := wr.heap.size) (o := 0) rfl Hb10.out (ds := #[.int .u64 (lim X 0), .int .u64 (lim X 1), .int .u64 (lim X 2), .int .u64 (lim X 3)]) (by rfl) Try.underlying24 rfl dx_s0 ?_) | (refine n_loads (by rfl) (T := 24) (x := (.tmp 52)) rfl (g := wr.heap.size) (o := 4) rfl Hb10.out (ds := #[.int .u64 (lim Y 0), .int .u64 (lim Y 1), .int .u64 (lim Y 2), .int .u64 (lim Y 3)]) (by rfl) Try.underlying24 rfl dx_s0 ?_))
        refine (HC.out _).mono ?_
        rintro e w5 ⟨rfl, hbc⟩
        replace HB := hide (HB.out.trans (hbc.mono HB.out.size))
        replace Hb10 := hide (Hb10.out.below hbc Hb10.out.lt)
        clear hbc
        go_wp2_with (first | (refine n_loads (by rfl) (T := 24) (x := (.tmp 61)) rfl (g := wr.heap.size) (o := 0) rfl Hb10.out (ds := #[.int .u64 (lim X 0), .int .u64 (lim X 1), .int .u64 (lim X 2), .int .u64 (lim X 3)]) (by rfl) Try.underlying24 rfl dx_s0 ?_) | (refine n_loads (by rfl) (T := 24) (x := (.tmp 63)) rfl (g := wr.heap.size) (o := 4) rfl Hb10.out (ds := #[.int .u64 (lim Y 0), .int .u64 (lim Y 1), .int .u64 (lim Y 2), .int .u64 (lim Y 3)]) (by rfl) Try.underlying24 rfl dx_s0 ?_))
        go_roundw
        case rel => exact ⟨K + 1, by omega, by go_num, HB⟩
        case measure => simp [intOf]; omega
    · obtain rfl : K = 2 := by omega
      go_wp2_with fail
      refine (awake4_c _).mono ?_
      rintro e w3 ⟨rfl, hbc⟩
      replace HB := hide (HB.out.trans (hbc.mono HB.out.size))
      clear hbc
      go_wp2_with fail
      go_ret
      exact ⟨rfl, HB.out⟩
theorem DecimalOrder_walk (a0 a1 a2 a3 b0 b1 b2 b3 c d : Int) (w0 : (Lit.int .u64 a0).wf = true) (w1 : (Lit.int .u64 a1).wf = true) (w2 : (Lit.int .u64 a2).wf = true) (w3 : (Lit.int .u64 a3).wf = true) (v0 : (Lit.int .u64 b0).wf = true) (v1 : (Lit.int .u64 b1).wf = true) (v2 : (Lit.int .u64 b2).wf = true) (v3 : (Lit.int .u64 b3).wf = true) (wc : (Lit.int .u64 c).wf = true) (wd : (Lit.int .u64 d).wf = true) (w : World) :
    Calls Try.prog 7 #[.agg #[.int .u64 a0, .int .u64 a1, .int .u64 a2, .int .u64 a3], .agg #[.int .u64 b0, .int .u64 b1, .int .u64 b2, .int .u64 b3], .int .u64 c, .int .u64 d] w fun e w' => e = .returned (.bool true) ∧ Below w.heap.size w w' := by
  obtain ⟨A, hA, rfl, rfl, rfl, rfl⟩ := isU_wf w0 w1 w2 w3
  obtain ⟨B, hB, rfl, rfl, rfl, rfl⟩ := isU_wf v0 v1 v2 v3
  obtain ⟨p, q⟩ := bounds_u64 wc
  obtain ⟨r, s⟩ := bounds_u64 wd
  exact Order4_in hA hB p (by omega) r (by omega) w
end Go.Proofs.Ythikkajjnfeigaa
