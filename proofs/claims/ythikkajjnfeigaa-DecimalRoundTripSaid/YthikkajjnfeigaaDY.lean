/- chapter 4: DecimalRoundTrip, walked. -/
import Derived.WalkKit
import Derived.KernelRfl
import Derived.RowKit3
import Derived.Deep.LoopGhost
import Derived.Deep.QuietTactic
import Derived.BigQuiet
import Derived.WideLaws
import Derived.Laws.Rows
import Derived.Below
import Derived.Deep.Draws
import Derived.Outline
import Derived.LoopN
import Derived.Handy
import Derived.Laws.Externs
import Derived.Laws.BitsAllLaws
import Derived.Laws.BitsLemmas
import Derived.Deep.DeepCutAuto
import Derived.Deep.CutBlock
import Derived.Deep.RegionHeld3
import Derived.Test.YthikkajjnfeigaaDX
namespace Go.Proofs.Ythikkajjnfeigaa
open Go.RowKit
set_option linter.unusedVariables false
set_option linter.unusedSimpArgs false
theorem rt_dec {A : Nat} (hA : A < M256) : prV (decL A) = A ∧ prE (decL A) = 0 := by
  have hd := Nat.lt_trans hA m256_78
  have hc := canB_iff.2 (decL_canon hd)
  have hp := pv_dec hd
  unfold prV prE
  rw [hp, hc]
  simp [hA]
theorem neg_dec {A : Nat} (hA : A < M256) : negB (decL A) = false := by
  have hd := (decL_canon (Nat.lt_trans hA m256_78)).dig
  cases hl : decL A with
  | nil => simp [negB]
  | cons c l =>
    have := hd c (by rw [hl]; simp)
    have hne : c ≠ 45 := by
      rintro rfl
      exact absurd this.1 (by decide)
    simp [negB, hne]
theorem rt_ways (b : Bool) {B : Nat} (hB : B < M256) : (b = true ∧ B = 0 ∧ piB (fiS b B) = false ∧ piV (fiS b B) = 0 ∧ piE (fiS b B) = 3) ∨ (b = true ∧ B ≠ 0 ∧ piB (fiS b B) = true ∧ piV (fiS b B) = B ∧ piE (fiS b B) = 0) ∨ (b = false ∧ piB (fiS b B) = false ∧ piV (fiS b B) = B ∧ piE (fiS b B) = 0) := by
  obtain ⟨d1, d2⟩ := rt_dec hB
  rcases fi_ways (A := B) b with ⟨hb, h, e⟩ | ⟨hb, h, e⟩ | ⟨hb, e⟩
  · left
    rw [e]
    exact ⟨hb, h, by decide, by decide, by decide⟩
  · right; left
    rw [e]
    have hn : negB (45 :: decL B) = true := by simp [negB]
    have hr : restL (45 :: decL B) = decL B := by unfold restL; rw [if_pos hn]; rfl
    have hp := pi_ways (45 :: decL B)
    rw [hr, hn, d1, d2] at hp
    rcases hp with ⟨h1, _⟩ | ⟨_, h2, _⟩ | ⟨_, _, p, q, r⟩
    · exact absurd rfl h1
    · exact absurd (of_decide_eq_true (iok_zero h2)) h
    · exact ⟨hb, h, p, q, r⟩
  · right; right
    rw [e]
    have hn := neg_dec hB
    have hr : restL (decL B) = decL B := by unfold restL; rw [if_neg (by rw [hn]; decide)]
    have hp := pi_ways (decL B)
    rw [hr, hn, d1, d2] at hp
    rcases hp with ⟨h1, _⟩ | ⟨_, h2, _⟩ | ⟨_, _, p, q, r⟩
    · exact absurd rfl h1
    · simp [iok] at h2
    · exact ⟨hb, p, q, r⟩
theorem prE_ways (l : List UInt8) : prE l = 0 ∨ prE l = 3 ∨ prE l = 4 := by
  unfold prE
  split
  · split
    · exact .inl rfl
    · exact .inr (.inr rfl)
  · exact .inr (.inl rfl)
theorem rt_str {s : ByteArray} (h : prE s.data.toList = 0) : (⟨(decL (prV s.data.toList)).toArray⟩ : ByteArray) = s := by
  have hc : canB s.data.toList = true := by
    cases hc : canB s.data.toList
    · rw [prE, if_neg (by rw [hc]; decide)] at h
      exact absurd h (by decide)
    · rfl
  have hp : pv s.data.toList 0 < M256 := by
    rcases Nat.lt_or_ge (pv s.data.toList 0) M256 with k | k
    · exact k
    · rw [prE, if_pos hc, if_neg (by omega)] at h
      exact absurd h (by decide)
  have hl : s.data.toList.length ≤ 78 := by
    rcases Nat.lt_or_ge 78 s.data.toList.length with k | k
    · have := (pr_long hc k).2
      rw [h] at this
      exact absurd this (by decide)
    · exact k
  have e : prV s.data.toList = pv s.data.toList 0 := if_pos ⟨hc, hp⟩
  rw [e, dec_pv (canB_iff.1 hc) hl, Array.toArray_toList]
theorem dy_s0 : (Try.prog.info? 24).map (·.size) = some 4 := by kernel_rfl
theorem dy_z1 : (Try.prog.info? 24).map (fun i => (i.zero, i.size)) = some (some (.agg #[.int .u64 0, .int .u64 0, .int .u64 0, .int .u64 0]), 4) := by kernel_rfl
theorem dy_s2 : (Try.prog.info? 33).map (·.size) = some 5 := by kernel_rfl
theorem dy_z3 : (Try.prog.info? 33).map (fun i => (i.zero, i.size)) = some (some (.agg #[.bool false, .int .u64 0, .int .u64 0, .int .u64 0, .int .u64 0]), 5) := by kernel_rfl
set_option maxRecDepth 20000 in
set_option maxHeartbeats 64000000 in
theorem RoundTrip_in {A B : Nat} (hA : A < M256) (hB : B < M256) (b : Bool) (s : ByteArray) (w : World) :
    Calls Try.prog 6 #[.agg #[.int .u64 (lim A 0), .int .u64 (lim A 1), .int .u64 (lim A 2), .int .u64 (lim A 3)], .agg #[.bool b, .int .u64 (lim B 0), .int .u64 (lim B 1), .int .u64 (lim B 2), .int .u64 (lim B 3)], .string s] w fun e w' => e = .returned (.bool true) ∧ Below w.heap.size w w' := by
  by_cases h100 : 100 < s.size
  · clear hA hB
    go_enter Try.func6, Try.ntmps6
    go_wp2_with (first | (refine n_box (by rfl) (T := 24) (x := (.tmp 0)) rfl (v := .agg (#[.int .u64 (lim A 0), .int .u64 (lim A 1), .int .u64 (lim A 2), .int .u64 (lim A 3)])) rfl (ds := #[.int .u64 (lim A 0), .int .u64 (lim A 1), .int .u64 (lim A 2), .int .u64 (lim A 3)]) rfl ?_; intro w1 Hb3 hbn; have HB := hide hbn; clear hbn; replace Hb3 := hide Hb3) | (refine n_box (by rfl) (T := 33) (x := (.tmp 1)) rfl (v := .agg (#[.bool b, .int .u64 (lim B 0), .int .u64 (lim B 1), .int .u64 (lim B 2), .int .u64 (lim B 3)])) rfl (ds := #[.bool b, .int .u64 (lim B 0), .int .u64 (lim B 1), .int .u64 (lim B 2), .int .u64 (lim B 3)]) rfl ?_; intro w2 Hb4 hbn; have hsz_w1 := HB.out.size; have lt_b3_b4 := Hb3.out.lt; replace HB := hide (HB.out.trans (hbn.mono HB.out.size)); replace Hb3 := hide (Hb3.out.below hbn Hb3.out.lt); clear hbn; replace Hb4 := hide Hb4))
    refine (awake4_c _).mono ?_
    rintro e w3 ⟨rfl, hbc⟩
    replace HB := hide (HB.out.trans (hbc.mono HB.out.size))
    replace Hb3 := hide (Hb3.out.below hbc Hb3.out.lt)
    replace Hb4 := hide (Hb4.out.below hbc Hb4.out.lt)
    clear hbc
    go_wp2_with fail
    go_ret
    exact ⟨rfl, HB.out⟩
  have h100' : (s.size : Int) ≤ 100 := by omega
  have hs : s.size ≤ 100 := by omega
  clear h100
  have F1 := fun w => format_c hA w
  have P1 := fun w => parse_c ⟨(decL A).toArray⟩ (by have := (decL_len (Nat.lt_trans hA m256_78)).2; simp [ByteArray.size]; omega) w
  rw [show (⟨(decL A).toArray⟩ : ByteArray).data.toList = decL A from rfl, (rt_dec hA).1, (rt_dec hA).2] at P1
  have F2 := fun w => fint_c hB b w
  have hfl : (fiS b B).length ≤ 79 := by
    have hdl := (decL_len (Nat.lt_trans hB m256_78)).2
    rcases fi_ways (A := B) b with ⟨_, _, e⟩ | ⟨_, _, e⟩ | ⟨_, e⟩
    · rw [e]; simp
    · rw [e]; simp; omega
    · rw [e]; omega
  have P2 := fun w => pint_c ⟨(fiS b B).toArray⟩ (by simp [ByteArray.size]; omega) w
  rw [show (⟨(fiS b B).toArray⟩ : ByteArray).data.toList = fiS b B from rfl] at P2
  have hw := rt_ways b hB
  have P3 := fun w => parse_c s (by omega) w
  have F3 := fun w => format_c (prV_lt s.data.toList) w
  have hE := prE_ways s.data.toList
  have hS := @rt_str s
  obtain ⟨sa, ea⟩ : ∃ x : ByteArray, ⟨(decL A).toArray⟩ = x := ⟨_, rfl⟩
  obtain ⟨sb, eb⟩ : ∃ x : ByteArray, ⟨(fiS b B).toArray⟩ = x := ⟨_, rfl⟩
  obtain ⟨Z, eZ⟩ : ∃ Z, prV s.data.toList = Z := ⟨_, rfl⟩
  rw [ea] at F1 P1
  rw [eb] at F2 P2
  rw [eZ] at P3 F3 hS
  have hz := lim_test hB (B := 0) (by decide)
  simp only [lim_zero] at hz
  replace F1 := hide F1
  replace P1 := hide P1
  replace F2 := hide F2
  clear ea eb eZ hfl hs hA hB
  rcases hw with ⟨rfl, rfl, q1, q2, q3⟩ | ⟨rfl, q0, q1, q2, q3⟩ | ⟨rfl, q1, q2, q3⟩
  · rw [q1, q2, q3] at P2
    replace F2 := F2.out
    simp only [lim_zero] at P2 F2 ⊢
    replace F2 := hide F2
    replace P2 := hide P2
    clear q1 q2 q3 hz P3 F3 hE hS
    go_enter Try.func6, Try.ntmps6
    go_wp2_with (first | (refine n_box (by rfl) (T := 24) (x := (.tmp 0)) rfl (v := .agg (#[.int .u64 (lim A 0), .int .u64 (lim A 1), .int .u64 (lim A 2), .int .u64 (lim A 3)])) rfl (ds := #[.int .u64 (lim A 0), .int .u64 (lim A 1), .int .u64 (lim A 2), .int .u64 (lim A 3)]) rfl ?_; intro w1 Hb3 hbn; have HB := hide hbn; clear hbn; replace Hb3 := hide Hb3) | (refine n_box (by rfl) (T := 33) (x := (.tmp 1)) rfl (v := .agg (#[.bool true, .int .u64 0, .int .u64 0, .int .u64 0, .int .u64 0])) rfl (ds := #[.bool true, .int .u64 0, .int .u64 0, .int .u64 0, .int .u64 0]) rfl ?_; intro w2 Hb4 hbn; have hsz_w1 := HB.out.size; have lt_b3_b4 := Hb3.out.lt; replace HB := hide (HB.out.trans (hbn.mono HB.out.size)); replace Hb3 := hide (Hb3.out.below hbn Hb3.out.lt); clear hbn; replace Hb4 := hide Hb4) | (refine n_loadw (by rfl) (T := 24) (x := (.tmp 3)) rfl (g := w.heap.size) rfl Hb3.out Try.underlying24 rfl dy_s0 ?_))
    refine (F1.out _).mono ?_
    rintro e w3 ⟨rfl, hbc⟩
    replace HB := hide (HB.out.trans (hbc.mono HB.out.size))
    replace Hb3 := hide (Hb3.out.below hbc Hb3.out.lt)
    replace Hb4 := hide (Hb4.out.below hbc Hb4.out.lt)
    clear hbc
    go_wp2_with fail
    refine (P1.out _).mono ?_
    rintro e w4 ⟨rfl, hbc⟩
    replace HB := hide (HB.out.trans (hbc.mono HB.out.size))
    replace Hb3 := hide (Hb3.out.below hbc Hb3.out.lt)
    replace Hb4 := hide (Hb4.out.below hbc Hb4.out.lt)
    clear hbc
    go_wp2_with (first | (refine n_alloc (by rfl) (T := 24) rfl dy_z1 (ds := #[.int .u64 0, .int .u64 0, .int .u64 0, .int .u64 0]) rfl ?_; intro w5 Hb7 hbn; have hsz_w4 := HB.out.size; have lt_b3_b7 := Hb3.out.lt; have lt_b4_b7 := Hb4.out.lt; replace HB := hide (HB.out.trans (hbn.mono HB.out.size)); replace Hb3 := hide (Hb3.out.below hbn Hb3.out.lt); replace Hb4 := hide (Hb4.out.below hbn Hb4.out.lt); clear hbn; replace Hb7 := hide Hb7) | (refine n_storew (by rfl) (T := 24) (x := (.tmp 7)) (y := (.tmp 21)) rfl (g := w4.heap.size) rfl (vs := #[.int .u64 (lim A 0), .int .u64 (lim A 1), .int .u64 (lim A 2), .int .u64 (lim A 3)]) rfl (by first | (simp [Value.oneCell']; done)) Hb7.out rfl dy_s0 ?_; clear Hb7; intro w6 Hb7 hun; replace Hb7 := hide Hb7; replace HB := hide (hun.keep w.heap.size w (by omega) HB.out); replace Hb3 := hide (Hb3.out.upd hun (by omega)); replace Hb4 := hide (Hb4.out.upd hun (by omega)); clear hun) | (refine n_loadw (by rfl) (T := 24) (x := (.tmp 7)) rfl (g := w4.heap.size) rfl Hb7.out Try.underlying24 rfl dy_s0 ?_) | (refine n_loadw (by rfl) (T := 24) (x := (.tmp 3)) rfl (g := w.heap.size) rfl Hb3.out Try.underlying24 rfl dy_s0 ?_) | (refine n_loadw (by rfl) (T := 33) (x := (.tmp 4)) rfl (g := w1.heap.size) rfl Hb4.out Try.underlying33 rfl dy_s2 ?_))
    refine (F2.out _).mono ?_
    rintro e w7 ⟨rfl, hbc⟩
    replace HB := hide (HB.out.trans (hbc.mono HB.out.size))
    replace Hb3 := hide (Hb3.out.below hbc Hb3.out.lt)
    replace Hb4 := hide (Hb4.out.below hbc Hb4.out.lt)
    replace Hb7 := hide (Hb7.out.below hbc Hb7.out.lt)
    clear hbc
    go_wp2_with fail
    refine (P2.out _).mono ?_
    rintro e w8 ⟨rfl, hbc⟩
    replace HB := hide (HB.out.trans (hbc.mono HB.out.size))
    replace Hb3 := hide (Hb3.out.below hbc Hb3.out.lt)
    replace Hb4 := hide (Hb4.out.below hbc Hb4.out.lt)
    replace Hb7 := hide (Hb7.out.below hbc Hb7.out.lt)
    clear hbc
    go_wp2_with (first | (refine n_alloc (by rfl) (T := 33) rfl dy_z3 (ds := #[.bool false, .int .u64 0, .int .u64 0, .int .u64 0, .int .u64 0]) rfl ?_; intro w9 Hb9 hbn; have hsz_w8 := HB.out.size; have lt_b3_b9 := Hb3.out.lt; have lt_b4_b9 := Hb4.out.lt; have lt_b7_b9 := Hb7.out.lt; replace HB := hide (HB.out.trans (hbn.mono HB.out.size)); replace Hb3 := hide (Hb3.out.below hbn Hb3.out.lt); replace Hb4 := hide (Hb4.out.below hbn Hb4.out.lt); replace Hb7 := hide (Hb7.out.below hbn Hb7.out.lt); clear hbn; replace Hb9 := hide Hb9) | (refine n_storew (by rfl) (T := 33) (x := (.tmp 9)) (y := (.tmp 34)) rfl (g := w8.heap.size) rfl (vs := #[.bool false, .int .u64 0, .int .u64 0, .int .u64 0, .int .u64 0]) rfl (by first | (simp [Value.oneCell']; done)) Hb9.out rfl dy_s2 ?_; clear Hb9; intro w10 Hb9 hun; replace Hb9 := hide Hb9; replace HB := hide (hun.keep w.heap.size w (by omega) HB.out); replace Hb3 := hide (Hb3.out.upd hun (by omega)); replace Hb4 := hide (Hb4.out.upd hun (by omega)); replace Hb7 := hide (Hb7.out.upd hun (by omega)); clear hun) | (refine n_load (by rfl) (T := 4) (x := (.tmp 36)) rfl (g := w1.heap.size) (o := 0) rfl Hb4.out (v := .bool true) (by rfl) Try.underlying4 rfl ?_) | (refine n_loads (by rfl) (T := 24) (x := (.tmp 39)) rfl (g := w1.heap.size) (o := 1) rfl Hb4.out (ds := #[.int .u64 0, .int .u64 0, .int .u64 0, .int .u64 0]) (by rfl) Try.underlying24 rfl dy_s0 ?_))
    refine (awake4_c _).mono ?_
    rintro e w11 ⟨rfl, hbc⟩
    replace HB := hide (HB.out.trans (hbc.mono HB.out.size))
    replace Hb3 := hide (Hb3.out.below hbc Hb3.out.lt)
    replace Hb4 := hide (Hb4.out.below hbc Hb4.out.lt)
    replace Hb7 := hide (Hb7.out.below hbc Hb7.out.lt)
    replace Hb9 := hide (Hb9.out.below hbc Hb9.out.lt)
    clear hbc
    go_wp2_with fail
    go_ret
    exact ⟨rfl, HB.out⟩
  · rw [q1, q2, q3] at P2
    replace P2 := hide P2
    have hq := eqI_law true (lim B 0) (lim B 1) (lim B 2) (lim B 3)
    simp only [q0, decide_false] at hz
    clear q0 q1 q2 q3
    rcases hE with hE | hE | hE
    · rw [hE] at P3
      rw [hS hE] at F3
      replace P3 := hide P3
      replace F3 := hide F3
      clear hE hS
      go_enter Try.func6, Try.ntmps6
      go_wp2_with (first | (refine n_box (by rfl) (T := 24) (x := (.tmp 0)) rfl (v := .agg (#[.int .u64 (lim A 0), .int .u64 (lim A 1), .int .u64 (lim A 2), .int .u64 (lim A 3)])) rfl (ds := #[.int .u64 (lim A 0), .int .u64 (lim A 1), .int .u64 (lim A 2), .int .u64 (lim A 3)]) rfl ?_; intro w1 Hb3 hbn; have HB := hide hbn; clear hbn; replace Hb3 := hide Hb3) | (refine n_box (by rfl) (T := 33) (x := (.tmp 1)) rfl (v := .agg (#[.bool true, .int .u64 (lim B 0), .int .u64 (lim B 1), .int .u64 (lim B 2), .int .u64 (lim B 3)])) rfl (ds := #[.bool true, .int .u64 (lim B 0), .int .u64 (lim B 1), .int .u64 (lim B 2), .int .u64 (lim B 3)]) rfl ?_; intro w2 Hb4 hbn; have hsz_w1 := HB.out.size; have lt_b3_b4 := Hb3.out.lt; replace HB := hide (HB.out.trans (hbn.mono HB.out.size)); replace Hb3 := hide (Hb3.out.below hbn Hb3.out.lt); clear hbn; replace Hb4 := hide Hb4) | (refine n_loadw (by rfl) (T := 24) (x := (.tmp 3)) rfl (g := w.heap.size) rfl Hb3.out Try.underlying24 rfl dy_s0 ?_))
      refine (F1.out _).mono ?_
      rintro e w3 ⟨rfl, hbc⟩
      replace HB := hide (HB.out.trans (hbc.mono HB.out.size))
      replace Hb3 := hide (Hb3.out.below hbc Hb3.out.lt)
      replace Hb4 := hide (Hb4.out.below hbc Hb4.out.lt)
      clear hbc
      go_wp2_with fail
      refine (P1.out _).mono ?_
      rintro e w4 ⟨rfl, hbc⟩
      replace HB := hide (HB.out.trans (hbc.mono HB.out.size))
      replace Hb3 := hide (Hb3.out.below hbc Hb3.out.lt)
      replace Hb4 := hide (Hb4.out.below hbc Hb4.out.lt)
      clear hbc
      go_wp2_with (first | (refine n_alloc (by rfl) (T := 24) rfl dy_z1 (ds := #[.int .u64 0, .int .u64 0, .int .u64 0, .int .u64 0]) rfl ?_; intro w5 Hb7 hbn; have hsz_w4 := HB.out.size; have lt_b3_b7 := Hb3.out.lt; have lt_b4_b7 := Hb4.out.lt; replace HB := hide (HB.out.trans (hbn.mono HB.out.size)); replace Hb3 := hide (Hb3.out.below hbn Hb3.out.lt); replace Hb4 := hide (Hb4.out.below hbn Hb4.out.lt); clear hbn; replace Hb7 := hide Hb7) | (refine n_storew (by rfl) (T := 24) (x := (.tmp 7)) (y := (.tmp 21)) rfl (g := w4.heap.size) rfl (vs := #[.int .u64 (lim A 0), .int .u64 (lim A 1), .int .u64 (lim A 2), .int .u64 (lim A 3)]) rfl (by first | (simp [Value.oneCell']; done)) Hb7.out rfl dy_s0 ?_; clear Hb7; intro w6 Hb7 hun; replace Hb7 := hide Hb7; replace HB := hide (hun.keep w.heap.size w (by omega) HB.out); replace Hb3 := hide (Hb3.out.upd hun (by omega)); replace Hb4 := hide (Hb4.out.upd hun (by omega)); clear hun) | (refine n_loadw (by rfl) (T := 24) (x := (.tmp 7)) rfl (g := w4.heap.size) rfl Hb7.out Try.underlying24 rfl dy_s0 ?_) | (refine n_loadw (by rfl) (T := 24) (x := (.tmp 3)) rfl (g := w.heap.size) rfl Hb3.out Try.underlying24 rfl dy_s0 ?_) | (refine n_loadw (by rfl) (T := 33) (x := (.tmp 4)) rfl (g := w1.heap.size) rfl Hb4.out Try.underlying33 rfl dy_s2 ?_))
      refine (F2.out _).mono ?_
      rintro e w7 ⟨rfl, hbc⟩
      replace HB := hide (HB.out.trans (hbc.mono HB.out.size))
      replace Hb3 := hide (Hb3.out.below hbc Hb3.out.lt)
      replace Hb4 := hide (Hb4.out.below hbc Hb4.out.lt)
      replace Hb7 := hide (Hb7.out.below hbc Hb7.out.lt)
      clear hbc
      go_wp2_with fail
      refine (P2.out _).mono ?_
      rintro e w8 ⟨rfl, hbc⟩
      replace HB := hide (HB.out.trans (hbc.mono HB.out.size))
      replace Hb3 := hide (Hb3.out.below hbc Hb3.out.lt)
      replace Hb4 := hide (Hb4.out.below hbc Hb4.out.lt)
      replace Hb7 := hide (Hb7.out.below hbc Hb7.out.lt)
      clear hbc
      go_wp2_with (first | (refine n_alloc (by rfl) (T := 33) rfl dy_z3 (ds := #[.bool false, .int .u64 0, .int .u64 0, .int .u64 0, .int .u64 0]) rfl ?_; intro w9 Hb9 hbn; have hsz_w8 := HB.out.size; have lt_b3_b9 := Hb3.out.lt; have lt_b4_b9 := Hb4.out.lt; have lt_b7_b9 := Hb7.out.lt; replace HB := hide (HB.out.trans (hbn.mono HB.out.size)); replace Hb3 := hide (Hb3.out.below hbn Hb3.out.lt); replace Hb4 := hide (Hb4.out.below hbn Hb4.out.lt); replace Hb7 := hide (Hb7.out.below hbn Hb7.out.lt); clear hbn; replace Hb9 := hide Hb9) | (refine n_storew (by rfl) (T := 33) (x := (.tmp 9)) (y := (.tmp 34)) rfl (g := w8.heap.size) rfl (vs := #[.bool true, .int .u64 (lim B 0), .int .u64 (lim B 1), .int .u64 (lim B 2), .int .u64 (lim B 3)]) rfl (by first | (simp [Value.oneCell']; done)) Hb9.out rfl dy_s2 ?_; clear Hb9; intro w10 Hb9 hun; replace Hb9 := hide Hb9; replace HB := hide (hun.keep w.heap.size w (by omega) HB.out); replace Hb3 := hide (Hb3.out.upd hun (by omega)); replace Hb4 := hide (Hb4.out.upd hun (by omega)); replace Hb7 := hide (Hb7.out.upd hun (by omega)); clear hun) | (refine n_load (by rfl) (T := 4) (x := (.tmp 36)) rfl (g := w1.heap.size) (o := 0) rfl Hb4.out (v := .bool true) (by rfl) Try.underlying4 rfl ?_) | (refine n_loads (by rfl) (T := 24) (x := (.tmp 39)) rfl (g := w1.heap.size) (o := 1) rfl Hb4.out (ds := #[.int .u64 (lim B 0), .int .u64 (lim B 1), .int .u64 (lim B 2), .int .u64 (lim B 3)]) (by rfl) Try.underlying24 rfl dy_s0 ?_))
      refine (P3.out _).mono ?_
      rintro e w11 ⟨rfl, hbc⟩
      replace HB := hide (HB.out.trans (hbc.mono HB.out.size))
      replace Hb3 := hide (Hb3.out.below hbc Hb3.out.lt)
      replace Hb4 := hide (Hb4.out.below hbc Hb4.out.lt)
      replace Hb7 := hide (Hb7.out.below hbc Hb7.out.lt)
      replace Hb9 := hide (Hb9.out.below hbc Hb9.out.lt)
      clear hbc
      go_wp2_with (first | (refine n_alloc (by rfl) (T := 24) rfl dy_z1 (ds := #[.int .u64 0, .int .u64 0, .int .u64 0, .int .u64 0]) rfl ?_; intro w12 Hb11 hbn; have hsz_w11 := HB.out.size; have lt_b3_b11 := Hb3.out.lt; have lt_b4_b11 := Hb4.out.lt; have lt_b7_b11 := Hb7.out.lt; have lt_b9_b11 := Hb9.out.lt; replace HB := hide (HB.out.trans (hbn.mono HB.out.size)); replace Hb3 := hide (Hb3.out.below hbn Hb3.out.lt); replace Hb4 := hide (Hb4.out.below hbn Hb4.out.lt); replace Hb7 := hide (Hb7.out.below hbn Hb7.out.lt); replace Hb9 := hide (Hb9.out.below hbn Hb9.out.lt); clear hbn; replace Hb11 := hide Hb11) | (refine n_storew (by rfl) (T := 24) (x := (.tmp 11)) (y := (.tmp 52)) rfl (g := w11.heap.size) rfl (vs := #[.int .u64 (lim Z 0), .int .u64 (lim Z 1), .int .u64 (lim Z 2), .int .u64 (lim Z 3)]) rfl (by first | (simp [Value.oneCell']; done)) Hb11.out rfl dy_s0 ?_; clear Hb11; intro w13 Hb11 hun; replace Hb11 := hide Hb11; replace HB := hide (hun.keep w.heap.size w (by omega) HB.out); replace Hb3 := hide (Hb3.out.upd hun (by omega)); replace Hb4 := hide (Hb4.out.upd hun (by omega)); replace Hb7 := hide (Hb7.out.upd hun (by omega)); replace Hb9 := hide (Hb9.out.upd hun (by omega)); clear hun) | (refine n_loadw (by rfl) (T := 33) (x := (.tmp 9)) rfl (g := w8.heap.size) rfl Hb9.out Try.underlying33 rfl dy_s2 ?_) | (refine n_loadw (by rfl) (T := 33) (x := (.tmp 4)) rfl (g := w1.heap.size) rfl Hb4.out Try.underlying33 rfl dy_s2 ?_) | (refine n_loadw (by rfl) (T := 24) (x := (.tmp 11)) rfl (g := w11.heap.size) rfl Hb11.out Try.underlying24 rfl dy_s0 ?_))
      refine (F3.out _).mono ?_
      rintro e w14 ⟨rfl, hbc⟩
      replace HB := hide (HB.out.trans (hbc.mono HB.out.size))
      replace Hb3 := hide (Hb3.out.below hbc Hb3.out.lt)
      replace Hb4 := hide (Hb4.out.below hbc Hb4.out.lt)
      replace Hb7 := hide (Hb7.out.below hbc Hb7.out.lt)
      replace Hb9 := hide (Hb9.out.below hbc Hb9.out.lt)
      replace Hb11 := hide (Hb11.out.below hbc Hb11.out.lt)
      clear hbc
      go_wp2_with fail
      refine (awake4_c _).mono ?_
      rintro e w15 ⟨rfl, hbc⟩
      replace HB := hide (HB.out.trans (hbc.mono HB.out.size))
      replace Hb3 := hide (Hb3.out.below hbc Hb3.out.lt)
      replace Hb4 := hide (Hb4.out.below hbc Hb4.out.lt)
      replace Hb7 := hide (Hb7.out.below hbc Hb7.out.lt)
      replace Hb9 := hide (Hb9.out.below hbc Hb9.out.lt)
      replace Hb11 := hide (Hb11.out.below hbc Hb11.out.lt)
      clear hbc
      go_wp2_with fail
      go_ret
      exact ⟨rfl, HB.out⟩
    · rw [hE] at P3
      replace P3 := hide P3
      clear hE hS F3
      go_enter Try.func6, Try.ntmps6
      go_wp2_with (first | (refine n_box (by rfl) (T := 24) (x := (.tmp 0)) rfl (v := .agg (#[.int .u64 (lim A 0), .int .u64 (lim A 1), .int .u64 (lim A 2), .int .u64 (lim A 3)])) rfl (ds := #[.int .u64 (lim A 0), .int .u64 (lim A 1), .int .u64 (lim A 2), .int .u64 (lim A 3)]) rfl ?_; intro w1 Hb3 hbn; have HB := hide hbn; clear hbn; replace Hb3 := hide Hb3) | (refine n_box (by rfl) (T := 33) (x := (.tmp 1)) rfl (v := .agg (#[.bool true, .int .u64 (lim B 0), .int .u64 (lim B 1), .int .u64 (lim B 2), .int .u64 (lim B 3)])) rfl (ds := #[.bool true, .int .u64 (lim B 0), .int .u64 (lim B 1), .int .u64 (lim B 2), .int .u64 (lim B 3)]) rfl ?_; intro w2 Hb4 hbn; have hsz_w1 := HB.out.size; have lt_b3_b4 := Hb3.out.lt; replace HB := hide (HB.out.trans (hbn.mono HB.out.size)); replace Hb3 := hide (Hb3.out.below hbn Hb3.out.lt); clear hbn; replace Hb4 := hide Hb4) | (refine n_loadw (by rfl) (T := 24) (x := (.tmp 3)) rfl (g := w.heap.size) rfl Hb3.out Try.underlying24 rfl dy_s0 ?_))
      refine (F1.out _).mono ?_
      rintro e w3 ⟨rfl, hbc⟩
      replace HB := hide (HB.out.trans (hbc.mono HB.out.size))
      replace Hb3 := hide (Hb3.out.below hbc Hb3.out.lt)
      replace Hb4 := hide (Hb4.out.below hbc Hb4.out.lt)
      clear hbc
      go_wp2_with fail
      refine (P1.out _).mono ?_
      rintro e w4 ⟨rfl, hbc⟩
      replace HB := hide (HB.out.trans (hbc.mono HB.out.size))
      replace Hb3 := hide (Hb3.out.below hbc Hb3.out.lt)
      replace Hb4 := hide (Hb4.out.below hbc Hb4.out.lt)
      clear hbc
      go_wp2_with (first | (refine n_alloc (by rfl) (T := 24) rfl dy_z1 (ds := #[.int .u64 0, .int .u64 0, .int .u64 0, .int .u64 0]) rfl ?_; intro w5 Hb7 hbn; have hsz_w4 := HB.out.size; have lt_b3_b7 := Hb3.out.lt; have lt_b4_b7 := Hb4.out.lt; replace HB := hide (HB.out.trans (hbn.mono HB.out.size)); replace Hb3 := hide (Hb3.out.below hbn Hb3.out.lt); replace Hb4 := hide (Hb4.out.below hbn Hb4.out.lt); clear hbn; replace Hb7 := hide Hb7) | (refine n_storew (by rfl) (T := 24) (x := (.tmp 7)) (y := (.tmp 21)) rfl (g := w4.heap.size) rfl (vs := #[.int .u64 (lim A 0), .int .u64 (lim A 1), .int .u64 (lim A 2), .int .u64 (lim A 3)]) rfl (by first | (simp [Value.oneCell']; done)) Hb7.out rfl dy_s0 ?_; clear Hb7; intro w6 Hb7 hun; replace Hb7 := hide Hb7; replace HB := hide (hun.keep w.heap.size w (by omega) HB.out); replace Hb3 := hide (Hb3.out.upd hun (by omega)); replace Hb4 := hide (Hb4.out.upd hun (by omega)); clear hun) | (refine n_loadw (by rfl) (T := 24) (x := (.tmp 7)) rfl (g := w4.heap.size) rfl Hb7.out Try.underlying24 rfl dy_s0 ?_) | (refine n_loadw (by rfl) (T := 24) (x := (.tmp 3)) rfl (g := w.heap.size) rfl Hb3.out Try.underlying24 rfl dy_s0 ?_) | (refine n_loadw (by rfl) (T := 33) (x := (.tmp 4)) rfl (g := w1.heap.size) rfl Hb4.out Try.underlying33 rfl dy_s2 ?_))
      refine (F2.out _).mono ?_
      rintro e w7 ⟨rfl, hbc⟩
      replace HB := hide (HB.out.trans (hbc.mono HB.out.size))
      replace Hb3 := hide (Hb3.out.below hbc Hb3.out.lt)
      replace Hb4 := hide (Hb4.out.below hbc Hb4.out.lt)
      replace Hb7 := hide (Hb7.out.below hbc Hb7.out.lt)
      clear hbc
      go_wp2_with fail
      refine (P2.out _).mono ?_
      rintro e w8 ⟨rfl, hbc⟩
      replace HB := hide (HB.out.trans (hbc.mono HB.out.size))
      replace Hb3 := hide (Hb3.out.below hbc Hb3.out.lt)
      replace Hb4 := hide (Hb4.out.below hbc Hb4.out.lt)
      replace Hb7 := hide (Hb7.out.below hbc Hb7.out.lt)
      clear hbc
      go_wp2_with (first | (refine n_alloc (by rfl) (T := 33) rfl dy_z3 (ds := #[.bool false, .int .u64 0, .int .u64 0, .int .u64 0, .int .u64 0]) rfl ?_; intro w9 Hb9 hbn; have hsz_w8 := HB.out.size; have lt_b3_b9 := Hb3.out.lt; have lt_b4_b9 := Hb4.out.lt; have lt_b7_b9 := Hb7.out.lt; replace HB := hide (HB.out.trans (hbn.mono HB.out.size)); replace Hb3 := hide (Hb3.out.below hbn Hb3.out.lt); replace Hb4 := hide (Hb4.out.below hbn Hb4.out.lt); replace Hb7 := hide (Hb7.out.below hbn Hb7.out.lt); clear hbn; replace Hb9 := hide Hb9) | (refine n_storew (by rfl) (T := 33) (x := (.tmp 9)) (y := (.tmp 34)) rfl (g := w8.heap.size) rfl (vs := #[.bool true, .int .u64 (lim B 0), .int .u64 (lim B 1), .int .u64 (lim B 2), .int .u64 (lim B 3)]) rfl (by first | (simp [Value.oneCell']; done)) Hb9.out rfl dy_s2 ?_; clear Hb9; intro w10 Hb9 hun; replace Hb9 := hide Hb9; replace HB := hide (hun.keep w.heap.size w (by omega) HB.out); replace Hb3 := hide (Hb3.out.upd hun (by omega)); replace Hb4 := hide (Hb4.out.upd hun (by omega)); replace Hb7 := hide (Hb7.out.upd hun (by omega)); clear hun) | (refine n_load (by rfl) (T := 4) (x := (.tmp 36)) rfl (g := w1.heap.size) (o := 0) rfl Hb4.out (v := .bool true) (by rfl) Try.underlying4 rfl ?_) | (refine n_loads (by rfl) (T := 24) (x := (.tmp 39)) rfl (g := w1.heap.size) (o := 1) rfl Hb4.out (ds := #[.int .u64 (lim B 0), .int .u64 (lim B 1), .int .u64 (lim B 2), .int .u64 (lim B 3)]) (by rfl) Try.underlying24 rfl dy_s0 ?_))
      refine (P3.out _).mono ?_
      rintro e w11 ⟨rfl, hbc⟩
      replace HB := hide (HB.out.trans (hbc.mono HB.out.size))
      replace Hb3 := hide (Hb3.out.below hbc Hb3.out.lt)
      replace Hb4 := hide (Hb4.out.below hbc Hb4.out.lt)
      replace Hb7 := hide (Hb7.out.below hbc Hb7.out.lt)
      replace Hb9 := hide (Hb9.out.below hbc Hb9.out.lt)
      clear hbc
      go_wp2_with (first | (refine n_alloc (by rfl) (T := 24) rfl dy_z1 (ds := #[.int .u64 0, .int .u64 0, .int .u64 0, .int .u64 0]) rfl ?_; intro w12 Hb11 hbn; have hsz_w11 := HB.out.size; have lt_b3_b11 := Hb3.out.lt; have lt_b4_b11 := Hb4.out.lt; have lt_b7_b11 := Hb7.out.lt; have lt_b9_b11 := Hb9.out.lt; replace HB := hide (HB.out.trans (hbn.mono HB.out.size)); replace Hb3 := hide (Hb3.out.below hbn Hb3.out.lt); replace Hb4 := hide (Hb4.out.below hbn Hb4.out.lt); replace Hb7 := hide (Hb7.out.below hbn Hb7.out.lt); replace Hb9 := hide (Hb9.out.below hbn Hb9.out.lt); clear hbn; replace Hb11 := hide Hb11) | (refine n_storew (by rfl) (T := 24) (x := (.tmp 11)) (y := (.tmp 52)) rfl (g := w11.heap.size) rfl (vs := #[.int .u64 (lim Z 0), .int .u64 (lim Z 1), .int .u64 (lim Z 2), .int .u64 (lim Z 3)]) rfl (by first | (simp [Value.oneCell']; done)) Hb11.out rfl dy_s0 ?_; clear Hb11; intro w13 Hb11 hun; replace Hb11 := hide Hb11; replace HB := hide (hun.keep w.heap.size w (by omega) HB.out); replace Hb3 := hide (Hb3.out.upd hun (by omega)); replace Hb4 := hide (Hb4.out.upd hun (by omega)); replace Hb7 := hide (Hb7.out.upd hun (by omega)); replace Hb9 := hide (Hb9.out.upd hun (by omega)); clear hun) | (refine n_loadw (by rfl) (T := 33) (x := (.tmp 9)) rfl (g := w8.heap.size) rfl Hb9.out Try.underlying33 rfl dy_s2 ?_) | (refine n_loadw (by rfl) (T := 33) (x := (.tmp 4)) rfl (g := w1.heap.size) rfl Hb4.out Try.underlying33 rfl dy_s2 ?_))
      refine (awake4_c _).mono ?_
      rintro e w14 ⟨rfl, hbc⟩
      replace HB := hide (HB.out.trans (hbc.mono HB.out.size))
      replace Hb3 := hide (Hb3.out.below hbc Hb3.out.lt)
      replace Hb4 := hide (Hb4.out.below hbc Hb4.out.lt)
      replace Hb7 := hide (Hb7.out.below hbc Hb7.out.lt)
      replace Hb9 := hide (Hb9.out.below hbc Hb9.out.lt)
      replace Hb11 := hide (Hb11.out.below hbc Hb11.out.lt)
      clear hbc
      go_wp2_with fail
      go_ret
      exact ⟨rfl, HB.out⟩
    · rw [hE] at P3
      replace P3 := hide P3
      clear hE hS F3
      go_enter Try.func6, Try.ntmps6
      go_wp2_with (first | (refine n_box (by rfl) (T := 24) (x := (.tmp 0)) rfl (v := .agg (#[.int .u64 (lim A 0), .int .u64 (lim A 1), .int .u64 (lim A 2), .int .u64 (lim A 3)])) rfl (ds := #[.int .u64 (lim A 0), .int .u64 (lim A 1), .int .u64 (lim A 2), .int .u64 (lim A 3)]) rfl ?_; intro w1 Hb3 hbn; have HB := hide hbn; clear hbn; replace Hb3 := hide Hb3) | (refine n_box (by rfl) (T := 33) (x := (.tmp 1)) rfl (v := .agg (#[.bool true, .int .u64 (lim B 0), .int .u64 (lim B 1), .int .u64 (lim B 2), .int .u64 (lim B 3)])) rfl (ds := #[.bool true, .int .u64 (lim B 0), .int .u64 (lim B 1), .int .u64 (lim B 2), .int .u64 (lim B 3)]) rfl ?_; intro w2 Hb4 hbn; have hsz_w1 := HB.out.size; have lt_b3_b4 := Hb3.out.lt; replace HB := hide (HB.out.trans (hbn.mono HB.out.size)); replace Hb3 := hide (Hb3.out.below hbn Hb3.out.lt); clear hbn; replace Hb4 := hide Hb4) | (refine n_loadw (by rfl) (T := 24) (x := (.tmp 3)) rfl (g := w.heap.size) rfl Hb3.out Try.underlying24 rfl dy_s0 ?_))
      refine (F1.out _).mono ?_
      rintro e w3 ⟨rfl, hbc⟩
      replace HB := hide (HB.out.trans (hbc.mono HB.out.size))
      replace Hb3 := hide (Hb3.out.below hbc Hb3.out.lt)
      replace Hb4 := hide (Hb4.out.below hbc Hb4.out.lt)
      clear hbc
      go_wp2_with fail
      refine (P1.out _).mono ?_
      rintro e w4 ⟨rfl, hbc⟩
      replace HB := hide (HB.out.trans (hbc.mono HB.out.size))
      replace Hb3 := hide (Hb3.out.below hbc Hb3.out.lt)
      replace Hb4 := hide (Hb4.out.below hbc Hb4.out.lt)
      clear hbc
      go_wp2_with (first | (refine n_alloc (by rfl) (T := 24) rfl dy_z1 (ds := #[.int .u64 0, .int .u64 0, .int .u64 0, .int .u64 0]) rfl ?_; intro w5 Hb7 hbn; have hsz_w4 := HB.out.size; have lt_b3_b7 := Hb3.out.lt; have lt_b4_b7 := Hb4.out.lt; replace HB := hide (HB.out.trans (hbn.mono HB.out.size)); replace Hb3 := hide (Hb3.out.below hbn Hb3.out.lt); replace Hb4 := hide (Hb4.out.below hbn Hb4.out.lt); clear hbn; replace Hb7 := hide Hb7) | (refine n_storew (by rfl) (T := 24) (x := (.tmp 7)) (y := (.tmp 21)) rfl (g := w4.heap.size) rfl (vs := #[.int .u64 (lim A 0), .int .u64 (lim A 1), .int .u64 (lim A 2), .int .u64 (lim A 3)]) rfl (by first | (simp [Value.oneCell']; done)) Hb7.out rfl dy_s0 ?_; clear Hb7; intro w6 Hb7 hun; replace Hb7 := hide Hb7; replace HB := hide (hun.keep w.heap.size w (by omega) HB.out); replace Hb3 := hide (Hb3.out.upd hun (by omega)); replace Hb4 := hide (Hb4.out.upd hun (by omega)); clear hun) | (refine n_loadw (by rfl) (T := 24) (x := (.tmp 7)) rfl (g := w4.heap.size) rfl Hb7.out Try.underlying24 rfl dy_s0 ?_) | (refine n_loadw (by rfl) (T := 24) (x := (.tmp 3)) rfl (g := w.heap.size) rfl Hb3.out Try.underlying24 rfl dy_s0 ?_) | (refine n_loadw (by rfl) (T := 33) (x := (.tmp 4)) rfl (g := w1.heap.size) rfl Hb4.out Try.underlying33 rfl dy_s2 ?_))
      refine (F2.out _).mono ?_
      rintro e w7 ⟨rfl, hbc⟩
      replace HB := hide (HB.out.trans (hbc.mono HB.out.size))
      replace Hb3 := hide (Hb3.out.below hbc Hb3.out.lt)
      replace Hb4 := hide (Hb4.out.below hbc Hb4.out.lt)
      replace Hb7 := hide (Hb7.out.below hbc Hb7.out.lt)
      clear hbc
      go_wp2_with fail
      refine (P2.out _).mono ?_
      rintro e w8 ⟨rfl, hbc⟩
      replace HB := hide (HB.out.trans (hbc.mono HB.out.size))
      replace Hb3 := hide (Hb3.out.below hbc Hb3.out.lt)
      replace Hb4 := hide (Hb4.out.below hbc Hb4.out.lt)
      replace Hb7 := hide (Hb7.out.below hbc Hb7.out.lt)
      clear hbc
      go_wp2_with (first | (refine n_alloc (by rfl) (T := 33) rfl dy_z3 (ds := #[.bool false, .int .u64 0, .int .u64 0, .int .u64 0, .int .u64 0]) rfl ?_; intro w9 Hb9 hbn; have hsz_w8 := HB.out.size; have lt_b3_b9 := Hb3.out.lt; have lt_b4_b9 := Hb4.out.lt; have lt_b7_b9 := Hb7.out.lt; replace HB := hide (HB.out.trans (hbn.mono HB.out.size)); replace Hb3 := hide (Hb3.out.below hbn Hb3.out.lt); replace Hb4 := hide (Hb4.out.below hbn Hb4.out.lt); replace Hb7 := hide (Hb7.out.below hbn Hb7.out.lt); clear hbn; replace Hb9 := hide Hb9) | (refine n_storew (by rfl) (T := 33) (x := (.tmp 9)) (y := (.tmp 34)) rfl (g := w8.heap.size) rfl (vs := #[.bool true, .int .u64 (lim B 0), .int .u64 (lim B 1), .int .u64 (lim B 2), .int .u64 (lim B 3)]) rfl (by first | (simp [Value.oneCell']; done)) Hb9.out rfl dy_s2 ?_; clear Hb9; intro w10 Hb9 hun; replace Hb9 := hide Hb9; replace HB := hide (hun.keep w.heap.size w (by omega) HB.out); replace Hb3 := hide (Hb3.out.upd hun (by omega)); replace Hb4 := hide (Hb4.out.upd hun (by omega)); replace Hb7 := hide (Hb7.out.upd hun (by omega)); clear hun) | (refine n_load (by rfl) (T := 4) (x := (.tmp 36)) rfl (g := w1.heap.size) (o := 0) rfl Hb4.out (v := .bool true) (by rfl) Try.underlying4 rfl ?_) | (refine n_loads (by rfl) (T := 24) (x := (.tmp 39)) rfl (g := w1.heap.size) (o := 1) rfl Hb4.out (ds := #[.int .u64 (lim B 0), .int .u64 (lim B 1), .int .u64 (lim B 2), .int .u64 (lim B 3)]) (by rfl) Try.underlying24 rfl dy_s0 ?_))
      refine (P3.out _).mono ?_
      rintro e w11 ⟨rfl, hbc⟩
      replace HB := hide (HB.out.trans (hbc.mono HB.out.size))
      replace Hb3 := hide (Hb3.out.below hbc Hb3.out.lt)
      replace Hb4 := hide (Hb4.out.below hbc Hb4.out.lt)
      replace Hb7 := hide (Hb7.out.below hbc Hb7.out.lt)
      replace Hb9 := hide (Hb9.out.below hbc Hb9.out.lt)
      clear hbc
      go_wp2_with (first | (refine n_alloc (by rfl) (T := 24) rfl dy_z1 (ds := #[.int .u64 0, .int .u64 0, .int .u64 0, .int .u64 0]) rfl ?_; intro w12 Hb11 hbn; have hsz_w11 := HB.out.size; have lt_b3_b11 := Hb3.out.lt; have lt_b4_b11 := Hb4.out.lt; have lt_b7_b11 := Hb7.out.lt; have lt_b9_b11 := Hb9.out.lt; replace HB := hide (HB.out.trans (hbn.mono HB.out.size)); replace Hb3 := hide (Hb3.out.below hbn Hb3.out.lt); replace Hb4 := hide (Hb4.out.below hbn Hb4.out.lt); replace Hb7 := hide (Hb7.out.below hbn Hb7.out.lt); replace Hb9 := hide (Hb9.out.below hbn Hb9.out.lt); clear hbn; replace Hb11 := hide Hb11) | (refine n_storew (by rfl) (T := 24) (x := (.tmp 11)) (y := (.tmp 52)) rfl (g := w11.heap.size) rfl (vs := #[.int .u64 (lim Z 0), .int .u64 (lim Z 1), .int .u64 (lim Z 2), .int .u64 (lim Z 3)]) rfl (by first | (simp [Value.oneCell']; done)) Hb11.out rfl dy_s0 ?_; clear Hb11; intro w13 Hb11 hun; replace Hb11 := hide Hb11; replace HB := hide (hun.keep w.heap.size w (by omega) HB.out); replace Hb3 := hide (Hb3.out.upd hun (by omega)); replace Hb4 := hide (Hb4.out.upd hun (by omega)); replace Hb7 := hide (Hb7.out.upd hun (by omega)); replace Hb9 := hide (Hb9.out.upd hun (by omega)); clear hun) | (refine n_loadw (by rfl) (T := 33) (x := (.tmp 9)) rfl (g := w8.heap.size) rfl Hb9.out Try.underlying33 rfl dy_s2 ?_) | (refine n_loadw (by rfl) (T := 33) (x := (.tmp 4)) rfl (g := w1.heap.size) rfl Hb4.out Try.underlying33 rfl dy_s2 ?_))
      refine (awake4_c _).mono ?_
      rintro e w14 ⟨rfl, hbc⟩
      replace HB := hide (HB.out.trans (hbc.mono HB.out.size))
      replace Hb3 := hide (Hb3.out.below hbc Hb3.out.lt)
      replace Hb4 := hide (Hb4.out.below hbc Hb4.out.lt)
      replace Hb7 := hide (Hb7.out.below hbc Hb7.out.lt)
      replace Hb9 := hide (Hb9.out.below hbc Hb9.out.lt)
      replace Hb11 := hide (Hb11.out.below hbc Hb11.out.lt)
      clear hbc
      go_wp2_with fail
      go_ret
      exact ⟨rfl, HB.out⟩
  · rw [q1, q2, q3] at P2
    replace P2 := hide P2
    have hq := eqI_law false (lim B 0) (lim B 1) (lim B 2) (lim B 3)
    clear q1 q2 q3 hz
    rcases hE with hE | hE | hE
    · rw [hE] at P3
      rw [hS hE] at F3
      replace P3 := hide P3
      replace F3 := hide F3
      clear hE hS
      go_enter Try.func6, Try.ntmps6
      go_wp2_with (first | (refine n_box (by rfl) (T := 24) (x := (.tmp 0)) rfl (v := .agg (#[.int .u64 (lim A 0), .int .u64 (lim A 1), .int .u64 (lim A 2), .int .u64 (lim A 3)])) rfl (ds := #[.int .u64 (lim A 0), .int .u64 (lim A 1), .int .u64 (lim A 2), .int .u64 (lim A 3)]) rfl ?_; intro w1 Hb3 hbn; have HB := hide hbn; clear hbn; replace Hb3 := hide Hb3) | (refine n_box (by rfl) (T := 33) (x := (.tmp 1)) rfl (v := .agg (#[.bool false, .int .u64 (lim B 0), .int .u64 (lim B 1), .int .u64 (lim B 2), .int .u64 (lim B 3)])) rfl (ds := #[.bool false, .int .u64 (lim B 0), .int .u64 (lim B 1), .int .u64 (lim B 2), .int .u64 (lim B 3)]) rfl ?_; intro w2 Hb4 hbn; have hsz_w1 := HB.out.size; have lt_b3_b4 := Hb3.out.lt; replace HB := hide (HB.out.trans (hbn.mono HB.out.size)); replace Hb3 := hide (Hb3.out.below hbn Hb3.out.lt); clear hbn; replace Hb4 := hide Hb4) | (refine n_loadw (by rfl) (T := 24) (x := (.tmp 3)) rfl (g := w.heap.size) rfl Hb3.out Try.underlying24 rfl dy_s0 ?_))
      refine (F1.out _).mono ?_
      rintro e w3 ⟨rfl, hbc⟩
      replace HB := hide (HB.out.trans (hbc.mono HB.out.size))
      replace Hb3 := hide (Hb3.out.below hbc Hb3.out.lt)
      replace Hb4 := hide (Hb4.out.below hbc Hb4.out.lt)
      clear hbc
      go_wp2_with fail
      refine (P1.out _).mono ?_
      rintro e w4 ⟨rfl, hbc⟩
      replace HB := hide (HB.out.trans (hbc.mono HB.out.size))
      replace Hb3 := hide (Hb3.out.below hbc Hb3.out.lt)
      replace Hb4 := hide (Hb4.out.below hbc Hb4.out.lt)
      clear hbc
      go_wp2_with (first | (refine n_alloc (by rfl) (T := 24) rfl dy_z1 (ds := #[.int .u64 0, .int .u64 0, .int .u64 0, .int .u64 0]) rfl ?_; intro w5 Hb7 hbn; have hsz_w4 := HB.out.size; have lt_b3_b7 := Hb3.out.lt; have lt_b4_b7 := Hb4.out.lt; replace HB := hide (HB.out.trans (hbn.mono HB.out.size)); replace Hb3 := hide (Hb3.out.below hbn Hb3.out.lt); replace Hb4 := hide (Hb4.out.below hbn Hb4.out.lt); clear hbn; replace Hb7 := hide Hb7) | (refine n_storew (by rfl) (T := 24) (x := (.tmp 7)) (y := (.tmp 21)) rfl (g := w4.heap.size) rfl (vs := #[.int .u64 (lim A 0), .int .u64 (lim A 1), .int .u64 (lim A 2), .int .u64 (lim A 3)]) rfl (by first | (simp [Value.oneCell']; done)) Hb7.out rfl dy_s0 ?_; clear Hb7; intro w6 Hb7 hun; replace Hb7 := hide Hb7; replace HB := hide (hun.keep w.heap.size w (by omega) HB.out); replace Hb3 := hide (Hb3.out.upd hun (by omega)); replace Hb4 := hide (Hb4.out.upd hun (by omega)); clear hun) | (refine n_loadw (by rfl) (T := 24) (x := (.tmp 7)) rfl (g := w4.heap.size) rfl Hb7.out Try.underlying24 rfl dy_s0 ?_) | (refine n_loadw (by rfl) (T := 24) (x := (.tmp 3)) rfl (g := w.heap.size) rfl Hb3.out Try.underlying24 rfl dy_s0 ?_) | (refine n_loadw (by rfl) (T := 33) (x := (.tmp 4)) rfl (g := w1.heap.size) rfl Hb4.out Try.underlying33 rfl dy_s2 ?_))
      refine (F2.out _).mono ?_
      rintro e w7 ⟨rfl, hbc⟩
      replace HB := hide (HB.out.trans (hbc.mono HB.out.size))
      replace Hb3 := hide (Hb3.out.below hbc Hb3.out.lt)
      replace Hb4 := hide (Hb4.out.below hbc Hb4.out.lt)
      replace Hb7 := hide (Hb7.out.below hbc Hb7.out.lt)
      clear hbc
      go_wp2_with fail
      refine (P2.out _).mono ?_
      rintro e w8 ⟨rfl, hbc⟩
      replace HB := hide (HB.out.trans (hbc.mono HB.out.size))
      replace Hb3 := hide (Hb3.out.below hbc Hb3.out.lt)
      replace Hb4 := hide (Hb4.out.below hbc Hb4.out.lt)
      replace Hb7 := hide (Hb7.out.below hbc Hb7.out.lt)
      clear hbc
      go_wp2_with (first | (refine n_alloc (by rfl) (T := 33) rfl dy_z3 (ds := #[.bool false, .int .u64 0, .int .u64 0, .int .u64 0, .int .u64 0]) rfl ?_; intro w9 Hb9 hbn; have hsz_w8 := HB.out.size; have lt_b3_b9 := Hb3.out.lt; have lt_b4_b9 := Hb4.out.lt; have lt_b7_b9 := Hb7.out.lt; replace HB := hide (HB.out.trans (hbn.mono HB.out.size)); replace Hb3 := hide (Hb3.out.below hbn Hb3.out.lt); replace Hb4 := hide (Hb4.out.below hbn Hb4.out.lt); replace Hb7 := hide (Hb7.out.below hbn Hb7.out.lt); clear hbn; replace Hb9 := hide Hb9) | (refine n_storew (by rfl) (T := 33) (x := (.tmp 9)) (y := (.tmp 34)) rfl (g := w8.heap.size) rfl (vs := #[.bool false, .int .u64 (lim B 0), .int .u64 (lim B 1), .int .u64 (lim B 2), .int .u64 (lim B 3)]) rfl (by first | (simp [Value.oneCell']; done)) Hb9.out rfl dy_s2 ?_; clear Hb9; intro w10 Hb9 hun; replace Hb9 := hide Hb9; replace HB := hide (hun.keep w.heap.size w (by omega) HB.out); replace Hb3 := hide (Hb3.out.upd hun (by omega)); replace Hb4 := hide (Hb4.out.upd hun (by omega)); replace Hb7 := hide (Hb7.out.upd hun (by omega)); clear hun) | (refine n_load (by rfl) (T := 4) (x := (.tmp 36)) rfl (g := w1.heap.size) (o := 0) rfl Hb4.out (v := .bool false) (by rfl) Try.underlying4 rfl ?_))
      refine (P3.out _).mono ?_
      rintro e w11 ⟨rfl, hbc⟩
      replace HB := hide (HB.out.trans (hbc.mono HB.out.size))
      replace Hb3 := hide (Hb3.out.below hbc Hb3.out.lt)
      replace Hb4 := hide (Hb4.out.below hbc Hb4.out.lt)
      replace Hb7 := hide (Hb7.out.below hbc Hb7.out.lt)
      replace Hb9 := hide (Hb9.out.below hbc Hb9.out.lt)
      clear hbc
      go_wp2_with (first | (refine n_alloc (by rfl) (T := 24) rfl dy_z1 (ds := #[.int .u64 0, .int .u64 0, .int .u64 0, .int .u64 0]) rfl ?_; intro w12 Hb11 hbn; have hsz_w11 := HB.out.size; have lt_b3_b11 := Hb3.out.lt; have lt_b4_b11 := Hb4.out.lt; have lt_b7_b11 := Hb7.out.lt; have lt_b9_b11 := Hb9.out.lt; replace HB := hide (HB.out.trans (hbn.mono HB.out.size)); replace Hb3 := hide (Hb3.out.below hbn Hb3.out.lt); replace Hb4 := hide (Hb4.out.below hbn Hb4.out.lt); replace Hb7 := hide (Hb7.out.below hbn Hb7.out.lt); replace Hb9 := hide (Hb9.out.below hbn Hb9.out.lt); clear hbn; replace Hb11 := hide Hb11) | (refine n_storew (by rfl) (T := 24) (x := (.tmp 11)) (y := (.tmp 52)) rfl (g := w11.heap.size) rfl (vs := #[.int .u64 (lim Z 0), .int .u64 (lim Z 1), .int .u64 (lim Z 2), .int .u64 (lim Z 3)]) rfl (by first | (simp [Value.oneCell']; done)) Hb11.out rfl dy_s0 ?_; clear Hb11; intro w13 Hb11 hun; replace Hb11 := hide Hb11; replace HB := hide (hun.keep w.heap.size w (by omega) HB.out); replace Hb3 := hide (Hb3.out.upd hun (by omega)); replace Hb4 := hide (Hb4.out.upd hun (by omega)); replace Hb7 := hide (Hb7.out.upd hun (by omega)); replace Hb9 := hide (Hb9.out.upd hun (by omega)); clear hun) | (refine n_loadw (by rfl) (T := 33) (x := (.tmp 9)) rfl (g := w8.heap.size) rfl Hb9.out Try.underlying33 rfl dy_s2 ?_) | (refine n_loadw (by rfl) (T := 33) (x := (.tmp 4)) rfl (g := w1.heap.size) rfl Hb4.out Try.underlying33 rfl dy_s2 ?_) | (refine n_loadw (by rfl) (T := 24) (x := (.tmp 11)) rfl (g := w11.heap.size) rfl Hb11.out Try.underlying24 rfl dy_s0 ?_))
      refine (F3.out _).mono ?_
      rintro e w14 ⟨rfl, hbc⟩
      replace HB := hide (HB.out.trans (hbc.mono HB.out.size))
      replace Hb3 := hide (Hb3.out.below hbc Hb3.out.lt)
      replace Hb4 := hide (Hb4.out.below hbc Hb4.out.lt)
      replace Hb7 := hide (Hb7.out.below hbc Hb7.out.lt)
      replace Hb9 := hide (Hb9.out.below hbc Hb9.out.lt)
      replace Hb11 := hide (Hb11.out.below hbc Hb11.out.lt)
      clear hbc
      go_wp2_with fail
      refine (awake4_c _).mono ?_
      rintro e w15 ⟨rfl, hbc⟩
      replace HB := hide (HB.out.trans (hbc.mono HB.out.size))
      replace Hb3 := hide (Hb3.out.below hbc Hb3.out.lt)
      replace Hb4 := hide (Hb4.out.below hbc Hb4.out.lt)
      replace Hb7 := hide (Hb7.out.below hbc Hb7.out.lt)
      replace Hb9 := hide (Hb9.out.below hbc Hb9.out.lt)
      replace Hb11 := hide (Hb11.out.below hbc Hb11.out.lt)
      clear hbc
      go_wp2_with fail
      go_ret
      exact ⟨rfl, HB.out⟩
    · rw [hE] at P3
      replace P3 := hide P3
      clear hE hS F3
      go_enter Try.func6, Try.ntmps6
      go_wp2_with (first | (refine n_box (by rfl) (T := 24) (x := (.tmp 0)) rfl (v := .agg (#[.int .u64 (lim A 0), .int .u64 (lim A 1), .int .u64 (lim A 2), .int .u64 (lim A 3)])) rfl (ds := #[.int .u64 (lim A 0), .int .u64 (lim A 1), .int .u64 (lim A 2), .int .u64 (lim A 3)]) rfl ?_; intro w1 Hb3 hbn; have HB := hide hbn; clear hbn; replace Hb3 := hide Hb3) | (refine n_box (by rfl) (T := 33) (x := (.tmp 1)) rfl (v := .agg (#[.bool false, .int .u64 (lim B 0), .int .u64 (lim B 1), .int .u64 (lim B 2), .int .u64 (lim B 3)])) rfl (ds := #[.bool false, .int .u64 (lim B 0), .int .u64 (lim B 1), .int .u64 (lim B 2), .int .u64 (lim B 3)]) rfl ?_; intro w2 Hb4 hbn; have hsz_w1 := HB.out.size; have lt_b3_b4 := Hb3.out.lt; replace HB := hide (HB.out.trans (hbn.mono HB.out.size)); replace Hb3 := hide (Hb3.out.below hbn Hb3.out.lt); clear hbn; replace Hb4 := hide Hb4) | (refine n_loadw (by rfl) (T := 24) (x := (.tmp 3)) rfl (g := w.heap.size) rfl Hb3.out Try.underlying24 rfl dy_s0 ?_))
      refine (F1.out _).mono ?_
      rintro e w3 ⟨rfl, hbc⟩
      replace HB := hide (HB.out.trans (hbc.mono HB.out.size))
      replace Hb3 := hide (Hb3.out.below hbc Hb3.out.lt)
      replace Hb4 := hide (Hb4.out.below hbc Hb4.out.lt)
      clear hbc
      go_wp2_with fail
      refine (P1.out _).mono ?_
      rintro e w4 ⟨rfl, hbc⟩
      replace HB := hide (HB.out.trans (hbc.mono HB.out.size))
      replace Hb3 := hide (Hb3.out.below hbc Hb3.out.lt)
      replace Hb4 := hide (Hb4.out.below hbc Hb4.out.lt)
      clear hbc
      go_wp2_with (first | (refine n_alloc (by rfl) (T := 24) rfl dy_z1 (ds := #[.int .u64 0, .int .u64 0, .int .u64 0, .int .u64 0]) rfl ?_; intro w5 Hb7 hbn; have hsz_w4 := HB.out.size; have lt_b3_b7 := Hb3.out.lt; have lt_b4_b7 := Hb4.out.lt; replace HB := hide (HB.out.trans (hbn.mono HB.out.size)); replace Hb3 := hide (Hb3.out.below hbn Hb3.out.lt); replace Hb4 := hide (Hb4.out.below hbn Hb4.out.lt); clear hbn; replace Hb7 := hide Hb7) | (refine n_storew (by rfl) (T := 24) (x := (.tmp 7)) (y := (.tmp 21)) rfl (g := w4.heap.size) rfl (vs := #[.int .u64 (lim A 0), .int .u64 (lim A 1), .int .u64 (lim A 2), .int .u64 (lim A 3)]) rfl (by first | (simp [Value.oneCell']; done)) Hb7.out rfl dy_s0 ?_; clear Hb7; intro w6 Hb7 hun; replace Hb7 := hide Hb7; replace HB := hide (hun.keep w.heap.size w (by omega) HB.out); replace Hb3 := hide (Hb3.out.upd hun (by omega)); replace Hb4 := hide (Hb4.out.upd hun (by omega)); clear hun) | (refine n_loadw (by rfl) (T := 24) (x := (.tmp 7)) rfl (g := w4.heap.size) rfl Hb7.out Try.underlying24 rfl dy_s0 ?_) | (refine n_loadw (by rfl) (T := 24) (x := (.tmp 3)) rfl (g := w.heap.size) rfl Hb3.out Try.underlying24 rfl dy_s0 ?_) | (refine n_loadw (by rfl) (T := 33) (x := (.tmp 4)) rfl (g := w1.heap.size) rfl Hb4.out Try.underlying33 rfl dy_s2 ?_))
      refine (F2.out _).mono ?_
      rintro e w7 ⟨rfl, hbc⟩
      replace HB := hide (HB.out.trans (hbc.mono HB.out.size))
      replace Hb3 := hide (Hb3.out.below hbc Hb3.out.lt)
      replace Hb4 := hide (Hb4.out.below hbc Hb4.out.lt)
      replace Hb7 := hide (Hb7.out.below hbc Hb7.out.lt)
      clear hbc
      go_wp2_with fail
      refine (P2.out _).mono ?_
      rintro e w8 ⟨rfl, hbc⟩
      replace HB := hide (HB.out.trans (hbc.mono HB.out.size))
      replace Hb3 := hide (Hb3.out.below hbc Hb3.out.lt)
      replace Hb4 := hide (Hb4.out.below hbc Hb4.out.lt)
      replace Hb7 := hide (Hb7.out.below hbc Hb7.out.lt)
      clear hbc
      go_wp2_with (first | (refine n_alloc (by rfl) (T := 33) rfl dy_z3 (ds := #[.bool false, .int .u64 0, .int .u64 0, .int .u64 0, .int .u64 0]) rfl ?_; intro w9 Hb9 hbn; have hsz_w8 := HB.out.size; have lt_b3_b9 := Hb3.out.lt; have lt_b4_b9 := Hb4.out.lt; have lt_b7_b9 := Hb7.out.lt; replace HB := hide (HB.out.trans (hbn.mono HB.out.size)); replace Hb3 := hide (Hb3.out.below hbn Hb3.out.lt); replace Hb4 := hide (Hb4.out.below hbn Hb4.out.lt); replace Hb7 := hide (Hb7.out.below hbn Hb7.out.lt); clear hbn; replace Hb9 := hide Hb9) | (refine n_storew (by rfl) (T := 33) (x := (.tmp 9)) (y := (.tmp 34)) rfl (g := w8.heap.size) rfl (vs := #[.bool false, .int .u64 (lim B 0), .int .u64 (lim B 1), .int .u64 (lim B 2), .int .u64 (lim B 3)]) rfl (by first | (simp [Value.oneCell']; done)) Hb9.out rfl dy_s2 ?_; clear Hb9; intro w10 Hb9 hun; replace Hb9 := hide Hb9; replace HB := hide (hun.keep w.heap.size w (by omega) HB.out); replace Hb3 := hide (Hb3.out.upd hun (by omega)); replace Hb4 := hide (Hb4.out.upd hun (by omega)); replace Hb7 := hide (Hb7.out.upd hun (by omega)); clear hun) | (refine n_load (by rfl) (T := 4) (x := (.tmp 36)) rfl (g := w1.heap.size) (o := 0) rfl Hb4.out (v := .bool false) (by rfl) Try.underlying4 rfl ?_))
      refine (P3.out _).mono ?_
      rintro e w11 ⟨rfl, hbc⟩
      replace HB := hide (HB.out.trans (hbc.mono HB.out.size))
      replace Hb3 := hide (Hb3.out.below hbc Hb3.out.lt)
      replace Hb4 := hide (Hb4.out.below hbc Hb4.out.lt)
      replace Hb7 := hide (Hb7.out.below hbc Hb7.out.lt)
      replace Hb9 := hide (Hb9.out.below hbc Hb9.out.lt)
      clear hbc
      go_wp2_with (first | (refine n_alloc (by rfl) (T := 24) rfl dy_z1 (ds := #[.int .u64 0, .int .u64 0, .int .u64 0, .int .u64 0]) rfl ?_; intro w12 Hb11 hbn; have hsz_w11 := HB.out.size; have lt_b3_b11 := Hb3.out.lt; have lt_b4_b11 := Hb4.out.lt; have lt_b7_b11 := Hb7.out.lt; have lt_b9_b11 := Hb9.out.lt; replace HB := hide (HB.out.trans (hbn.mono HB.out.size)); replace Hb3 := hide (Hb3.out.below hbn Hb3.out.lt); replace Hb4 := hide (Hb4.out.below hbn Hb4.out.lt); replace Hb7 := hide (Hb7.out.below hbn Hb7.out.lt); replace Hb9 := hide (Hb9.out.below hbn Hb9.out.lt); clear hbn; replace Hb11 := hide Hb11) | (refine n_storew (by rfl) (T := 24) (x := (.tmp 11)) (y := (.tmp 52)) rfl (g := w11.heap.size) rfl (vs := #[.int .u64 (lim Z 0), .int .u64 (lim Z 1), .int .u64 (lim Z 2), .int .u64 (lim Z 3)]) rfl (by first | (simp [Value.oneCell']; done)) Hb11.out rfl dy_s0 ?_; clear Hb11; intro w13 Hb11 hun; replace Hb11 := hide Hb11; replace HB := hide (hun.keep w.heap.size w (by omega) HB.out); replace Hb3 := hide (Hb3.out.upd hun (by omega)); replace Hb4 := hide (Hb4.out.upd hun (by omega)); replace Hb7 := hide (Hb7.out.upd hun (by omega)); replace Hb9 := hide (Hb9.out.upd hun (by omega)); clear hun) | (refine n_loadw (by rfl) (T := 33) (x := (.tmp 9)) rfl (g := w8.heap.size) rfl Hb9.out Try.underlying33 rfl dy_s2 ?_) | (refine n_loadw (by rfl) (T := 33) (x := (.tmp 4)) rfl (g := w1.heap.size) rfl Hb4.out Try.underlying33 rfl dy_s2 ?_))
      refine (awake4_c _).mono ?_
      rintro e w14 ⟨rfl, hbc⟩
      replace HB := hide (HB.out.trans (hbc.mono HB.out.size))
      replace Hb3 := hide (Hb3.out.below hbc Hb3.out.lt)
      replace Hb4 := hide (Hb4.out.below hbc Hb4.out.lt)
      replace Hb7 := hide (Hb7.out.below hbc Hb7.out.lt)
      replace Hb9 := hide (Hb9.out.below hbc Hb9.out.lt)
      replace Hb11 := hide (Hb11.out.below hbc Hb11.out.lt)
      clear hbc
      go_wp2_with fail
      go_ret
      exact ⟨rfl, HB.out⟩
    · rw [hE] at P3
      replace P3 := hide P3
      clear hE hS F3
      go_enter Try.func6, Try.ntmps6
      go_wp2_with (first | (refine n_box (by rfl) (T := 24) (x := (.tmp 0)) rfl (v := .agg (#[.int .u64 (lim A 0), .int .u64 (lim A 1), .int .u64 (lim A 2), .int .u64 (lim A 3)])) rfl (ds := #[.int .u64 (lim A 0), .int .u64 (lim A 1), .int .u64 (lim A 2), .int .u64 (lim A 3)]) rfl ?_; intro w1 Hb3 hbn; have HB := hide hbn; clear hbn; replace Hb3 := hide Hb3) | (refine n_box (by rfl) (T := 33) (x := (.tmp 1)) rfl (v := .agg (#[.bool false, .int .u64 (lim B 0), .int .u64 (lim B 1), .int .u64 (lim B 2), .int .u64 (lim B 3)])) rfl (ds := #[.bool false, .int .u64 (lim B 0), .int .u64 (lim B 1), .int .u64 (lim B 2), .int .u64 (lim B 3)]) rfl ?_; intro w2 Hb4 hbn; have hsz_w1 := HB.out.size; have lt_b3_b4 := Hb3.out.lt; replace HB := hide (HB.out.trans (hbn.mono HB.out.size)); replace Hb3 := hide (Hb3.out.below hbn Hb3.out.lt); clear hbn; replace Hb4 := hide Hb4) | (refine n_loadw (by rfl) (T := 24) (x := (.tmp 3)) rfl (g := w.heap.size) rfl Hb3.out Try.underlying24 rfl dy_s0 ?_))
      refine (F1.out _).mono ?_
      rintro e w3 ⟨rfl, hbc⟩
      replace HB := hide (HB.out.trans (hbc.mono HB.out.size))
      replace Hb3 := hide (Hb3.out.below hbc Hb3.out.lt)
      replace Hb4 := hide (Hb4.out.below hbc Hb4.out.lt)
      clear hbc
      go_wp2_with fail
      refine (P1.out _).mono ?_
      rintro e w4 ⟨rfl, hbc⟩
      replace HB := hide (HB.out.trans (hbc.mono HB.out.size))
      replace Hb3 := hide (Hb3.out.below hbc Hb3.out.lt)
      replace Hb4 := hide (Hb4.out.below hbc Hb4.out.lt)
      clear hbc
      go_wp2_with (first | (refine n_alloc (by rfl) (T := 24) rfl dy_z1 (ds := #[.int .u64 0, .int .u64 0, .int .u64 0, .int .u64 0]) rfl ?_; intro w5 Hb7 hbn; have hsz_w4 := HB.out.size; have lt_b3_b7 := Hb3.out.lt; have lt_b4_b7 := Hb4.out.lt; replace HB := hide (HB.out.trans (hbn.mono HB.out.size)); replace Hb3 := hide (Hb3.out.below hbn Hb3.out.lt); replace Hb4 := hide (Hb4.out.below hbn Hb4.out.lt); clear hbn; replace Hb7 := hide Hb7) | (refine n_storew (by rfl) (T := 24) (x := (.tmp 7)) (y := (.tmp 21)) rfl (g := w4.heap.size) rfl (vs := #[.int .u64 (lim A 0), .int .u64 (lim A 1), .int .u64 (lim A 2), .int .u64 (lim A 3)]) rfl (by first | (simp [Value.oneCell']; done)) Hb7.out rfl dy_s0 ?_; clear Hb7; intro w6 Hb7 hun; replace Hb7 := hide Hb7; replace HB := hide (hun.keep w.heap.size w (by omega) HB.out); replace Hb3 := hide (Hb3.out.upd hun (by omega)); replace Hb4 := hide (Hb4.out.upd hun (by omega)); clear hun) | (refine n_loadw (by rfl) (T := 24) (x := (.tmp 7)) rfl (g := w4.heap.size) rfl Hb7.out Try.underlying24 rfl dy_s0 ?_) | (refine n_loadw (by rfl) (T := 24) (x := (.tmp 3)) rfl (g := w.heap.size) rfl Hb3.out Try.underlying24 rfl dy_s0 ?_) | (refine n_loadw (by rfl) (T := 33) (x := (.tmp 4)) rfl (g := w1.heap.size) rfl Hb4.out Try.underlying33 rfl dy_s2 ?_))
      refine (F2.out _).mono ?_
      rintro e w7 ⟨rfl, hbc⟩
      replace HB := hide (HB.out.trans (hbc.mono HB.out.size))
      replace Hb3 := hide (Hb3.out.below hbc Hb3.out.lt)
      replace Hb4 := hide (Hb4.out.below hbc Hb4.out.lt)
      replace Hb7 := hide (Hb7.out.below hbc Hb7.out.lt)
      clear hbc
      go_wp2_with fail
      refine (P2.out _).mono ?_
      rintro e w8 ⟨rfl, hbc⟩
      replace HB := hide (HB.out.trans (hbc.mono HB.out.size))
      replace Hb3 := hide (Hb3.out.below hbc Hb3.out.lt)
      replace Hb4 := hide (Hb4.out.below hbc Hb4.out.lt)
      replace Hb7 := hide (Hb7.out.below hbc Hb7.out.lt)
      clear hbc
      go_wp2_with (first | (refine n_alloc (by rfl) (T := 33) rfl dy_z3 (ds := #[.bool false, .int .u64 0, .int .u64 0, .int .u64 0, .int .u64 0]) rfl ?_; intro w9 Hb9 hbn; have hsz_w8 := HB.out.size; have lt_b3_b9 := Hb3.out.lt; have lt_b4_b9 := Hb4.out.lt; have lt_b7_b9 := Hb7.out.lt; replace HB := hide (HB.out.trans (hbn.mono HB.out.size)); replace Hb3 := hide (Hb3.out.below hbn Hb3.out.lt); replace Hb4 := hide (Hb4.out.below hbn Hb4.out.lt); replace Hb7 := hide (Hb7.out.below hbn Hb7.out.lt); clear hbn; replace Hb9 := hide Hb9) | (refine n_storew (by rfl) (T := 33) (x := (.tmp 9)) (y := (.tmp 34)) rfl (g := w8.heap.size) rfl (vs := #[.bool false, .int .u64 (lim B 0), .int .u64 (lim B 1), .int .u64 (lim B 2), .int .u64 (lim B 3)]) rfl (by first | (simp [Value.oneCell']; done)) Hb9.out rfl dy_s2 ?_; clear Hb9; intro w10 Hb9 hun; replace Hb9 := hide Hb9; replace HB := hide (hun.keep w.heap.size w (by omega) HB.out); replace Hb3 := hide (Hb3.out.upd hun (by omega)); replace Hb4 := hide (Hb4.out.upd hun (by omega)); replace Hb7 := hide (Hb7.out.upd hun (by omega)); clear hun) | (refine n_load (by rfl) (T := 4) (x := (.tmp 36)) rfl (g := w1.heap.size) (o := 0) rfl Hb4.out (v := .bool false) (by rfl) Try.underlying4 rfl ?_))
      refine (P3.out _).mono ?_
      rintro e w11 ⟨rfl, hbc⟩
      replace HB := hide (HB.out.trans (hbc.mono HB.out.size))
      replace Hb3 := hide (Hb3.out.below hbc Hb3.out.lt)
      replace Hb4 := hide (Hb4.out.below hbc Hb4.out.lt)
      replace Hb7 := hide (Hb7.out.below hbc Hb7.out.lt)
      replace Hb9 := hide (Hb9.out.below hbc Hb9.out.lt)
      clear hbc
      go_wp2_with (first | (refine n_alloc (by rfl) (T := 24) rfl dy_z1 (ds := #[.int .u64 0, .int .u64 0, .int .u64 0, .int .u64 0]) rfl ?_; intro w12 Hb11 hbn; have hsz_w11 := HB.out.size; have lt_b3_b11 := Hb3.out.lt; have lt_b4_b11 := Hb4.out.lt; have lt_b7_b11 := Hb7.out.lt; have lt_b9_b11 := Hb9.out.lt; replace HB := hide (HB.out.trans (hbn.mono HB.out.size)); replace Hb3 := hide (Hb3.out.below hbn Hb3.out.lt); replace Hb4 := hide (Hb4.out.below hbn Hb4.out.lt); replace Hb7 := hide (Hb7.out.below hbn Hb7.out.lt); replace Hb9 := hide (Hb9.out.below hbn Hb9.out.lt); clear hbn; replace Hb11 := hide Hb11) | (refine n_storew (by rfl) (T := 24) (x := (.tmp 11)) (y := (.tmp 52)) rfl (g := w11.heap.size) rfl (vs := #[.int .u64 (lim Z 0), .int .u64 (lim Z 1), .int .u64 (lim Z 2), .int .u64 (lim Z 3)]) rfl (by first | (simp [Value.oneCell']; done)) Hb11.out rfl dy_s0 ?_; clear Hb11; intro w13 Hb11 hun; replace Hb11 := hide Hb11; replace HB := hide (hun.keep w.heap.size w (by omega) HB.out); replace Hb3 := hide (Hb3.out.upd hun (by omega)); replace Hb4 := hide (Hb4.out.upd hun (by omega)); replace Hb7 := hide (Hb7.out.upd hun (by omega)); replace Hb9 := hide (Hb9.out.upd hun (by omega)); clear hun) | (refine n_loadw (by rfl) (T := 33) (x := (.tmp 9)) rfl (g := w8.heap.size) rfl Hb9.out Try.underlying33 rfl dy_s2 ?_) | (refine n_loadw (by rfl) (T := 33) (x := (.tmp 4)) rfl (g := w1.heap.size) rfl Hb4.out Try.underlying33 rfl dy_s2 ?_))
      refine (awake4_c _).mono ?_
      rintro e w14 ⟨rfl, hbc⟩
      replace HB := hide (HB.out.trans (hbc.mono HB.out.size))
      replace Hb3 := hide (Hb3.out.below hbc Hb3.out.lt)
      replace Hb4 := hide (Hb4.out.below hbc Hb4.out.lt)
      replace Hb7 := hide (Hb7.out.below hbc Hb7.out.lt)
      replace Hb9 := hide (Hb9.out.below hbc Hb9.out.lt)
      replace Hb11 := hide (Hb11.out.below hbc Hb11.out.lt)
      clear hbc
      go_wp2_with fail
      go_ret
      exact ⟨rfl, HB.out⟩
theorem DecimalRoundTrip_walk (a0 a1 a2 a3 : Int) (b : Bool) (b0 b1 b2 b3 : Int) (s : ByteArray) (w0 : (Lit.int .u64 a0).wf = true) (w1 : (Lit.int .u64 a1).wf = true) (w2 : (Lit.int .u64 a2).wf = true) (w3 : (Lit.int .u64 a3).wf = true) (v0 : (Lit.int .u64 b0).wf = true) (v1 : (Lit.int .u64 b1).wf = true) (v2 : (Lit.int .u64 b2).wf = true) (v3 : (Lit.int .u64 b3).wf = true) (hs : s.size ≤ maxLen) (w : World) :
    Calls Try.prog 6 #[.agg #[.int .u64 a0, .int .u64 a1, .int .u64 a2, .int .u64 a3], .agg #[.bool b, .int .u64 b0, .int .u64 b1, .int .u64 b2, .int .u64 b3], .string s] w fun e w' => e = .returned (.bool true) ∧ Below w.heap.size w w' := by
  obtain ⟨A, hA, rfl, rfl, rfl, rfl⟩ := isU_wf w0 w1 w2 w3
  obtain ⟨B, hB, rfl, rfl, rfl, rfl⟩ := isU_wf v0 v1 v2 v3
  exact RoundTrip_in hA hB b s w
end Go.Proofs.Ythikkajjnfeigaa
