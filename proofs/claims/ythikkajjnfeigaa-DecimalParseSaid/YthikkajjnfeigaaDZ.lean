/- chapter 4: DecimalParse, walked. -/
import Derived.WalkKit
import Derived.KernelRfl
import Derived.RowKit3
import Derived.Deep.LoopGhost
import Derived.Deep.QuietTactic
import Derived.BigQuiet
import Derived.WideLaws
import Derived.Laws.Rows
import Derived.Below
import Derived.Deep.Draws
import Derived.Outline
import Derived.LoopN
import Derived.Handy
import Derived.Laws.Externs
import Derived.Laws.BitsAllLaws
import Derived.Laws.BitsLemmas
import Derived.Deep.DeepCutAuto
import Derived.Deep.CutBlock
import Derived.Deep.RegionHeld3
import Derived.Test.YthikkajjnfeigaaDX
import Derived.Test.YthikkajjnfeigaaMD
namespace Go.Proofs.Ythikkajjnfeigaa
open Go.RowKit
set_option linter.unusedVariables false
set_option linter.unusedSimpArgs false
theorem i6_law (s0 s1 s2 s3 s4 s5 : Value) : (∀ w, (Instr.index 28 (.agg #[s0, s1, s2, s3, s4, s5]) (.int .i64 (0 : Nat))).run Try.prog w = .ok s0 w) ∧ (∀ w, (Instr.index 28 (.agg #[s0, s1, s2, s3, s4, s5]) (.int .i64 (1 : Nat))).run Try.prog w = .ok s1 w) ∧ (∀ w, (Instr.index 28 (.agg #[s0, s1, s2, s3, s4, s5]) (.int .i64 (2 : Nat))).run Try.prog w = .ok s2 w) ∧ (∀ w, (Instr.index 28 (.agg #[s0, s1, s2, s3, s4, s5]) (.int .i64 (3 : Nat))).run Try.prog w = .ok s3 w) ∧ (∀ w, (Instr.index 28 (.agg #[s0, s1, s2, s3, s4, s5]) (.int .i64 (4 : Nat))).run Try.prog w = .ok s4 w) ∧ (∀ w, (Instr.index 28 (.agg #[s0, s1, s2, s3, s4, s5]) (.int .i64 (5 : Nat))).run Try.prog w = .ok s5 w) := by
  refine ⟨?_, ?_, ?_, ?_, ?_, ?_⟩ <;> intro w <;> kernel_rfl
theorem dz_s0 : (Try.prog.info? 24).map (·.size) = some 4 := by kernel_rfl
theorem dz_z1 : (Try.prog.info? 24).map (fun i => (i.zero, i.size)) = some (some (.agg #[.int .u64 0, .int .u64 0, .int .u64 0, .int .u64 0]), 4) := by kernel_rfl
theorem dz_z2 : (Try.prog.info? 33).map (fun i => (i.zero, i.size)) = some (some (.agg #[.bool false, .int .u64 0, .int .u64 0, .int .u64 0, .int .u64 0]), 5) := by kernel_rfl
theorem dz_s3 : (Try.prog.info? 33).map (·.size) = some 5 := by kernel_rfl
set_option maxRecDepth 20000 in
set_option maxHeartbeats 64000000 in
theorem Parse_in {A : Nat} (hA : A < M256) (s : ByteArray) (m : Int) (w : World) :
    Calls Try.prog 3 #[.string s, .agg #[.int .u64 (lim A 0), .int .u64 (lim A 1), .int .u64 (lim A 2), .int .u64 (lim A 3)], .int .i64 m] w fun e w' => e = .returned (.bool true) ∧ Below w.heap.size w w' := by
  by_cases h200 : 200 < s.size
  · clear hA
    go_enter Try.func3, Try.ntmps3
    go_wp2_with (first | (refine n_box (by rfl) (T := 24) (x := (.tmp 1)) rfl (v := .agg (#[.int .u64 (lim A 0), .int .u64 (lim A 1), .int .u64 (lim A 2), .int .u64 (lim A 3)])) rfl (ds := #[.int .u64 (lim A 0), .int .u64 (lim A 1), .int .u64 (lim A 2), .int .u64 (lim A 3)]) rfl ?_; intro w1 Hb4 hbn; have HB := hide hbn; clear hbn; replace Hb4 := hide Hb4))
    refine (awake4_c _).mono ?_
    rintro e w2 ⟨rfl, hbc⟩
    replace HB := hide (HB.out.trans (hbc.mono HB.out.size))
    replace Hb4 := hide (Hb4.out.below hbc Hb4.out.lt)
    clear hbc
    go_wp2_with fail
    go_ret
    exact ⟨rfl, HB.out⟩
  have h200' : (s.size : Int) ≤ 200 := by omega
  have hs : s.size ≤ 200 := by omega
  clear h200
  have F := fun w => rformat_c hA w
  have hl := decL_len (Nat.lt_trans hA m256_78)
  obtain ⟨t, et⟩ : ∃ x : ByteArray, ⟨(decL A).toArray⟩ = x := ⟨_, rfl⟩
  rw [et] at F
  have ht : 1 ≤ t.size ∧ t.size ≤ 78 := by rw [← et]; simpa [ByteArray.size] using hl
  obtain ⟨ht1, ht2⟩ := ht
  have HM := fun w => mod_c (x := m) (n := (t.size : Int)) (by omega) (by omega) w
  obtain ⟨k, hk⟩ : ∃ k : Nat, modV m t.size = k := ⟨_, (Int.toNat_of_nonneg (modV_lt m (by omega)).1).symm⟩
  have hk1 : (k : Int) < t.size := by rw [← hk]; exact (modV_lt m (by omega)).2
  have hk2 : 1 + k ≤ t.size := by omega
  rw [hk] at HM
  replace F := hide F
  replace HM := hide HM
  clear hk et hl hA
  go_enter Try.func3, Try.ntmps3
  go_wp2_with (first | (refine n_box (by rfl) (T := 24) (x := (.tmp 1)) rfl (v := .agg (#[.int .u64 (lim A 0), .int .u64 (lim A 1), .int .u64 (lim A 2), .int .u64 (lim A 3)])) rfl (ds := #[.int .u64 (lim A 0), .int .u64 (lim A 1), .int .u64 (lim A 2), .int .u64 (lim A 3)]) rfl ?_; intro w1 Hb4 hbn; have HB := hide hbn; clear hbn; replace Hb4 := hide Hb4) | (refine n_loadw (by rfl) (T := 24) (x := (.tmp 4)) rfl (g := w.heap.size) rfl Hb4.out Try.underlying24 rfl dz_s0 ?_))
  refine (F.out _).mono ?_
  rintro e w2 ⟨rfl, hbc⟩
  replace HB := hide (HB.out.trans (hbc.mono HB.out.size))
  replace Hb4 := hide (Hb4.out.below hbc Hb4.out.lt)
  clear hbc
  go_wp2_with fail
  refine (HM.out _).mono ?_
  rintro e w2' ⟨rfl, rfl⟩
  go_wp2_with fail
  go_loopw [40] (fun v40 wr => ∃ K : Nat, K ≤ 6 ∧ v40 = .int .i64 K ∧ Hid (Below w.heap.size w wr)) (fun v40 _ => (6 - (intOf v40).toNat))
  case atStart => exact ⟨0, by omega, rfl, HB⟩
  case round =>
    obtain ⟨K, hK, rfl, HB⟩ := hrel
    rcases Nat.lt_or_ge K 6 with hk | hk
    · have hk0 : (K : Int) < 6 := by omega
      obtain ⟨x, hx, hix⟩ : ∃ x : ByteArray, x.size ≤ 1000000 ∧ ∀ w, (Instr.index 28 (.agg #[.string s, .string t, .string (⟨#[45]⟩ ++ t), .string (t ++ ⟨#[48]⟩), .string (⟨#[48]⟩ ++ t), .string (t.extract 0 (1 + k))]) (.int .i64 K)).run Try.prog w = .ok (.string x) w := by
        obtain ⟨j0, j1, j2, j3, j4, j5⟩ := i6_law (.string s) (.string t) (.string (⟨#[45]⟩ ++ t)) (.string (t ++ ⟨#[48]⟩)) (.string (⟨#[48]⟩ ++ t)) (.string (t.extract 0 (1 + k)))
        obtain rfl | rfl | rfl | rfl | rfl | rfl : K = 0 ∨ K = 1 ∨ K = 2 ∨ K = 3 ∨ K = 4 ∨ K = 5 := by omega
        · exact ⟨_, by omega, j0⟩
        · exact ⟨_, by omega, j1⟩
        · exact ⟨_, by rw [ByteArray.size_append]; show 1 + t.size ≤ _; omega, j2⟩
        · exact ⟨_, by rw [ByteArray.size_append]; show t.size + 1 ≤ _; omega, j3⟩
        · exact ⟨_, by rw [ByteArray.size_append]; show 1 + t.size ≤ _; omega, j4⟩
        · exact ⟨_, by rw [ByteArray.size_extract]; omega, j5⟩
      have P1 := fun w => parse_c x hx w
      have P2 := fun w => rparse_c x hx w
      have P3 := fun w => pint_c x hx w
      have P4 := fun w => rpint_c x hx w
      obtain ⟨Z, eZ⟩ : ∃ y, prV x.data.toList = y := ⟨_, rfl⟩
      obtain ⟨E, eE⟩ : ∃ y, prE x.data.toList = y := ⟨_, rfl⟩
      obtain ⟨b, eb⟩ : ∃ y, piB x.data.toList = y := ⟨_, rfl⟩
      obtain ⟨V, eV⟩ : ∃ y, piV x.data.toList = y := ⟨_, rfl⟩
      obtain ⟨G, eG⟩ : ∃ y, piE x.data.toList = y := ⟨_, rfl⟩
      rw [eZ, eE] at P1 P2
      rw [eb, eV, eG] at P3 P4
      replace P1 := hide P1
      replace P2 := hide P2
      replace P3 := hide P3
      replace P4 := hide P4
      have hq := eqI_law b (lim V 0) (lim V 1) (lim V 2) (lim V 3)
      clear eZ eE eb eV eG
      go_wp2_with fail
      refine (P1.out _).mono ?_
      rintro e w3 ⟨rfl, hbc⟩
      replace HB := hide (HB.out.trans (hbc.mono HB.out.size))
      clear hbc
      go_wp2_with (first | (refine n_alloc (by rfl) (T := 24) rfl dz_z1 (ds := #[.int .u64 0, .int .u64 0, .int .u64 0, .int .u64 0]) rfl ?_; intro w4 Hb10 hbn; have hsz_w3 := HB.out.size; replace HB := hide (HB.out.trans (hbn.mono HB.out.size)); clear hbn; replace Hb10 := hide Hb10) | (refine n_storew (by rfl) (T := 24) (x := (.tmp 10)) (y := (.tmp 46)) rfl (g := w3.heap.size) rfl (vs := #[.int .u64 (lim Z 0), .int .u64 (lim Z 1), .int .u64 (lim Z 2), .int .u64 (lim Z 3)]) rfl (by first | (simp [Value.oneCell']; done)) Hb10.out rfl dz_s0 ?_; clear Hb10; intro w5 Hb10 hun; replace Hb10 := hide Hb10; replace HB := hide (hun.keep w.heap.size w (by omega) HB.out); clear hun))
      refine (P2.out _).mono ?_
      rintro e w6 ⟨rfl, hbc⟩
      replace HB := hide (HB.out.trans (hbc.mono HB.out.size))
      replace Hb10 := hide (Hb10.out.below hbc Hb10.out.lt)
      clear hbc
      go_wp2_with (first | (refine n_alloc (by rfl) (T := 24) rfl dz_z1 (ds := #[.int .u64 0, .int .u64 0, .int .u64 0, .int .u64 0]) rfl ?_; intro w7 Hb12 hbn; have hsz_w6 := HB.out.size; have lt_b10_b12 := Hb10.out.lt; replace HB := hide (HB.out.trans (hbn.mono HB.out.size)); replace Hb10 := hide (Hb10.out.below hbn Hb10.out.lt); clear hbn; replace Hb12 := hide Hb12) | (refine n_storew (by rfl) (T := 24) (x := (.tmp 12)) (y := (.tmp 51)) rfl (g := w6.heap.size) rfl (vs := #[.int .u64 (lim Z 0), .int .u64 (lim Z 1), .int .u64 (lim Z 2), .int .u64 (lim Z 3)]) rfl (by first | (simp [Value.oneCell']; done)) Hb12.out rfl dz_s0 ?_; clear Hb12; intro w8 Hb12 hun; replace Hb12 := hide Hb12; replace HB := hide (hun.keep w.heap.size w (by omega) HB.out); replace Hb10 := hide (Hb10.out.upd hun (by omega)); clear hun))
      refine (P3.out _).mono ?_
      rintro e w9 ⟨rfl, hbc⟩
      replace HB := hide (HB.out.trans (hbc.mono HB.out.size))
      replace Hb10 := hide (Hb10.out.below hbc Hb10.out.lt)
      replace Hb12 := hide (Hb12.out.below hbc Hb12.out.lt)
      clear hbc
      go_wp2_with (first | (refine n_alloc (by rfl) (T := 33) rfl dz_z2 (ds := #[.bool false, .int .u64 0, .int .u64 0, .int .u64 0, .int .u64 0]) rfl ?_; intro w10 Hb14 hbn; have hsz_w9 := HB.out.size; have lt_b10_b14 := Hb10.out.lt; have lt_b12_b14 := Hb12.out.lt; replace HB := hide (HB.out.trans (hbn.mono HB.out.size)); replace Hb10 := hide (Hb10.out.below hbn Hb10.out.lt); replace Hb12 := hide (Hb12.out.below hbn Hb12.out.lt); clear hbn; replace Hb14 := hide Hb14) | (refine n_storew (by rfl) (T := 33) (x := (.tmp 14)) (y := (.tmp 56)) rfl (g := w9.heap.size) rfl (vs := #[.bool b, .int .u64 (lim V 0), .int .u64 (lim V 1), .int .u64 (lim V 2), .int .u64 (lim V 3)]) rfl (by first | (simp [Value.oneCell']; done)) Hb14.out rfl dz_s3 ?_; clear Hb14; intro w11 Hb14 hun; replace Hb14 := hide Hb14; replace HB := hide (hun.keep w.heap.size w (by omega) HB.out); replace Hb10 := hide (Hb10.out.upd hun (by omega)); replace Hb12 := hide (Hb12.out.upd hun (by omega)); clear hun))
      refine (P4.out _).mono ?_
      rintro e w12 ⟨rfl, hbc⟩
      replace HB := hide (HB.out.trans (hbc.mono HB.out.size))
      replace Hb10 := hide (Hb10.out.below hbc Hb10.out.lt)
      replace Hb12 := hide (Hb12.out.below hbc Hb12.out.lt)
      replace Hb14 := hide (Hb14.out.below hbc Hb14.out.lt)
      clear hbc
      go_wp2_with (first | (refine n_alloc (by rfl) (T := 33) rfl dz_z2 (ds := #[.bool false, .int .u64 0, .int .u64 0, .int .u64 0, .int .u64 0]) rfl ?_; intro w13 Hb16 hbn; have hsz_w12 := HB.out.size; have lt_b10_b16 := Hb10.out.lt; have lt_b12_b16 := Hb12.out.lt; have lt_b14_b16 := Hb14.out.lt; replace HB := hide (HB.out.trans (hbn.mono HB.out.size)); replace Hb10 := hide (Hb10.out.below hbn Hb10.out.lt); replace Hb12 := hide (Hb12.out.below hbn Hb12.out.lt); replace Hb14 := hide (Hb14.out.below hbn Hb14.out.lt); clear hbn; replace Hb16 := hide Hb16) | (refine n_storew (by rfl) (T := 33) (x := (.tmp 16)) (y := (.tmp 61)) rfl (g := w12.heap.size) rfl (vs := #[.bool b, .int .u64 (lim V 0), .int .u64 (lim V 1), .int .u64 (lim V 2), .int .u64 (lim V 3)]) rfl (by first | (simp [Value.oneCell']; done)) Hb16.out rfl dz_s3 ?_; clear Hb16; intro w14 Hb16 hun; replace Hb16 := hide Hb16; replace HB := hide (hun.keep w.heap.size w (by omega) HB.out); replace Hb10 := hide (Hb10.out.upd hun (by omega)); replace Hb12 := hide (Hb12.out.upd hun (by omega)); replace Hb14 := hide (Hb14.out.upd hun (by omega)); clear hun) | (refine n_loadw (by rfl) (T := 24) (x := (.tmp 10)) rfl (g := w3.heap.size) rfl Hb10.out Try.underlying24 rfl dz_s0 ?_) | (refine n_loadw (by rfl) (T := 24) (x := (.tmp 12)) rfl (g := w6.heap.size) rfl Hb12.out Try.underlying24 rfl dz_s0 ?_) | (refine n_loadw (by rfl) (T := 33) (x := (.tmp 14)) rfl (g := w9.heap.size) rfl Hb14.out Try.underlying33 rfl dz_s3 ?_) | (refine n_loadw (by rfl) (T := 33) (x := (.tmp 16)) rfl (g := w12.heap.size) rfl Hb16.out Try.underlying33 rfl dz_s3 ?_))
      go_roundw
      case rel => exact ⟨K + 1, by omega, by go_num, HB⟩
      case measure => simp [intOf]; omega
    · obtain rfl : K = 6 := by omega
      go_wp2_with fail
      refine (awake4_c _).mono ?_
      rintro e w3 ⟨rfl, hbc⟩
      replace HB := hide (HB.out.trans (hbc.mono HB.out.size))
      clear hbc
      go_wp2_with fail
      go_ret
      exact ⟨rfl, HB.out⟩
theorem DecimalParse_walk (s : ByteArray) (a0 a1 a2 a3 m : Int) (hs : s.size ≤ maxLen) (w0 : (Lit.int .u64 a0).wf = true) (w1 : (Lit.int .u64 a1).wf = true) (w2 : (Lit.int .u64 a2).wf = true) (w3 : (Lit.int .u64 a3).wf = true) (wm : (Lit.int .i64 m).wf = true) (w : World) :
    Calls Try.prog 3 #[.string s, .agg #[.int .u64 a0, .int .u64 a1, .int .u64 a2, .int .u64 a3], .int .i64 m] w fun e w' => e = .returned (.bool true) ∧ Below w.heap.size w w' := by
  obtain ⟨A, hA, rfl, rfl, rfl, rfl⟩ := isU_wf w0 w1 w2 w3
  exact Parse_in hA s m w
end Go.Proofs.Ythikkajjnfeigaa
