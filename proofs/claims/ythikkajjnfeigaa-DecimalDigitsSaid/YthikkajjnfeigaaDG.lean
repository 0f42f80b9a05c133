/- chapter 4: DecimalDigits, walked. -/
import Derived.WalkKit
import Derived.KernelRfl
import Derived.RowKit3
import Derived.Deep.LoopGhost
import Derived.Deep.QuietTactic
import Derived.BigQuiet
import Derived.WideLaws
import Derived.Laws.Rows
import Derived.Below
import Derived.Deep.Draws
import Derived.Outline
import Derived.LoopN
import Derived.Handy
import Derived.Laws.Externs
import Derived.Laws.BitsAllLaws
import Derived.Laws.BitsLemmas
import Derived.Deep.DeepCutAuto
import Derived.Deep.CutBlock
import Derived.Deep.RegionHeld3
import Derived.Test.YthikkajjnfeigaaDX
import Derived.Test.YthikkajjnfeigaaMD
import Derived.Test.YthikkajjnfeigaaDN
import Derived.Test.YthikkajjnfeigaaOT
namespace Go.Proofs.Ythikkajjnfeigaa
open Go.RowKit
set_option linter.unusedVariables false
set_option linter.unusedSimpArgs false
theorem dg_z0 : (Try.prog.info? 24).map (fun i => (i.zero, i.size)) = some (some (.agg #[.int .u64 0, .int .u64 0, .int .u64 0, .int .u64 0]), 4) := by kernel_rfl
theorem dg_s1 : (Try.prog.info? 24).map (·.size) = some 4 := by kernel_rfl
set_option maxRecDepth 20000 in
set_option maxHeartbeats 64000000 in
theorem Digits_in (A : Option Addr) (n c : Nat) (l : List UInt8) (hn : n = l.length) (hc : n ≤ c) (hm : c ≤ maxLen) (m : Int) (w : World) (hr : BRow w A l) :
    Calls Try.prog 4 #[.slice A n c, .int .i64 m] w fun e w' => e = .returned (.bool true) ∧ Below w.heap.size w w' := by
  subst hn
  by_cases h100 : 100 < l.length
  · clear hr
    go_enter Try.func4, Try.ntmps4
    go_wp2_with fail
    go_wp2_with fail
    refine (awake4_c _).mono ?_
    rintro e w1 ⟨rfl, hbc⟩
    have HB := hide hbc
    clear hbc
    go_wp2_with fail
    go_ret
    exact ⟨rfl, HB.out⟩
  have h100' : (l.length : Int) ≤ 100 := by omega
  have hl : l.length ≤ 100 := by omega
  clear h100
  obtain ⟨M, hM⟩ : ∃ M : Nat, modV m 90 = (M : Int) := ⟨(modV m 90).toNat, by have := (modV_lt m (n := 90) (by decide)).1; omega⟩
  have hM9 : M < 90 := by have := (modV_lt m (n := 90) (by decide)).2; omega
  have HM := fun w => mod_c (x := m) (n := 90) (by omega) (by omega) w
  rw [hM] at HM
  replace HM := hide HM
  clear hM
  go_enter Try.func4, Try.ntmps4
  go_wp2_with fail
  go_loopw [5, 6] (fun v5 v6 wr => ∃ (K : Nat) (x : ByteArray), K ≤ l.length ∧ x.size = K ∧ v5 = .string x ∧ v6 = .int .i64 K ∧ Hid (Below w.heap.size w wr)) (fun _ v6 _ => (l.length - (intOf v6).toNat))
  case atStart => exact ⟨0, ⟨#[]⟩, by omega, rfl, rfl, rfl, hide (Below.refl _ _)⟩
  case round =>
    obtain ⟨K, x, hK, hx, rfl, rfl, HB⟩ := hrel
    rcases Nat.lt_or_ge K l.length with hk | hk
    · have hk0 : (K : Int) < l.length := by omega
      obtain ⟨g, o, rfl, hcell0⟩ := hr (by intro e; rw [e] at hk; exact absurd hk (by simp))
      obtain ⟨u, hu⟩ : ∃ u : Int, ((gb l K).toNat : Int) = u := ⟨_, rfl⟩
      have hcr : wr.cell? ⟨g, o + K, none⟩ = some (.int .u8 u) := by rw [← hu]; exact (HB.out.cell (p := ⟨g, o + K, none⟩) (World.block_lt_of_cell? w _ (hcell0 K hk))).trans (hcell0 K hk)
      have hcell : ∀ w', Below wr.heap.size wr w' → w'.cell? ⟨g, o + K, none⟩ = some (.int .u8 u) := fun w' h => (h.cell (p := ⟨g, o + K, none⟩) (World.block_lt_of_cell? wr _ hcr)).trans hcr
      have hu2 : 0 ≤ u ∧ u < 256 := by rw [← hu]; have := (gb l K).toNat_lt; omega
      obtain ⟨q, hq⟩ : ∃ q : Nat, u.tmod 10 = (q : Int) := ⟨(u.tmod 10).toNat, by rw [Int.tmod_eq_emod_of_nonneg hu2.1]; omega⟩
      have hq9 : q ≤ 9 := by rw [Int.tmod_eq_emod_of_nonneg hu2.1] at hq; omega
      have hq1 : IntKind.u8.wrap ((q : Int) + 1) = ((q + 1 : Nat) : Int) := by rw [IntKind.wrap_u8]; omega
      clear hu hcr
      go_upto_region 7 with fail
      refine Sch.start (Sch.take 0 (Sch.take 1 (Sch.take 2 (Sch.take 3 (Sch.take 4 (Sch.take 5 (Sch.take 6 (Sch.take 7 (Sch.take 8 (Sch.take 9 (Sch.take 10 (Sch.take 11 (Sch.take 12 (Sch.take 13 (Sch.take 14 Sch.done))))))))))))))) (S := fun w' => Below wr.heap.size wr w') (by kernel_rfl) (by kernel_rfl) (fun _ d _ _ _ h => by cases d <;> exact h) (by kernel_rfl) ((Below.refl _ _).drew) (fun O hO hHeld => ?_)
      (refine Sch.t_move hO rfl (by rfl) (v := .string x) (.inl rfl) rfl ?_; (try simp only [Act.put, List.setIfInBounds_toArray, List.set_cons_zero, List.set_cons_succ, Array.toArray_toList, List.getElem_toArray, List.getElem_cons_succ, List.getElem_cons_zero]))
      (refine Sch.t_move hO rfl (by rfl) (v := .slice (some ⟨g, o, none⟩) l.length c) (.inl rfl) rfl ?_; (try simp only [Act.put, List.setIfInBounds_toArray, List.set_cons_zero, List.set_cons_succ, Array.toArray_toList, List.getElem_toArray, List.getElem_cons_succ, List.getElem_cons_zero]))
      (refine Sch.t_move hO rfl (by rfl) (v := .int .i64 K) (.inl rfl) rfl ?_; (try simp only [Act.put, List.setIfInBounds_toArray, List.set_cons_zero, List.set_cons_succ, Array.toArray_toList, List.getElem_toArray, List.getElem_cons_succ, List.getElem_cons_zero]))
      (refine Sch.t_val hO rfl (by rfl) (v := .pointer (some ⟨g, o + K, none⟩)) (fun w _ => (by go_simp)) ?_; (try simp only [Act.put, List.setIfInBounds_toArray, List.set_cons_zero, List.set_cons_succ, Array.toArray_toList, List.getElem_toArray, List.getElem_cons_succ, List.getElem_cons_zero]))
      (refine Sch.t_load hO rfl (by rfl) (T := 5) rfl (g := g) (o := o + K) rfl (v := .int .u8 u) (fun w' h => hcell w' h) Try.underlying5 rfl ?_; (try simp only [Act.put, List.setIfInBounds_toArray, List.set_cons_zero, List.set_cons_succ, Array.toArray_toList, List.getElem_toArray, List.getElem_cons_succ, List.getElem_cons_zero]))
      (refine Sch.t_val hO rfl (by rfl) (v := .int .u8 q) (fun w _ => (by go_simp)) ?_; (try simp only [Act.put, List.setIfInBounds_toArray, List.set_cons_zero, List.set_cons_succ, Array.toArray_toList, List.getElem_toArray, List.getElem_cons_succ, List.getElem_cons_zero]))
      (refine Sch.t_move hO rfl (by rfl) (v := .slice (some ⟨g, o, none⟩) l.length c) (.inl rfl) rfl ?_; (try simp only [Act.put, List.setIfInBounds_toArray, List.set_cons_zero, List.set_cons_succ, Array.toArray_toList, List.getElem_toArray, List.getElem_cons_succ, List.getElem_cons_zero]))
      (refine Sch.t_move hO rfl (by rfl) (v := .int .i64 K) (.inl rfl) rfl ?_; (try simp only [Act.put, List.setIfInBounds_toArray, List.set_cons_zero, List.set_cons_succ, Array.toArray_toList, List.getElem_toArray, List.getElem_cons_succ, List.getElem_cons_zero]))
      (refine Sch.t_val hO rfl (by rfl) (v := .pointer (some ⟨g, o + K, none⟩)) (fun w _ => (by go_simp)) ?_; (try simp only [Act.put, List.setIfInBounds_toArray, List.set_cons_zero, List.set_cons_succ, Array.toArray_toList, List.getElem_toArray, List.getElem_cons_succ, List.getElem_cons_zero]))
      (refine Sch.t_load hO rfl (by rfl) (T := 5) rfl (g := g) (o := o + K) rfl (v := .int .u8 u) (fun w' h => hcell w' h) Try.underlying5 rfl ?_; (try simp only [Act.put, List.setIfInBounds_toArray, List.set_cons_zero, List.set_cons_succ, Array.toArray_toList, List.getElem_toArray, List.getElem_cons_succ, List.getElem_cons_zero]))
      (refine Sch.t_val hO rfl (by rfl) (v := .int .u8 q) (fun w _ => (by go_simp)) ?_; (try simp only [Act.put, List.setIfInBounds_toArray, List.set_cons_zero, List.set_cons_succ, Array.toArray_toList, List.getElem_toArray, List.getElem_cons_succ, List.getElem_cons_zero]))
      (refine Sch.t_val hO rfl (by rfl) (v := .int .u8 (((q + 1 : Nat) : Int))) (fun w _ => (by go_simp)) ?_; (try simp only [Act.put, List.setIfInBounds_toArray, List.set_cons_zero, List.set_cons_succ, Array.toArray_toList, List.getElem_toArray, List.getElem_cons_succ, List.getElem_cons_zero]))
      (refine Sch.t_val hO rfl (by rfl) (v := .string ((⟨#[48, 49, 50, 51, 52, 53, 54, 55, 56, 57]⟩ : ByteArray).extract q (q + 1))) (fun w _ => (by go_simp; rw [if_pos (by omega), if_pos (by omega)])) ?_; (try simp only [Act.put, List.setIfInBounds_toArray, List.set_cons_zero, List.set_cons_succ, Array.toArray_toList, List.getElem_toArray, List.getElem_cons_succ, List.getElem_cons_zero]))
      (refine Sch.t_val hO rfl (by rfl) (v := .string (x ++ (⟨#[48, 49, 50, 51, 52, 53, 54, 55, 56, 57]⟩ : ByteArray).extract q (q + 1))) (fun w _ => (by go_simp; omega)) ?_; (try simp only [Act.put, List.setIfInBounds_toArray, List.set_cons_zero, List.set_cons_succ, Array.toArray_toList, List.getElem_toArray, List.getElem_cons_succ, List.getElem_cons_zero]))
      (refine Sch.t_move hO rfl (by rfl) (v := .string (x ++ (⟨#[48, 49, 50, 51, 52, 53, 54, 55, 56, 57]⟩ : ByteArray).extract q (q + 1))) (.inr rfl) rfl ?_; (try simp only [Act.put, List.setIfInBounds_toArray, List.set_cons_zero, List.set_cons_succ, Array.toArray_toList, List.getElem_toArray, List.getElem_cons_succ, List.getElem_cons_zero]))
      refine Sch.t_done ?_
      obtain ⟨w1, ew⟩ : ∃ W, W = wr.drew := ⟨_, rfl⟩
      rw [← ew] at hHeld ⊢
      clear ew
      replace HB := hide (HB.out.trans (hHeld.mono HB.out.size))
      clear hHeld hO
      go_wp2_with fail
      go_roundw
      case rel =>
        refine ⟨K + 1, _, by omega, ?_, rfl, by go_num, HB⟩
        rw [ByteArray.size_append, ByteArray.size_extract, hx]
        show K + (min (q + 1) 10 - q) = K + 1
        omega
      case measure => simp [intOf]; omega
    · obtain rfl : K = l.length := by omega
      have HP1 := fun w => parse_c x (by omega) w
      have HP2 := fun w => rparse_c x (by omega) w
      obtain ⟨Z, eZ⟩ : ∃ Z, prV x.data.toList = Z := ⟨_, rfl⟩
      obtain ⟨E, eE⟩ : ∃ E, prE x.data.toList = E := ⟨_, rfl⟩
      rw [eZ, eE] at HP1 HP2
      replace HP1 := hide HP1
      replace HP2 := hide HP2
      clear eZ eE hr hk
      go_wp2_with fail
      go_loopw [7, 8] (fun v7 v8 wr => ∃ (K : Nat) (y : ByteArray), K ≤ M ∧ y.data.toList = List.replicate K 57 ∧ v7 = .string y ∧ v8 = .int .i64 K ∧ Hid (Below w.heap.size w wr)) (fun _ v8 _ => (M - (intOf v8).toNat))
      case atStart => exact ⟨0, ⟨#[]⟩, by omega, rfl, rfl, rfl, HB⟩
      case round =>
        clear HB hx
        obtain ⟨K, y, hK, hy, rfl, rfl, HB⟩ := hrel
        have hys : y.size = K := by
          rw [← ByteArray.size_data, ← Array.length_toList, hy, List.length_replicate]
        rcases Nat.lt_or_ge K M with hk | hk
        · have hk0 : (K : Int) < M := by omega
          have hy90 : y.size ≤ 90 := by omega
          go_wp2_with fail
          refine (HM.out _).mono ?_
          rintro e wr' ⟨rfl, rfl⟩
          go_wp2_with fail
          go_roundw
          case rel =>
            refine ⟨K + 1, y ++ ⟨#[57]⟩, by omega, ?_, rfl, by go_num, HB⟩
            rw [List.replicate_succ', ← hy]
            simp
          case measure => simp [intOf]; omega
        · obtain rfl : K = M := by omega
          have HP3 := fun w => parse_c y (by omega) w
          rw [hy] at HP3
          obtain ⟨Y, eY⟩ : ∃ Y, prV (List.replicate K 57) = Y := ⟨_, rfl⟩
          rw [eY] at HP3
          have hk0 : ¬ ((K : Int) < K) := by omega
          clear eY hy
          rcases Nat.eq_zero_or_pos K with h0 | h0
          · subst h0
            rw [nines_zero] at HP3
            replace HP3 := hide HP3
            go_wp2_with fail
            refine (HM.out _).mono ?_
            rintro e wr' ⟨rfl, rfl⟩
            go_wp2_with fail
            refine (HP1.out _).mono ?_
            rintro e w1 ⟨rfl, hbc⟩
            replace HB := hide (HB.out.trans (hbc.mono HB.out.size))
            clear hbc
            go_wp2_with (first | (refine n_alloc (by rfl) (T := 24) rfl dg_z0 (ds := #[.int .u64 0, .int .u64 0, .int .u64 0, .int .u64 0]) rfl ?_; intro w2 Hb9 hbn; have hsz_w1 := HB.out.size; replace HB := hide (HB.out.trans (hbn.mono HB.out.size)); clear hbn; replace Hb9 := hide Hb9) | (refine n_storew (by rfl) (T := 24) (x := (.tmp 9)) (y := (.tmp 51)) rfl (g := w1.heap.size) rfl (vs := #[.int .u64 (lim Z 0), .int .u64 (lim Z 1), .int .u64 (lim Z 2), .int .u64 (lim Z 3)]) rfl (by first | (simp [Value.oneCell']; done)) Hb9.out rfl dg_s1 ?_; clear Hb9; intro w3 Hb9 hun; replace Hb9 := hide Hb9; replace HB := hide (hun.keep w.heap.size w (by omega) HB.out); clear hun))
            refine (HP2.out _).mono ?_
            rintro e w4 ⟨rfl, hbc⟩
            replace HB := hide (HB.out.trans (hbc.mono HB.out.size))
            replace Hb9 := hide (Hb9.out.below hbc Hb9.out.lt)
            clear hbc
            go_wp2_with (first | (refine n_alloc (by rfl) (T := 24) rfl dg_z0 (ds := #[.int .u64 0, .int .u64 0, .int .u64 0, .int .u64 0]) rfl ?_; intro w5 Hb11 hbn; have hsz_w4 := HB.out.size; have lt_b9_b11 := Hb9.out.lt; replace HB := hide (HB.out.trans (hbn.mono HB.out.size)); replace Hb9 := hide (Hb9.out.below hbn Hb9.out.lt); clear hbn; replace Hb11 := hide Hb11) | (refine n_storew (by rfl) (T := 24) (x := (.tmp 11)) (y := (.tmp 56)) rfl (g := w4.heap.size) rfl (vs := #[.int .u64 (lim Z 0), .int .u64 (lim Z 1), .int .u64 (lim Z 2), .int .u64 (lim Z 3)]) rfl (by first | (simp [Value.oneCell']; done)) Hb11.out rfl dg_s1 ?_; clear Hb11; intro w6 Hb11 hun; replace Hb11 := hide Hb11; replace HB := hide (hun.keep w.heap.size w (by omega) HB.out); replace Hb9 := hide (Hb9.out.upd hun (by omega)); clear hun))
            refine (HP3.out _).mono ?_
            rintro e w7 ⟨rfl, hbc⟩
            replace HB := hide (HB.out.trans (hbc.mono HB.out.size))
            replace Hb9 := hide (Hb9.out.below hbc Hb9.out.lt)
            replace Hb11 := hide (Hb11.out.below hbc Hb11.out.lt)
            clear hbc
            go_wp2_with (first | (refine n_alloc (by rfl) (T := 24) rfl dg_z0 (ds := #[.int .u64 0, .int .u64 0, .int .u64 0, .int .u64 0]) rfl ?_; intro w8 Hb13 hbn; have hsz_w7 := HB.out.size; have lt_b9_b13 := Hb9.out.lt; have lt_b11_b13 := Hb11.out.lt; replace HB := hide (HB.out.trans (hbn.mono HB.out.size)); replace Hb9 := hide (Hb9.out.below hbn Hb9.out.lt); replace Hb11 := hide (Hb11.out.below hbn Hb11.out.lt); clear hbn; replace Hb13 := hide Hb13) | (refine n_storew (by rfl) (T := 24) (x := (.tmp 13)) (y := (.tmp 61)) rfl (g := w7.heap.size) rfl (vs := #[.int .u64 (lim Y 0), .int .u64 (lim Y 1), .int .u64 (lim Y 2), .int .u64 (lim Y 3)]) rfl (by first | (simp [Value.oneCell']; done)) Hb13.out rfl dg_s1 ?_; clear Hb13; intro w9 Hb13 hun; replace Hb13 := hide Hb13; replace HB := hide (hun.keep w.heap.size w (by omega) HB.out); replace Hb9 := hide (Hb9.out.upd hun (by omega)); replace Hb11 := hide (Hb11.out.upd hun (by omega)); clear hun) | (refine n_loadw (by rfl) (T := 24) (x := (.tmp 9)) rfl (g := w1.heap.size) rfl Hb9.out Try.underlying24 rfl dg_s1 ?_) | (refine n_loadw (by rfl) (T := 24) (x := (.tmp 11)) rfl (g := w4.heap.size) rfl Hb11.out Try.underlying24 rfl dg_s1 ?_))
            refine (awake4_c _).mono ?_
            rintro e w10 ⟨rfl, hbc⟩
            replace HB := hide (HB.out.trans (hbc.mono HB.out.size))
            replace Hb9 := hide (Hb9.out.below hbc Hb9.out.lt)
            replace Hb11 := hide (Hb11.out.below hbc Hb11.out.lt)
            replace Hb13 := hide (Hb13.out.below hbc Hb13.out.lt)
            clear hbc
            go_wp2_with fail
            go_ret
            exact ⟨rfl, HB.out⟩
          · rcases Nat.lt_or_ge 77 K with h7 | h7
            · rw [nines_over h7] at HP3
              replace HP3 := hide HP3
              have h1 : ¬ ((y.size : Int) = 0) := by omega
              have h2 : (77 : Int) < y.size := by omega
              go_wp2_with fail
              refine (HM.out _).mono ?_
              rintro e wr' ⟨rfl, rfl⟩
              go_wp2_with fail
              refine (HP1.out _).mono ?_
              rintro e w1 ⟨rfl, hbc⟩
              replace HB := hide (HB.out.trans (hbc.mono HB.out.size))
              clear hbc
              go_wp2_with (first | (refine n_alloc (by rfl) (T := 24) rfl dg_z0 (ds := #[.int .u64 0, .int .u64 0, .int .u64 0, .int .u64 0]) rfl ?_; intro w2 Hb9 hbn; have hsz_w1 := HB.out.size; replace HB := hide (HB.out.trans (hbn.mono HB.out.size)); clear hbn; replace Hb9 := hide Hb9) | (refine n_storew (by rfl) (T := 24) (x := (.tmp 9)) (y := (.tmp 51)) rfl (g := w1.heap.size) rfl (vs := #[.int .u64 (lim Z 0), .int .u64 (lim Z 1), .int .u64 (lim Z 2), .int .u64 (lim Z 3)]) rfl (by first | (simp [Value.oneCell']; done)) Hb9.out rfl dg_s1 ?_; clear Hb9; intro w3 Hb9 hun; replace Hb9 := hide Hb9; replace HB := hide (hun.keep w.heap.size w (by omega) HB.out); clear hun))
              refine (HP2.out _).mono ?_
              rintro e w4 ⟨rfl, hbc⟩
              replace HB := hide (HB.out.trans (hbc.mono HB.out.size))
              replace Hb9 := hide (Hb9.out.below hbc Hb9.out.lt)
              clear hbc
              go_wp2_with (first | (refine n_alloc (by rfl) (T := 24) rfl dg_z0 (ds := #[.int .u64 0, .int .u64 0, .int .u64 0, .int .u64 0]) rfl ?_; intro w5 Hb11 hbn; have hsz_w4 := HB.out.size; have lt_b9_b11 := Hb9.out.lt; replace HB := hide (HB.out.trans (hbn.mono HB.out.size)); replace Hb9 := hide (Hb9.out.below hbn Hb9.out.lt); clear hbn; replace Hb11 := hide Hb11) | (refine n_storew (by rfl) (T := 24) (x := (.tmp 11)) (y := (.tmp 56)) rfl (g := w4.heap.size) rfl (vs := #[.int .u64 (lim Z 0), .int .u64 (lim Z 1), .int .u64 (lim Z 2), .int .u64 (lim Z 3)]) rfl (by first | (simp [Value.oneCell']; done)) Hb11.out rfl dg_s1 ?_; clear Hb11; intro w6 Hb11 hun; replace Hb11 := hide Hb11; replace HB := hide (hun.keep w.heap.size w (by omega) HB.out); replace Hb9 := hide (Hb9.out.upd hun (by omega)); clear hun))
              refine (HP3.out _).mono ?_
              rintro e w7 ⟨rfl, hbc⟩
              replace HB := hide (HB.out.trans (hbc.mono HB.out.size))
              replace Hb9 := hide (Hb9.out.below hbc Hb9.out.lt)
              replace Hb11 := hide (Hb11.out.below hbc Hb11.out.lt)
              clear hbc
              go_wp2_with (first | (refine n_alloc (by rfl) (T := 24) rfl dg_z0 (ds := #[.int .u64 0, .int .u64 0, .int .u64 0, .int .u64 0]) rfl ?_; intro w8 Hb13 hbn; have hsz_w7 := HB.out.size; have lt_b9_b13 := Hb9.out.lt; have lt_b11_b13 := Hb11.out.lt; replace HB := hide (HB.out.trans (hbn.mono HB.out.size)); replace Hb9 := hide (Hb9.out.below hbn Hb9.out.lt); replace Hb11 := hide (Hb11.out.below hbn Hb11.out.lt); clear hbn; replace Hb13 := hide Hb13) | (refine n_storew (by rfl) (T := 24) (x := (.tmp 13)) (y := (.tmp 61)) rfl (g := w7.heap.size) rfl (vs := #[.int .u64 (lim Y 0), .int .u64 (lim Y 1), .int .u64 (lim Y 2), .int .u64 (lim Y 3)]) rfl (by first | (simp [Value.oneCell']; done)) Hb13.out rfl dg_s1 ?_; clear Hb13; intro w9 Hb13 hun; replace Hb13 := hide Hb13; replace HB := hide (hun.keep w.heap.size w (by omega) HB.out); replace Hb9 := hide (Hb9.out.upd hun (by omega)); replace Hb11 := hide (Hb11.out.upd hun (by omega)); clear hun) | (refine n_loadw (by rfl) (T := 24) (x := (.tmp 9)) rfl (g := w1.heap.size) rfl Hb9.out Try.underlying24 rfl dg_s1 ?_) | (refine n_loadw (by rfl) (T := 24) (x := (.tmp 11)) rfl (g := w4.heap.size) rfl Hb11.out Try.underlying24 rfl dg_s1 ?_))
              refine (awake4_c _).mono ?_
              rintro e w10 ⟨rfl, hbc⟩
              replace HB := hide (HB.out.trans (hbc.mono HB.out.size))
              replace Hb9 := hide (Hb9.out.below hbc Hb9.out.lt)
              replace Hb11 := hide (Hb11.out.below hbc Hb11.out.lt)
              replace Hb13 := hide (Hb13.out.below hbc Hb13.out.lt)
              clear hbc
              go_wp2_with fail
              go_ret
              exact ⟨rfl, HB.out⟩
            · rw [nines_fit h0 h7] at HP3
              replace HP3 := hide HP3
              have h1 : ¬ ((y.size : Int) = 0) := by omega
              have h2 : ¬ ((77 : Int) < y.size) := by omega
              go_wp2_with fail
              refine (HM.out _).mono ?_
              rintro e wr' ⟨rfl, rfl⟩
              go_wp2_with fail
              refine (HP1.out _).mono ?_
              rintro e w1 ⟨rfl, hbc⟩
              replace HB := hide (HB.out.trans (hbc.mono HB.out.size))
              clear hbc
              go_wp2_with (first | (refine n_alloc (by rfl) (T := 24) rfl dg_z0 (ds := #[.int .u64 0, .int .u64 0, .int .u64 0, .int .u64 0]) rfl ?_; intro w2 Hb9 hbn; have hsz_w1 := HB.out.size; replace HB := hide (HB.out.trans (hbn.mono HB.out.size)); clear hbn; replace Hb9 := hide Hb9) | (refine n_storew (by rfl) (T := 24) (x := (.tmp 9)) (y := (.tmp 51)) rfl (g := w1.heap.size) rfl (vs := #[.int .u64 (lim Z 0), .int .u64 (lim Z 1), .int .u64 (lim Z 2), .int .u64 (lim Z 3)]) rfl (by first | (simp [Value.oneCell']; done)) Hb9.out rfl dg_s1 ?_; clear Hb9; intro w3 Hb9 hun; replace Hb9 := hide Hb9; replace HB := hide (hun.keep w.heap.size w (by omega) HB.out); clear hun))
              refine (HP2.out _).mono ?_
              rintro e w4 ⟨rfl, hbc⟩
              replace HB := hide (HB.out.trans (hbc.mono HB.out.size))
              replace Hb9 := hide (Hb9.out.below hbc Hb9.out.lt)
              clear hbc
              go_wp2_with (first | (refine n_alloc (by rfl) (T := 24) rfl dg_z0 (ds := #[.int .u64 0, .int .u64 0, .int .u64 0, .int .u64 0]) rfl ?_; intro w5 Hb11 hbn; have hsz_w4 := HB.out.size; have lt_b9_b11 := Hb9.out.lt; replace HB := hide (HB.out.trans (hbn.mono HB.out.size)); replace Hb9 := hide (Hb9.out.below hbn Hb9.out.lt); clear hbn; replace Hb11 := hide Hb11) | (refine n_storew (by rfl) (T := 24) (x := (.tmp 11)) (y := (.tmp 56)) rfl (g := w4.heap.size) rfl (vs := #[.int .u64 (lim Z 0), .int .u64 (lim Z 1), .int .u64 (lim Z 2), .int .u64 (lim Z 3)]) rfl (by first | (simp [Value.oneCell']; done)) Hb11.out rfl dg_s1 ?_; clear Hb11; intro w6 Hb11 hun; replace Hb11 := hide Hb11; replace HB := hide (hun.keep w.heap.size w (by omega) HB.out); replace Hb9 := hide (Hb9.out.upd hun (by omega)); clear hun))
              refine (HP3.out _).mono ?_
              rintro e w7 ⟨rfl, hbc⟩
              replace HB := hide (HB.out.trans (hbc.mono HB.out.size))
              replace Hb9 := hide (Hb9.out.below hbc Hb9.out.lt)
              replace Hb11 := hide (Hb11.out.below hbc Hb11.out.lt)
              clear hbc
              go_wp2_with (first | (refine n_alloc (by rfl) (T := 24) rfl dg_z0 (ds := #[.int .u64 0, .int .u64 0, .int .u64 0, .int .u64 0]) rfl ?_; intro w8 Hb13 hbn; have hsz_w7 := HB.out.size; have lt_b9_b13 := Hb9.out.lt; have lt_b11_b13 := Hb11.out.lt; replace HB := hide (HB.out.trans (hbn.mono HB.out.size)); replace Hb9 := hide (Hb9.out.below hbn Hb9.out.lt); replace Hb11 := hide (Hb11.out.below hbn Hb11.out.lt); clear hbn; replace Hb13 := hide Hb13) | (refine n_storew (by rfl) (T := 24) (x := (.tmp 13)) (y := (.tmp 61)) rfl (g := w7.heap.size) rfl (vs := #[.int .u64 (lim Y 0), .int .u64 (lim Y 1), .int .u64 (lim Y 2), .int .u64 (lim Y 3)]) rfl (by first | (simp [Value.oneCell']; done)) Hb13.out rfl dg_s1 ?_; clear Hb13; intro w9 Hb13 hun; replace Hb13 := hide Hb13; replace HB := hide (hun.keep w.heap.size w (by omega) HB.out); replace Hb9 := hide (Hb9.out.upd hun (by omega)); replace Hb11 := hide (Hb11.out.upd hun (by omega)); clear hun) | (refine n_loadw (by rfl) (T := 24) (x := (.tmp 9)) rfl (g := w1.heap.size) rfl Hb9.out Try.underlying24 rfl dg_s1 ?_) | (refine n_loadw (by rfl) (T := 24) (x := (.tmp 11)) rfl (g := w4.heap.size) rfl Hb11.out Try.underlying24 rfl dg_s1 ?_))
              refine (awake4_c _).mono ?_
              rintro e w10 ⟨rfl, hbc⟩
              replace HB := hide (HB.out.trans (hbc.mono HB.out.size))
              replace Hb9 := hide (Hb9.out.below hbc Hb9.out.lt)
              replace Hb11 := hide (Hb11.out.below hbc Hb11.out.lt)
              replace Hb13 := hide (Hb13.out.below hbc Hb13.out.lt)
              clear hbc
              go_wp2_with fail
              go_ret
              exact ⟨rfl, HB.out⟩
theorem DecimalDigits_walk (A : Option Addr) (n c : Nat) (l : List UInt8) (m : Int) (hn : n = l.length) (hc : n ≤ c) (hm : c ≤ maxLen) (wm : (Lit.int .i64 m).wf = true) (w : World) (hr : BRow w A l) :
    Calls Try.prog 4 #[.slice A n c, .int .i64 m] w fun e w' => e = .returned (.bool true) ∧ Below w.heap.size w w' :=
  Digits_in A n c l hn hc hm m w hr
end Go.Proofs.Ythikkajjnfeigaa
