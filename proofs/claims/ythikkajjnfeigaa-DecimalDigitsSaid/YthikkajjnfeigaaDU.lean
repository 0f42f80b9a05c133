/- pontageref4.Parse, walked. -/
import Derived.WalkKit
import Derived.KernelRfl
import Derived.RowKit3
import Derived.Deep.LoopGhost
import Derived.Deep.QuietTactic
import Derived.BigQuiet
import Derived.WideLaws
import Derived.Laws.Rows
import Derived.Below
import Derived.Deep.Draws
import Derived.Outline
import Derived.LoopN
import Derived.Handy
import Derived.Laws.Externs
import Derived.Laws.BitsAllLaws
import Derived.Laws.BitsLemmas
import Derived.Deep.DeepCutAuto
import Derived.Deep.CutBlock
import Derived.Deep.RegionHeld3
import Derived.Test.YthikkajjnfeigaaDQ
import Derived.Test.YthikkajjnfeigaaR15
namespace Go.Proofs.Ythikkajjnfeigaa
open Go.RowKit
set_option linter.unusedVariables false
set_option linter.unusedSimpArgs false
theorem pr_long {l : List UInt8} (h : canB l = true) (hl : 78 < l.length) : prV l = 0 ∧ prE l = 4 := by
  have h1 := canon_long (canB_iff.1 h) (k := nf) (by decide) hl
  have h2 : ¬ pv l 0 < M256 := Nat.not_lt.2 (Nat.le_trans (Nat.le_of_lt m256_78) h1)
  exact ⟨if_neg (fun hh => h2 hh.2), by rw [prE, if_pos h, if_neg h2]⟩
theorem pr_chk {l : List UInt8} (h : canB l = true) : prV l = chkV (pv l 0) ∧ prE l = chkE (pv l 0) := by
  unfold prV prE chkV chkE
  rw [if_pos h]
  refine ⟨?_, rfl⟩
  by_cases h1 : pv l 0 < M256
  · rw [if_pos ⟨h, h1⟩, if_pos h1]
  · rw [if_neg (fun hh => h1 hh.2), if_neg h1]
theorem du_z0 : (Try.prog.info? 24).map (fun i => (i.zero, i.size)) = some (some (.agg #[.int .u64 0, .int .u64 0, .int .u64 0, .int .u64 0]), 4) := by kernel_rfl
theorem du_s1 : (Try.prog.info? 24).map (·.size) = some 4 := by kernel_rfl
set_option maxRecDepth 20000 in
set_option maxHeartbeats 16000000 in
theorem rparse_c (s : ByteArray) (hs : s.size ≤ 1000000) (w : World) :
    Calls Try.prog 12 #[.string s] w fun e w' => e = .returned (.tuple #[.agg #[.int .u64 (lim (prV s.data.toList) 0), .int .u64 (lim (prV s.data.toList) 1), .int .u64 (lim (prV s.data.toList) 2), .int .u64 (lim (prV s.data.toList) 3)], .int .i64 (prE s.data.toList)]) ∧ Below w.heap.size w w' := by
  have HC := fun w => risc_c s hs w
  by_cases hc : canB s.data.toList = true
  · rw [hc] at HC
    replace HC := hide HC
    by_cases h78 : 78 < s.size
    · obtain ⟨r1, r2⟩ := pr_long hc h78
      rw [r1, r2, lim_zero, lim_zero, lim_zero, lim_zero]
      have h78' : (78 : Int) < (s.size : Int) := by omega
      clear r1 r2 hc h78
      go_enter Try.func12, Try.ntmps12
      go_wp2_with (first | (refine n_alloc (by rfl) (T := 24) rfl du_z0 (ds := #[.int .u64 0, .int .u64 0, .int .u64 0, .int .u64 0]) rfl ?_; intro w1 Hb2 hbn; have HB := hide hbn; clear hbn; replace Hb2 := hide Hb2))
      refine (HC.out _).mono ?_
      rintro e w1' ⟨rfl, rfl⟩
      go_wp2_with (first | (refine n_storew (by rfl) (T := 24) (x := (.tmp 2)) (y := (.tmp 13)) rfl (g := w.heap.size) rfl (vs := #[.int .u64 0, .int .u64 0, .int .u64 0, .int .u64 0]) rfl (by first | (simp [Value.oneCell']; done)) Hb2.out rfl du_s1 ?_; clear Hb2; intro w2 Hb2 hun; replace Hb2 := hide Hb2; replace HB := hide (hun.keep w.heap.size w (by omega) HB.out); clear hun))
      exact bodyPost_ret (results2 rfl (reads_row (g := w.heap.size) rfl Hb2.out Try.underlying24 rfl du_s1) (reads_tmp rfl)) rfl ⟨rfl, HB.out⟩
    · have h78' : (s.size : Int) ≤ 78 := by omega
      have hs78 : s.size ≤ 78 := by omega
      have hdig : ∀ j (hj : j < s.data.toList.length), 48 ≤ s.data.toList[j].toNat ∧ s.data.toList[j].toNat ≤ 57 := fun j hj => (canB_iff.1 hc).dig _ (List.getElem_mem hj)
      replace hdig := hide hdig
      have hc' := hide hc
      clear hc h78
      go_enter Try.func12, Try.ntmps12
      go_wp2_with (first | (refine n_alloc (by rfl) (T := 24) rfl du_z0 (ds := #[.int .u64 0, .int .u64 0, .int .u64 0, .int .u64 0]) rfl ?_; intro w1 Hb2 hbn; have HB := hide hbn; clear hbn; replace Hb2 := hide Hb2))
      refine (HC.out _).mono ?_
      rintro e w1' ⟨rfl, rfl⟩
      go_wp2_with fail
      have lb2 := Hb2.out.lt
      go_loopw [5, 4] (fun v5 v4 wr => ∃ (K : Nat) (ad : Option Addr) (m c : Nat), K ≤ s.size ∧ v5 = .int .i64 K ∧ v4 = .slice ad m c ∧ m ≤ 40 * K ∧ Hid (Big wr ad m c (pv (s.data.toList.take K) 0)) ∧ Hid (Below w.heap.size w wr) ∧ Hid (NB wr (w.heap.size) #[.int .u64 0, .int .u64 0, .int .u64 0, .int .u64 0] 24)) (fun v5 _ _ => s.size - (intOf v5).toNat)
      case atStart => exact ⟨0, none, 0, 0, by omega, rfl, rfl, by omega, hide ⟨by rw [List.take_zero, pv_nil]; exact nd_zero.symm, Nat.le_refl _, fun h => absurd (by rw [List.take_zero, pv_nil]; exact List.eq_nil_of_length_eq_zero nd_zero) h⟩, HB, Hb2⟩
      case round =>
        obtain ⟨K, ad, m, c, hK, rfl, rfl, hm, G0, HB, Hb2⟩ := hrel
        rcases Nat.lt_or_ge K s.size with hlt | hge
        · have hk1 : (K : Int) < (s.size : Int) := by omega
          have hk0 : (0 : Int) ≤ (K : Int) := by omega
          have hst := pv_step (l := s.data.toList) (K := K) hlt
          have hdg := hdig.out K hlt
          obtain ⟨D, eD⟩ : ∃ D : Int, (s[K].toNat : Int) - 48 = D := ⟨_, rfl⟩
          have hD : D = ((s.data.toList[K].toNat - 48 : Nat) : Int) := by
            have : s.data.toList[K].toNat = s[K].toNat := rfl
            omega
          have hD0 : 0 ≤ D := by omega
          have hD9 : D ≤ 9 := by omega
          have hc48 : (48 : Int) ≤ (s[K].toNat : Int) := by omega
          have hw8 : IntKind.u8.wrap D = D := by rw [IntKind.wrap_u8]; omega
          have hw64 : IntKind.u64.wrap D = D := by rw [IntKind.wrap_u64]; omega
          have hws : IntKind.u8.wrap ((s[K].toNat : Int) - 48) = D := by rw [eD]; exact hw8
          have F10 := hide (fun w => from64_c (x := 10) (by omega) (by omega) w)
          have FD := hide (fun w => from64_c (x := D) hD0 (by omega) w)
          have HN' := hide (show pv (s.data.toList.take (K + 1)) 0 = pv (s.data.toList.take K) 0 * (10 : Int).toNat + D.toNat by
            rw [hst, show (10 : Int).toNat = 10 from rfl]
            omega)
          obtain ⟨N, eN⟩ : ∃ N, pv (s.data.toList.take K) 0 = N := ⟨_, rfl⟩
          rw [eN] at G0 HN'
          clear hst eN eD hD hdg
          go_upto_region 9 with fail
          refine Sch.start (Sch.take 0 (Sch.take 3 (Sch.take 4 (Sch.take 5 (Sch.take 6 (Sch.take 7 (Sch.one 1 (Sch.one 2 (Sch.one 8 (Sch.one 9 (Sch.take 10 Sch.done))))))))))) (S := fun w' => Below wr.heap.size wr w') (by kernel_rfl) (by kernel_rfl) (fun _ d _ _ _ h => by cases d <;> exact h) (by kernel_rfl) ((Below.refl _ _).drew) (fun O hO hHeld => ?_)
          (refine Sch.t_move hO rfl (by rfl) (v := .slice ad m c) (.inl rfl) rfl ?_; (try simp only [Act.put, List.setIfInBounds_toArray, List.set_cons_zero, List.set_cons_succ, Array.toArray_toList, List.getElem_toArray, List.getElem_cons_succ, List.getElem_cons_zero]))
          (refine Sch.t_move hO rfl (by rfl) (v := .string s) (.inl rfl) rfl ?_; (try simp only [Act.put, List.setIfInBounds_toArray, List.set_cons_zero, List.set_cons_succ, Array.toArray_toList, List.getElem_toArray, List.getElem_cons_succ, List.getElem_cons_zero]))
          (refine Sch.t_move hO rfl (by rfl) (v := .int .i64 ((K : Int))) (.inl rfl) rfl ?_; (try simp only [Act.put, List.setIfInBounds_toArray, List.set_cons_zero, List.set_cons_succ, Array.toArray_toList, List.getElem_toArray, List.getElem_cons_succ, List.getElem_cons_zero]))
          (refine Sch.t_val hO rfl (by rfl) (v := .int .u8 (s[K].toNat : Int)) (fun w _ => (by go_simp)) ?_; (try simp only [Act.put, List.setIfInBounds_toArray, List.set_cons_zero, List.set_cons_succ, Array.toArray_toList, List.getElem_toArray, List.getElem_cons_succ, List.getElem_cons_zero]))
          (refine Sch.t_val hO rfl (by rfl) (v := .int .u8 D) (fun w _ => (by go_simp)) ?_; (try simp only [Act.put, List.setIfInBounds_toArray, List.set_cons_zero, List.set_cons_succ, Array.toArray_toList, List.getElem_toArray, List.getElem_cons_succ, List.getElem_cons_zero]))
          (refine Sch.t_val hO rfl (by rfl) (v := .int .u64 D) (fun w _ => (by go_simp)) ?_; (try simp only [Act.put, List.setIfInBounds_toArray, List.set_cons_zero, List.set_cons_succ, Array.toArray_toList, List.getElem_toArray, List.getElem_cons_succ, List.getElem_cons_zero]))
          refine Sch.s_one hO rfl (by rfl) (fun K hK => ?_)
          go_simp
          go_at_call 28
          refine (F10.out _).mono ?_
          rintro e y9_1 ⟨ad1, m1, c1, rfl, G1, k1, hb_y9_1⟩
          replace G0 := hide ((G0.out.below ((Below.refl wr.heap.size wr).drew) (Nat.le_refl _)).below hb_y9_1 (Nat.le_refl _))
          go_wp2_with fail
          refine hK.out _ _ (hHeld.trans (hb_y9_1.mono hHeld.size)) (fun hHeld => ?_)
          clear hK K
          (try simp only [Act.put, List.setIfInBounds_toArray, List.set_cons_zero, List.set_cons_succ, Array.toArray_toList, List.getElem_toArray, List.getElem_cons_succ, List.getElem_cons_zero])
          refine Sch.s_one hO rfl (by rfl) (fun K hK => ?_)
          go_simp
          go_at_call 27
          refine (rmul_c _ _ _ _ _ _ _ G0 G1 (by omega) (by omega)).mono ?_
          rintro e y9_2 ⟨ad2, m2, c2, rfl, G2, k2, hb_y9_2⟩
          go_wp2_with fail
          refine hK.out _ _ (hHeld.trans (hb_y9_2.mono hHeld.size)) (fun hHeld => ?_)
          clear hK K
          (try simp only [Act.put, List.setIfInBounds_toArray, List.set_cons_zero, List.set_cons_succ, Array.toArray_toList, List.getElem_toArray, List.getElem_cons_succ, List.getElem_cons_zero])
          refine Sch.s_one hO rfl (by rfl) (fun K hK => ?_)
          go_simp
          go_at_call 28
          refine (FD.out _).mono ?_
          rintro e y9_3 ⟨ad3, m3, c3, rfl, G3, k3, hb_y9_3⟩
          replace G2 := hide (G2.out.below hb_y9_3 (Nat.le_refl _))
          go_wp2_with fail
          refine hK.out _ _ (hHeld.trans (hb_y9_3.mono hHeld.size)) (fun hHeld => ?_)
          clear hK K
          (try simp only [Act.put, List.setIfInBounds_toArray, List.set_cons_zero, List.set_cons_succ, Array.toArray_toList, List.getElem_toArray, List.getElem_cons_succ, List.getElem_cons_zero])
          refine Sch.s_one hO rfl (by rfl) (fun K hK => ?_)
          go_simp
          go_at_call 26
          refine (radd_c _ _ _ _ _ _ _ G2 G3 (by omega) (by omega)).mono ?_
          rintro e y9_4 ⟨ad4, m4, c4, rfl, G4, k4, hb_y9_4⟩
          go_wp2_with fail
          refine hK.out _ _ (hHeld.trans (hb_y9_4.mono hHeld.size)) (fun hHeld => ?_)
          clear hK K
          (try simp only [Act.put, List.setIfInBounds_toArray, List.set_cons_zero, List.set_cons_succ, Array.toArray_toList, List.getElem_toArray, List.getElem_cons_succ, List.getElem_cons_zero])
          (refine Sch.t_move hO rfl (by rfl) (v := .slice ad4 m4 c4) (.inr rfl) rfl ?_; (try simp only [Act.put, List.setIfInBounds_toArray, List.set_cons_zero, List.set_cons_succ, Array.toArray_toList, List.getElem_toArray, List.getElem_cons_succ, List.getElem_cons_zero]))
          refine Sch.t_done ?_
          replace HB := hide (HB.out.trans (hHeld.mono HB.out.size))
          replace Hb2 := hide (Hb2.out.below hHeld Hb2.out.lt)
          clear hHeld hO
          go_wp2_with fail
          go_roundw
          case rel => exact ⟨K + 1, ad4, m4, c4, by omega, by go_num, rfl, by omega, hide (by rw [HN'.out]; exact G4.out), HB, Hb2⟩
          case measure => simp [intOf]; omega
        · obtain rfl : K = s.size := by omega
          have hk2 : ¬ ((s.size : Nat) : Int) < (s.size : Int) := by omega
          rw [show s.data.toList.take s.size = s.data.toList from List.take_of_length_le (Nat.le_refl _)] at G0
          obtain ⟨q1, q2⟩ := pr_chk hc'.out
          obtain ⟨N, eN⟩ : ∃ N, pv s.data.toList 0 = N := ⟨_, rfl⟩
          rw [eN] at q1 q2 G0
          have hR := hide (show Ending.returned (.tuple #[.agg #[.int .u64 (lim (chkV N) 0), .int .u64 (lim (chkV N) 1), .int .u64 (lim (chkV N) 2), .int .u64 (lim (chkV N) 3)], .int .i64 (chkE N)]) = Ending.returned (.tuple #[.agg #[.int .u64 (lim (prV s.data.toList) 0), .int .u64 (lim (prV s.data.toList) 1), .int .u64 (lim (prV s.data.toList) 2), .int .u64 (lim (prV s.data.toList) 3)], .int .i64 (prE s.data.toList)]) by rw [q1, q2])
          clear eN q1 q2
          go_wp2_with fail
          refine (checked_c G0 (by omega)).mono ?_
          rintro e w2 ⟨rfl, hbc⟩
          replace HB := hide (HB.out.trans (hbc.mono HB.out.size))
          replace Hb2 := hide (Hb2.out.below hbc Hb2.out.lt)
          clear hbc
          go_wp2_with (first | (refine n_storew (by rfl) (T := 24) (x := (.tmp 2)) (y := (.tmp 32)) rfl (g := w.heap.size) rfl (vs := #[.int .u64 (lim (chkV N) 0), .int .u64 (lim (chkV N) 1), .int .u64 (lim (chkV N) 2), .int .u64 (lim (chkV N) 3)]) rfl (by first | (simp [Value.oneCell']; done)) Hb2.out rfl du_s1 ?_; clear Hb2; intro w3 Hb2 hun; replace Hb2 := hide Hb2; replace HB := hide (hun.keep w.heap.size w (by omega) HB.out); clear hun))
          exact bodyPost_ret (results2 rfl (reads_row (g := w.heap.size) rfl Hb2.out Try.underlying24 rfl du_s1) (reads_tmp rfl)) rfl ⟨hR.out, HB.out⟩
  · have hc2 : canB s.data.toList = false := by simpa using hc
    rw [hc2] at HC
    replace HC := hide HC
    rw [show prV s.data.toList = 0 from if_neg (fun h => hc h.1), show prE s.data.toList = 3 from if_neg hc, lim_zero, lim_zero, lim_zero, lim_zero]
    clear hc hc2
    go_enter Try.func12, Try.ntmps12
    go_wp2_with (first | (refine n_alloc (by rfl) (T := 24) rfl du_z0 (ds := #[.int .u64 0, .int .u64 0, .int .u64 0, .int .u64 0]) rfl ?_; intro w1 Hb2 hbn; have HB := hide hbn; clear hbn; replace Hb2 := hide Hb2))
    refine (HC.out _).mono ?_
    rintro e w1' ⟨rfl, rfl⟩
    go_wp2_with (first | (refine n_storew (by rfl) (T := 24) (x := (.tmp 2)) (y := (.tmp 9)) rfl (g := w.heap.size) rfl (vs := #[.int .u64 0, .int .u64 0, .int .u64 0, .int .u64 0]) rfl (by first | (simp [Value.oneCell']; done)) Hb2.out rfl du_s1 ?_; clear Hb2; intro w2 Hb2 hun; replace Hb2 := hide Hb2; replace HB := hide (hun.keep w.heap.size w (by omega) HB.out); clear hun))
    exact bodyPost_ret (results2 rfl (reads_row (g := w.heap.size) rfl Hb2.out Try.underlying24 rfl du_s1) (reads_tmp rfl)) rfl ⟨rfl, HB.out⟩
end Go.Proofs.Ythikkajjnfeigaa
