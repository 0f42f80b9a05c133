/- decimal.Parse, walked. -/
import Derived.WalkKit
import Derived.KernelRfl
import Derived.RowKit3
import Derived.Deep.LoopGhost
import Derived.Deep.QuietTactic
import Derived.BigQuiet
import Derived.WideLaws
import Derived.Laws.Rows
import Derived.Below
import Derived.Deep.Draws
import Derived.Outline
import Derived.LoopN
import Derived.Handy
import Derived.Laws.Externs
import Derived.Laws.BitsAllLaws
import Derived.Laws.BitsLemmas
import Derived.Deep.DeepCutAuto
import Derived.Deep.CutBlock
import Derived.Deep.RegionHeld3
import Derived.Test.YthikkajjnfeigaaDC
import Derived.Test.YthikkajjnfeigaaUM
import Derived.Test.YthikkajjnfeigaaSC
namespace Go.Proofs.Ythikkajjnfeigaa
open Go.RowKit
set_option linter.unusedVariables false
set_option linter.unusedSimpArgs false
def prV (l : List UInt8) : Nat := if canB l = true ∧ pv l 0 < M256 then pv l 0 else 0
def prE (l : List UInt8) : Int := if canB l = true then (if pv l 0 < M256 then 0 else 4) else 3
theorem prV_lt (l : List UInt8) : prV l < M256 := by
  unfold prV
  split
  · rename_i h; exact h.2
  · decide
theorem pr_over {l : List UInt8} (h : canB l = true) (k : Nat) (hk : M256 ≤ pv (l.take k) 0) : prV l = 0 ∧ prE l = 4 := by
  have h1 : ¬ pv l 0 < M256 := by have := pv_take l k; omega
  exact ⟨if_neg (fun hh => h1 hh.2), by rw [prE, if_pos h, if_neg h1]⟩
theorem pv_step {l : List UInt8} {K : Nat} (h : K < l.length) : pv (l.take (K + 1)) 0 = 10 * pv (l.take K) 0 + (l[K].toNat - 48) := by
  rw [List.take_succ_eq_append_getElem h, pv_snoc]
theorem dq_z0 : (Try.prog.info? 24).map (fun i => (i.zero, i.size)) = some (some (.agg #[.int .u64 0, .int .u64 0, .int .u64 0, .int .u64 0]), 4) := by kernel_rfl
theorem dq_s1 : (Try.prog.info? 24).map (·.size) = some 4 := by kernel_rfl
set_option maxRecDepth 20000 in
set_option maxHeartbeats 16000000 in
theorem parse_c (s : ByteArray) (hs : s.size ≤ 1000000) (w : World) :
    Calls Try.prog 11 #[.string s] w fun e w' => e = .returned (.tuple #[.agg #[.int .u64 (lim (prV s.data.toList) 0), .int .u64 (lim (prV s.data.toList) 1), .int .u64 (lim (prV s.data.toList) 2), .int .u64 (lim (prV s.data.toList) 3)], .int .i64 (prE s.data.toList)]) ∧ Below w.heap.size w w' := by
  have HC := fun w => isc_c s hs w
  by_cases hc : canB s.data.toList = true
  · rw [hc] at HC
    replace HC := hide HC
    have hdig : ∀ j (hj : j < s.data.toList.length), 48 ≤ s.data.toList[j].toNat ∧ s.data.toList[j].toNat ≤ 57 := fun j hj => (canB_iff.1 hc).dig _ (List.getElem_mem hj)
    replace hdig := hide hdig
    have hc' := hide hc
    clear hc
    go_enter Try.func11, Try.ntmps11
    go_wp2_with (first | (refine n_alloc (by rfl) (T := 24) rfl dq_z0 (ds := #[.int .u64 0, .int .u64 0, .int .u64 0, .int .u64 0]) rfl ?_; intro w1 Hb2 hbn; have HB := hide hbn; clear hbn; replace Hb2 := hide Hb2))
    refine (HC.out _).mono ?_
    rintro e w1' ⟨rfl, rfl⟩
    go_wp2_with (first | (refine n_alloc (by rfl) (T := 24) rfl dq_z0 (ds := #[.int .u64 0, .int .u64 0, .int .u64 0, .int .u64 0]) rfl ?_; intro w2 Hb4 hbn; have hsz_w1 := HB.out.size; have lt_b2_b4 := Hb2.out.lt; replace HB := hide (HB.out.trans (hbn.mono HB.out.size)); replace Hb2 := hide (Hb2.out.below hbn Hb2.out.lt); clear hbn; replace Hb4 := hide Hb4) | (refine n_storew (by rfl) (T := 24) (x := (.tmp 4)) (y := (.tmp 11)) rfl (g := w1.heap.size) rfl (vs := #[.int .u64 0, .int .u64 0, .int .u64 0, .int .u64 0]) rfl (by first | (simp [Value.oneCell']; done)) Hb4.out rfl dq_s1 ?_; clear Hb4; intro w3 Hb4 hun; replace Hb4 := hide Hb4; replace HB := hide (hun.keep w.heap.size w (by omega) HB.out); replace Hb2 := hide (Hb2.out.upd hun (by omega)); clear hun))
    go_loopw [14, 5] (fun v14 v5 wr => ∃ K : Nat, K ≤ s.size ∧ v14 = .int .i64 K ∧ v5 = .int .i64 0 ∧ pv (s.data.toList.take K) 0 < M256 ∧ Hid (Below w.heap.size w wr) ∧ Hid (NB wr (w.heap.size) #[.int .u64 0, .int .u64 0, .int .u64 0, .int .u64 0] 24) ∧ Hid (NB wr (w1.heap.size) #[.int .u64 (lim (pv (s.data.toList.take K) 0) 0), .int .u64 (lim (pv (s.data.toList.take K) 0) 1), .int .u64 (lim (pv (s.data.toList.take K) 0) 2), .int .u64 (lim (pv (s.data.toList.take K) 0) 3)] 24) ∧ w.heap.size ≤ w.heap.size ∧ w.heap.size < w1.heap.size) (fun v14 _ _ => s.size - (intOf v14).toNat)
    case atStart => exact ⟨0, by omega, rfl, rfl, (show (0 : Nat) < M256 by decide), HB, Hb2, by simpa [pv_nil, lim_zero] using Hb4, by omega, by omega⟩
    case round =>
      obtain ⟨K, hK, rfl, rfl, hN, HB, Hb2, Hb4, hg2, hg24⟩ := hrel
      rcases Nat.lt_or_ge K s.size with hlt | hge
      · have hk1 : (K : Int) < (s.size : Int) := by omega
        have hk0 : (0 : Int) ≤ (K : Int) := by omega
        have hst := pv_step (l := s.data.toList) (K := K) hlt
        have hdg := hdig.out K hlt
        obtain ⟨N, eN⟩ : ∃ N, pv (s.data.toList.take K) 0 = N := ⟨_, rfl⟩
        rw [eN] at hN Hb4 hst
        obtain ⟨D, eD⟩ : ∃ D : Int, (s[K].toNat : Int) - 48 = D := ⟨_, rfl⟩
        have hD : D = ((s.data.toList[K].toNat - 48 : Nat) : Int) := by
          have : s.data.toList[K].toNat = s[K].toNat := rfl
          omega
        have hD0 : 0 ≤ D := by omega
        have hD9 : D ≤ 9 := by omega
        have hc48 : (48 : Int) ≤ (s[K].toNat : Int) := by omega
        have hw8 : IntKind.u8.wrap D = D := by rw [IntKind.wrap_u8]; omega
        have hw64 : IntKind.u64.wrap D = D := by rw [IntKind.wrap_u64]; omega
        have hws : IntKind.u8.wrap ((s[K].toNat : Int) - 48) = D := by rw [eD]; exact hw8
        have HM := fun w => mul_c (isU_lim hN) (isU_one (n := 10) (by omega) (by omega)) w
        by_cases h1 : N * 10 < M256
        · rw [show mulV N (10 : Int).toNat = N * 10 from if_pos h1, show mulE N (10 : Int).toNat = 0 from if_pos h1] at HM
          have HA := fun w => add_c (isU_lim h1) (isU_one (n := D) hD0 (by omega)) w
          replace HM := hide HM
          have eDn : (s.data.toList[K].toNat - 48) = D.toNat := by omega
          rw [eDn] at hst
          by_cases h2 : N * 10 + D.toNat < M256
          · rw [show addV (N * 10) D.toNat = N * 10 + D.toNat from if_pos h2, show addE (N * 10) D.toNat = 0 from if_pos h2] at HA
            obtain ⟨N', eN'⟩ : ∃ x, N * 10 + D.toNat = x := ⟨_, rfl⟩
            rw [eN'] at HA h2
            have hN' := h2
            replace HA := hide HA
            have HN' := hide (show pv (s.data.toList.take (K + 1)) 0 = N' by rw [hst]; omega)
            clear hst eN eD hD eDn h1 h2 hdg eN'
            have lb2 := Hb2.out.lt
            have lb4 := Hb4.out.lt
            have lb0 := HB.out.size
            go_upto_region 7 with fail
            go_cut [5] (fun s5 wx => s5 = .int .i64 0 ∧ Exc (w1.heap.size) wr wx ∧ NB wx (w1.heap.size) (#[.int .u64 (lim (N * 10) 0), .int .u64 (lim (N * 10) 1), .int .u64 (lim (N * 10) 2), .int .u64 (lim (N * 10) 3)]) 24)
            case first =>
              refine Sch.start (Sch.two 0 (Sch.one 1 (Sch.one 2 (Sch.take 3 (Sch.take 4 (Sch.take 5 (Sch.one 6 (Sch.take 7 Sch.done))))))) 1 (Sch.one 0 (Sch.one 2 (Sch.take 3 (Sch.take 4 (Sch.take 5 (Sch.one 6 (Sch.take 7 Sch.done)))))))) (S := fun w' => Exc (w1.heap.size) wr w') (by kernel_rfl) (by kernel_rfl) (fun _ d _ _ _ h => by cases d <;> exact h) (by kernel_rfl) (Exc.refl _ _) (fun O hO hHeld => ?_)
              replace Hb4 := hide (show NB wr.drew (w1.heap.size) (#[.int .u64 (lim N 0), .int .u64 (lim N 1), .int .u64 (lim N 2), .int .u64 (lim N 3)]) 24 from Hb4.out)
              refine Sch.s_two hO rfl (by rfl) rfl (by rfl) (fun K hK => ?_) (fun K hK => ?_)
              · refine q_loads rfl (g := w1.heap.size) (o := 0) rfl Hb4.out (ds := #[.int .u64 (lim N 0), .int .u64 (lim N 1), .int .u64 (lim N 2), .int .u64 (lim N 3)]) (by rfl) Try.underlying24 rfl dq_s1 ?_
                refine hK.out _ _ hHeld (fun hHeld => ?_)
                clear hK K
                (try simp only [Act.put, List.setIfInBounds_toArray, List.set_cons_zero, List.set_cons_succ, Array.toArray_toList, List.getElem_toArray, List.getElem_cons_succ, List.getElem_cons_zero])
                refine Sch.s_one hO rfl (by rfl) (fun K hK => ?_)
                go_simp
                go_at_call 23
                refine (from_c _ _).mono ?_
                rintro e y7_1 ⟨rfl, hb_y7_1⟩
                go_wp2_with fail
                replace Hb4 := hide (Hb4.out.below hb_y7_1 Hb4.out.lt)
                refine hK.out _ _ (hHeld.trans hb_y7_1) (fun hHeld => ?_)
                clear hK K
                (try simp only [Act.put, List.setIfInBounds_toArray, List.set_cons_zero, List.set_cons_succ, Array.toArray_toList, List.getElem_toArray, List.getElem_cons_succ, List.getElem_cons_zero])
                refine Sch.s_one hO rfl (by rfl) (fun K hK => ?_)
                go_simp
                go_at_call 22
                refine (HM.out _).mono ?_
                rintro e y7_2 ⟨rfl, hb_y7_2⟩
                go_wp2_with fail
                replace Hb4 := hide (Hb4.out.below hb_y7_2 Hb4.out.lt)
                refine hK.out _ _ (hHeld.trans hb_y7_2) (fun hHeld => ?_)
                clear hK K
                (try simp only [Act.put, List.setIfInBounds_toArray, List.set_cons_zero, List.set_cons_succ, Array.toArray_toList, List.getElem_toArray, List.getElem_cons_succ, List.getElem_cons_zero])
                (refine Sch.t_move hO rfl (by rfl) (v := .tuple #[.agg (#[.int .u64 (lim (N * 10) 0), .int .u64 (lim (N * 10) 1), .int .u64 (lim (N * 10) 2), .int .u64 (lim (N * 10) 3)]), .int .i64 0]) (.inl rfl) rfl ?_; (try simp only [Act.put, List.setIfInBounds_toArray, List.set_cons_zero, List.set_cons_succ, Array.toArray_toList, List.getElem_toArray, List.getElem_cons_succ, List.getElem_cons_zero]))
                (refine Sch.t_val hO rfl (by rfl) (v := .agg (#[.int .u64 (lim (N * 10) 0), .int .u64 (lim (N * 10) 1), .int .u64 (lim (N * 10) 2), .int .u64 (lim (N * 10) 3)])) (fun w _ => (by go_simp)) ?_; (try simp only [Act.put, List.setIfInBounds_toArray, List.set_cons_zero, List.set_cons_succ, Array.toArray_toList, List.getElem_toArray, List.getElem_cons_succ, List.getElem_cons_zero]))
                (refine Sch.t_val hO rfl (by rfl) (v := .int .i64 0) (fun w _ => (by go_simp)) ?_; (try simp only [Act.put, List.setIfInBounds_toArray, List.set_cons_zero, List.set_cons_succ, Array.toArray_toList, List.getElem_toArray, List.getElem_cons_succ, List.getElem_cons_zero]))
                refine Sch.s_one hO rfl (by rfl) (fun K hK => ?_)
                refine q_storew rfl (g := w1.heap.size) rfl (vs := #[.int .u64 (lim (N * 10) 0), .int .u64 (lim (N * 10) 1), .int .u64 (lim (N * 10) 2), .int .u64 (lim (N * 10) 3)]) rfl (by first | (simp [Value.oneCell']; done)) Hb4.out rfl dq_s1 ?_
                clear Hb4
                intro y7_3 Hb4 hu_y7_3
                replace Hb4 := hide (show NB y7_3 (w1.heap.size) (#[.int .u64 (lim (N * 10) 0), .int .u64 (lim (N * 10) 1), .int .u64 (lim (N * 10) 2), .int .u64 (lim (N * 10) 3)]) 24 from Hb4)
                refine hK.out _ _ (hHeld.upd hu_y7_3) (fun hHeld => ?_)
                clear hK K
                (try simp only [Act.put, List.setIfInBounds_toArray, List.set_cons_zero, List.set_cons_succ, Array.toArray_toList, List.getElem_toArray, List.getElem_cons_succ, List.getElem_cons_zero])
                (refine Sch.t_move hO rfl (by rfl) (v := .int .i64 0) (.inr rfl) rfl ?_; (try simp only [Act.put, List.setIfInBounds_toArray, List.set_cons_zero, List.set_cons_succ, Array.toArray_toList, List.getElem_toArray, List.getElem_cons_succ, List.getElem_cons_zero]))
                refine Sch.t_done ?_
                go_wp2_with fail
                go_meet
                exact ⟨rfl, hHeld, Hb4.out⟩
              · go_simp
                go_at_call 23
                refine (from_c _ _).mono ?_
                rintro e y7_4 ⟨rfl, hb_y7_4⟩
                go_wp2_with fail
                replace Hb4 := hide (Hb4.out.below hb_y7_4 Hb4.out.lt)
                refine hK.out _ _ (hHeld.trans hb_y7_4) (fun hHeld => ?_)
                clear hK K
                (try simp only [Act.put, List.setIfInBounds_toArray, List.set_cons_zero, List.set_cons_succ, Array.toArray_toList, List.getElem_toArray, List.getElem_cons_succ, List.getElem_cons_zero])
                refine Sch.s_one hO rfl (by rfl) (fun K hK => ?_)
                refine q_loads rfl (g := w1.heap.size) (o := 0) rfl Hb4.out (ds := #[.int .u64 (lim N 0), .int .u64 (lim N 1), .int .u64 (lim N 2), .int .u64 (lim N 3)]) (by rfl) Try.underlying24 rfl dq_s1 ?_
                refine hK.out _ _ hHeld (fun hHeld => ?_)
                clear hK K
                (try simp only [Act.put, List.setIfInBounds_toArray, List.set_cons_zero, List.set_cons_succ, Array.toArray_toList, List.getElem_toArray, List.getElem_cons_succ, List.getElem_cons_zero])
                refine Sch.s_one hO rfl (by rfl) (fun K hK => ?_)
                go_simp
                go_at_call 22
                refine (HM.out _).mono ?_
                rintro e y7_5 ⟨rfl, hb_y7_5⟩
                go_wp2_with fail
                replace Hb4 := hide (Hb4.out.below hb_y7_5 Hb4.out.lt)
                refine hK.out _ _ (hHeld.trans hb_y7_5) (fun hHeld => ?_)
                clear hK K
                (try simp only [Act.put, List.setIfInBounds_toArray, List.set_cons_zero, List.set_cons_succ, Array.toArray_toList, List.getElem_toArray, List.getElem_cons_succ, List.getElem_cons_zero])
                (refine Sch.t_move hO rfl (by rfl) (v := .tuple #[.agg (#[.int .u64 (lim (N * 10) 0), .int .u64 (lim (N * 10) 1), .int .u64 (lim (N * 10) 2), .int .u64 (lim (N * 10) 3)]), .int .i64 0]) (.inl rfl) rfl ?_; (try simp only [Act.put, List.setIfInBounds_toArray, List.set_cons_zero, List.set_cons_succ, Array.toArray_toList, List.getElem_toArray, List.getElem_cons_succ, List.getElem_cons_zero]))
                (refine Sch.t_val hO rfl (by rfl) (v := .agg (#[.int .u64 (lim (N * 10) 0), .int .u64 (lim (N * 10) 1), .int .u64 (lim (N * 10) 2), .int .u64 (lim (N * 10) 3)])) (fun w _ => (by go_simp)) ?_; (try simp only [Act.put, List.setIfInBounds_toArray, List.set_cons_zero, List.set_cons_succ, Array.toArray_toList, List.getElem_toArray, List.getElem_cons_succ, List.getElem_cons_zero]))
                (refine Sch.t_val hO rfl (by rfl) (v := .int .i64 0) (fun w _ => (by go_simp)) ?_; (try simp only [Act.put, List.setIfInBounds_toArray, List.set_cons_zero, List.set_cons_succ, Array.toArray_toList, List.getElem_toArray, List.getElem_cons_succ, List.getElem_cons_zero]))
                refine Sch.s_one hO rfl (by rfl) (fun K hK => ?_)
                refine q_storew rfl (g := w1.heap.size) rfl (vs := #[.int .u64 (lim (N * 10) 0), .int .u64 (lim (N * 10) 1), .int .u64 (lim (N * 10) 2), .int .u64 (lim (N * 10) 3)]) rfl (by first | (simp [Value.oneCell']; done)) Hb4.out rfl dq_s1 ?_
                clear Hb4
                intro y7_6 Hb4 hu_y7_6
                replace Hb4 := hide (show NB y7_6 (w1.heap.size) (#[.int .u64 (lim (N * 10) 0), .int .u64 (lim (N * 10) 1), .int .u64 (lim (N * 10) 2), .int .u64 (lim (N * 10) 3)]) 24 from Hb4)
                refine hK.out _ _ (hHeld.upd hu_y7_6) (fun hHeld => ?_)
                clear hK K
                (try simp only [Act.put, List.setIfInBounds_toArray, List.set_cons_zero, List.set_cons_succ, Array.toArray_toList, List.getElem_toArray, List.getElem_cons_succ, List.getElem_cons_zero])
                (refine Sch.t_move hO rfl (by rfl) (v := .int .i64 0) (.inr rfl) rfl ?_; (try simp only [Act.put, List.setIfInBounds_toArray, List.set_cons_zero, List.set_cons_succ, Array.toArray_toList, List.getElem_toArray, List.getElem_cons_succ, List.getElem_cons_zero]))
                refine Sch.t_done ?_
                go_wp2_with fail
                go_meet
                exact ⟨rfl, hHeld, Hb4.out⟩
            case rest =>
              obtain ⟨rfl, hbx, hhot⟩ := hcut
              obtain ⟨w4, ew⟩ : ∃ W, W = wc := ⟨_, rfl⟩
              rw [← ew] at hbx hhot ⊢
              clear ew
              replace HB := hide (hbx.below HB.out (by omega) HB.out.size)
              replace Hb2 := hide (Hb2.out.exc hbx (by omega))
              have hsz_w4 := hbx.size
              replace Hb4 := hide hhot
              clear hbx hhot
              have lb4 := Hb4.out.lt
              have lb2 := Hb2.out.lt
              go_upto_region 9 with fail
              go_cut [5] (fun s5 wx => s5 = .int .i64 0 ∧ Exc (w1.heap.size) w4 wx ∧ NB wx (w1.heap.size) (#[.int .u64 (lim N' 0), .int .u64 (lim N' 1), .int .u64 (lim N' 2), .int .u64 (lim N' 3)]) 24)
              case first =>
                refine Sch.start (Sch.take 1 (Sch.take 2 (Sch.take 3 (Sch.take 4 (Sch.take 5 (Sch.two 0 (Sch.one 6 (Sch.one 7 (Sch.take 8 (Sch.take 9 (Sch.take 10 (Sch.one 11 (Sch.take 12 Sch.done))))))) 6 (Sch.one 0 (Sch.one 7 (Sch.take 8 (Sch.take 9 (Sch.take 10 (Sch.one 11 (Sch.take 12 Sch.done))))))))))))) (S := fun w' => Exc (w1.heap.size) w4 w') (by kernel_rfl) (by kernel_rfl) (fun _ d _ _ _ h => by cases d <;> exact h) (by kernel_rfl) (Exc.refl _ _) (fun O hO hHeld => ?_)
                replace Hb4 := hide (show NB w4.drew (w1.heap.size) (#[.int .u64 (lim (N * 10) 0), .int .u64 (lim (N * 10) 1), .int .u64 (lim (N * 10) 2), .int .u64 (lim (N * 10) 3)]) 24 from Hb4.out)
                (refine Sch.t_move hO rfl (by rfl) (v := .string s) (.inl rfl) rfl ?_; (try simp only [Act.put, List.setIfInBounds_toArray, List.set_cons_zero, List.set_cons_succ, Array.toArray_toList, List.getElem_toArray, List.getElem_cons_succ, List.getElem_cons_zero]))
                (refine Sch.t_move hO rfl (by rfl) (v := .int .i64 ((K : Int))) (.inl rfl) rfl ?_; (try simp only [Act.put, List.setIfInBounds_toArray, List.set_cons_zero, List.set_cons_succ, Array.toArray_toList, List.getElem_toArray, List.getElem_cons_succ, List.getElem_cons_zero]))
                (refine Sch.t_val hO rfl (by rfl) (v := .int .u8 (s[K].toNat : Int)) (fun w _ => (by go_simp)) ?_; (try simp only [Act.put, List.setIfInBounds_toArray, List.set_cons_zero, List.set_cons_succ, Array.toArray_toList, List.getElem_toArray, List.getElem_cons_succ, List.getElem_cons_zero]))
                (refine Sch.t_val hO rfl (by rfl) (v := .int .u8 D) (fun w _ => (by go_simp)) ?_; (try simp only [Act.put, List.setIfInBounds_toArray, List.set_cons_zero, List.set_cons_succ, Array.toArray_toList, List.getElem_toArray, List.getElem_cons_succ, List.getElem_cons_zero]))
                (refine Sch.t_val hO rfl (by rfl) (v := .int .u64 D) (fun w _ => (by go_simp)) ?_; (try simp only [Act.put, List.setIfInBounds_toArray, List.set_cons_zero, List.set_cons_succ, Array.toArray_toList, List.getElem_toArray, List.getElem_cons_succ, List.getElem_cons_zero]))
                refine Sch.s_two hO rfl (by rfl) rfl (by rfl) (fun K hK => ?_) (fun K hK => ?_)
                · refine q_loads rfl (g := w1.heap.size) (o := 0) rfl Hb4.out (ds := #[.int .u64 (lim (N * 10) 0), .int .u64 (lim (N * 10) 1), .int .u64 (lim (N * 10) 2), .int .u64 (lim (N * 10) 3)]) (by rfl) Try.underlying24 rfl dq_s1 ?_
                  refine hK.out _ _ hHeld (fun hHeld => ?_)
                  clear hK K
                  (try simp only [Act.put, List.setIfInBounds_toArray, List.set_cons_zero, List.set_cons_succ, Array.toArray_toList, List.getElem_toArray, List.getElem_cons_succ, List.getElem_cons_zero])
                  refine Sch.s_one hO rfl (by rfl) (fun K hK => ?_)
                  go_simp
                  go_at_call 23
                  refine (from_c _ _).mono ?_
                  rintro e y9_1 ⟨rfl, hb_y9_1⟩
                  go_wp2_with fail
                  replace Hb4 := hide (Hb4.out.below hb_y9_1 Hb4.out.lt)
                  refine hK.out _ _ (hHeld.trans hb_y9_1) (fun hHeld => ?_)
                  clear hK K
                  (try simp only [Act.put, List.setIfInBounds_toArray, List.set_cons_zero, List.set_cons_succ, Array.toArray_toList, List.getElem_toArray, List.getElem_cons_succ, List.getElem_cons_zero])
                  refine Sch.s_one hO rfl (by rfl) (fun K hK => ?_)
                  go_simp
                  go_at_call 24
                  refine (HA.out _).mono ?_
                  rintro e y9_2 ⟨rfl, hb_y9_2⟩
                  go_wp2_with fail
                  replace Hb4 := hide (Hb4.out.below hb_y9_2 Hb4.out.lt)
                  refine hK.out _ _ (hHeld.trans hb_y9_2) (fun hHeld => ?_)
                  clear hK K
                  (try simp only [Act.put, List.setIfInBounds_toArray, List.set_cons_zero, List.set_cons_succ, Array.toArray_toList, List.getElem_toArray, List.getElem_cons_succ, List.getElem_cons_zero])
                  (refine Sch.t_move hO rfl (by rfl) (v := .tuple #[.agg (#[.int .u64 (lim N' 0), .int .u64 (lim N' 1), .int .u64 (lim N' 2), .int .u64 (lim N' 3)]), .int .i64 0]) (.inl rfl) rfl ?_; (try simp only [Act.put, List.setIfInBounds_toArray, List.set_cons_zero, List.set_cons_succ, Array.toArray_toList, List.getElem_toArray, List.getElem_cons_succ, List.getElem_cons_zero]))
                  (refine Sch.t_val hO rfl (by rfl) (v := .agg (#[.int .u64 (lim N' 0), .int .u64 (lim N' 1), .int .u64 (lim N' 2), .int .u64 (lim N' 3)])) (fun w _ => (by go_simp)) ?_; (try simp only [Act.put, List.setIfInBounds_toArray, List.set_cons_zero, List.set_cons_succ, Array.toArray_toList, List.getElem_toArray, List.getElem_cons_succ, List.getElem_cons_zero]))
                  (refine Sch.t_val hO rfl (by rfl) (v := .int .i64 0) (fun w _ => (by go_simp)) ?_; (try simp only [Act.put, List.setIfInBounds_toArray, List.set_cons_zero, List.set_cons_succ, Array.toArray_toList, List.getElem_toArray, List.getElem_cons_succ, List.getElem_cons_zero]))
                  refine Sch.s_one hO rfl (by rfl) (fun K hK => ?_)
                  refine q_storew rfl (g := w1.heap.size) rfl (vs := #[.int .u64 (lim N' 0), .int .u64 (lim N' 1), .int .u64 (lim N' 2), .int .u64 (lim N' 3)]) rfl (by first | (simp [Value.oneCell']; done)) Hb4.out rfl dq_s1 ?_
                  clear Hb4
                  intro y9_3 Hb4 hu_y9_3
                  replace Hb4 := hide (show NB y9_3 (w1.heap.size) (#[.int .u64 (lim N' 0), .int .u64 (lim N' 1), .int .u64 (lim N' 2), .int .u64 (lim N' 3)]) 24 from Hb4)
                  refine hK.out _ _ (hHeld.upd hu_y9_3) (fun hHeld => ?_)
                  clear hK K
                  (try simp only [Act.put, List.setIfInBounds_toArray, List.set_cons_zero, List.set_cons_succ, Array.toArray_toList, List.getElem_toArray, List.getElem_cons_succ, List.getElem_cons_zero])
                  (refine Sch.t_move hO rfl (by rfl) (v := .int .i64 0) (.inr rfl) rfl ?_; (try simp only [Act.put, List.setIfInBounds_toArray, List.set_cons_zero, List.set_cons_succ, Array.toArray_toList, List.getElem_toArray, List.getElem_cons_succ, List.getElem_cons_zero]))
                  refine Sch.t_done ?_
                  go_wp2_with fail
                  go_meet
                  exact ⟨rfl, hHeld, Hb4.out⟩
                · go_simp
                  go_at_call 23
                  refine (from_c _ _).mono ?_
                  rintro e y9_4 ⟨rfl, hb_y9_4⟩
                  go_wp2_with fail
                  replace Hb4 := hide (Hb4.out.below hb_y9_4 Hb4.out.lt)
                  refine hK.out _ _ (hHeld.trans hb_y9_4) (fun hHeld => ?_)
                  clear hK K
                  (try simp only [Act.put, List.setIfInBounds_toArray, List.set_cons_zero, List.set_cons_succ, Array.toArray_toList, List.getElem_toArray, List.getElem_cons_succ, List.getElem_cons_zero])
                  refine Sch.s_one hO rfl (by rfl) (fun K hK => ?_)
                  refine q_loads rfl (g := w1.heap.size) (o := 0) rfl Hb4.out (ds := #[.int .u64 (lim (N * 10) 0), .int .u64 (lim (N * 10) 1), .int .u64 (lim (N * 10) 2), .int .u64 (lim (N * 10) 3)]) (by rfl) Try.underlying24 rfl dq_s1 ?_
                  refine hK.out _ _ hHeld (fun hHeld => ?_)
                  clear hK K
                  (try simp only [Act.put, List.setIfInBounds_toArray, List.set_cons_zero, List.set_cons_succ, Array.toArray_toList, List.getElem_toArray, List.getElem_cons_succ, List.getElem_cons_zero])
                  refine Sch.s_one hO rfl (by rfl) (fun K hK => ?_)
                  go_simp
                  go_at_call 24
                  refine (HA.out _).mono ?_
                  rintro e y9_5 ⟨rfl, hb_y9_5⟩
                  go_wp2_with fail
                  replace Hb4 := hide (Hb4.out.below hb_y9_5 Hb4.out.lt)
                  refine hK.out _ _ (hHeld.trans hb_y9_5) (fun hHeld => ?_)
                  clear hK K
                  (try simp only [Act.put, List.setIfInBounds_toArray, List.set_cons_zero, List.set_cons_succ, Array.toArray_toList, List.getElem_toArray, List.getElem_cons_succ, List.getElem_cons_zero])
                  (refine Sch.t_move hO rfl (by rfl) (v := .tuple #[.agg (#[.int .u64 (lim N' 0), .int .u64 (lim N' 1), .int .u64 (lim N' 2), .int .u64 (lim N' 3)]), .int .i64 0]) (.inl rfl) rfl ?_; (try simp only [Act.put, List.setIfInBounds_toArray, List.set_cons_zero, List.set_cons_succ, Array.toArray_toList, List.getElem_toArray, List.getElem_cons_succ, List.getElem_cons_zero]))
                  (refine Sch.t_val hO rfl (by rfl) (v := .agg (#[.int .u64 (lim N' 0), .int .u64 (lim N' 1), .int .u64 (lim N' 2), .int .u64 (lim N' 3)])) (fun w _ => (by go_simp)) ?_; (try simp only [Act.put, List.setIfInBounds_toArray, List.set_cons_zero, List.set_cons_succ, Array.toArray_toList, List.getElem_toArray, List.getElem_cons_succ, List.getElem_cons_zero]))
                  (refine Sch.t_val hO rfl (by rfl) (v := .int .i64 0) (fun w _ => (by go_simp)) ?_; (try simp only [Act.put, List.setIfInBounds_toArray, List.set_cons_zero, List.set_cons_succ, Array.toArray_toList, List.getElem_toArray, List.getElem_cons_succ, List.getElem_cons_zero]))
                  refine Sch.s_one hO rfl (by rfl) (fun K hK => ?_)
                  refine q_storew rfl (g := w1.heap.size) rfl (vs := #[.int .u64 (lim N' 0), .int .u64 (lim N' 1), .int .u64 (lim N' 2), .int .u64 (lim N' 3)]) rfl (by first | (simp [Value.oneCell']; done)) Hb4.out rfl dq_s1 ?_
                  clear Hb4
                  intro y9_6 Hb4 hu_y9_6
                  replace Hb4 := hide (show NB y9_6 (w1.heap.size) (#[.int .u64 (lim N' 0), .int .u64 (lim N' 1), .int .u64 (lim N' 2), .int .u64 (lim N' 3)]) 24 from Hb4)
                  refine hK.out _ _ (hHeld.upd hu_y9_6) (fun hHeld => ?_)
                  clear hK K
                  (try simp only [Act.put, List.setIfInBounds_toArray, List.set_cons_zero, List.set_cons_succ, Array.toArray_toList, List.getElem_toArray, List.getElem_cons_succ, List.getElem_cons_zero])
                  (refine Sch.t_move hO rfl (by rfl) (v := .int .i64 0) (.inr rfl) rfl ?_; (try simp only [Act.put, List.setIfInBounds_toArray, List.set_cons_zero, List.set_cons_succ, Array.toArray_toList, List.getElem_toArray, List.getElem_cons_succ, List.getElem_cons_zero]))
                  refine Sch.t_done ?_
                  go_wp2_with fail
                  go_meet
                  exact ⟨rfl, hHeld, Hb4.out⟩
              case rest =>
                obtain ⟨rfl, hbx, hhot⟩ := hcut
                obtain ⟨w5, ew⟩ : ∃ W, W = wc := ⟨_, rfl⟩
                rw [← ew] at hbx hhot ⊢
                clear ew
                replace HB := hide (hbx.below HB.out (by omega) HB.out.size)
                replace Hb2 := hide (Hb2.out.exc hbx (by omega))
                have hsz_w5 := hbx.size
                replace Hb4 := hide hhot
                clear hbx hhot
                go_wp2_with fail
                go_roundw
                case rel => exact ⟨K + 1, by omega, by go_num, rfl, by rw [HN'.out]; exact hN', HB, Hb2, by rw [HN'.out]; exact Hb4, hg2, hg24⟩
                case measure => simp [intOf]; omega
          · rw [show addV (N * 10) D.toNat = 0 from if_neg h2, show addE (N * 10) D.toNat = 4 from if_neg h2] at HA
            replace HA := hide HA
            have hR := hide (show Ending.returned (.tuple #[.agg #[.int .u64 0, .int .u64 0, .int .u64 0, .int .u64 0], .int .i64 4]) = .returned (.tuple #[.agg #[.int .u64 (lim (prV s.data.toList) 0), .int .u64 (lim (prV s.data.toList) 1), .int .u64 (lim (prV s.data.toList) 2), .int .u64 (lim (prV s.data.toList) 3)], .int .i64 (prE s.data.toList)]) by
              obtain ⟨r1, r2⟩ := pr_over hc'.out (K + 1) (by rw [hst]; omega)
              rw [r1, r2, lim_zero, lim_zero, lim_zero, lim_zero])
            clear hst eN eD hD eDn h1 h2 hdg
            have lb2 := Hb2.out.lt
            have lb4 := Hb4.out.lt
            have lb0 := HB.out.size
            go_upto_region 7 with fail
            go_cut [5] (fun s5 wx => s5 = .int .i64 0 ∧ Exc (w1.heap.size) wr wx ∧ NB wx (w1.heap.size) (#[.int .u64 (lim (N * 10) 0), .int .u64 (lim (N * 10) 1), .int .u64 (lim (N * 10) 2), .int .u64 (lim (N * 10) 3)]) 24)
            case first =>
              refine Sch.start (Sch.two 0 (Sch.one 1 (Sch.one 2 (Sch.take 3 (Sch.take 4 (Sch.take 5 (Sch.one 6 (Sch.take 7 Sch.done))))))) 1 (Sch.one 0 (Sch.one 2 (Sch.take 3 (Sch.take 4 (Sch.take 5 (Sch.one 6 (Sch.take 7 Sch.done)))))))) (S := fun w' => Exc (w1.heap.size) wr w') (by kernel_rfl) (by kernel_rfl) (fun _ d _ _ _ h => by cases d <;> exact h) (by kernel_rfl) (Exc.refl _ _) (fun O hO hHeld => ?_)
              replace Hb4 := hide (show NB wr.drew (w1.heap.size) (#[.int .u64 (lim N 0), .int .u64 (lim N 1), .int .u64 (lim N 2), .int .u64 (lim N 3)]) 24 from Hb4.out)
              refine Sch.s_two hO rfl (by rfl) rfl (by rfl) (fun K hK => ?_) (fun K hK => ?_)
              · refine q_loads rfl (g := w1.heap.size) (o := 0) rfl Hb4.out (ds := #[.int .u64 (lim N 0), .int .u64 (lim N 1), .int .u64 (lim N 2), .int .u64 (lim N 3)]) (by rfl) Try.underlying24 rfl dq_s1 ?_
                refine hK.out _ _ hHeld (fun hHeld => ?_)
                clear hK K
                (try simp only [Act.put, List.setIfInBounds_toArray, List.set_cons_zero, List.set_cons_succ, Array.toArray_toList, List.getElem_toArray, List.getElem_cons_succ, List.getElem_cons_zero])
                refine Sch.s_one hO rfl (by rfl) (fun K hK => ?_)
                go_simp
                go_at_call 23
                refine (from_c _ _).mono ?_
                rintro e y7_1 ⟨rfl, hb_y7_1⟩
                go_wp2_with fail
                replace Hb4 := hide (Hb4.out.below hb_y7_1 Hb4.out.lt)
                refine hK.out _ _ (hHeld.trans hb_y7_1) (fun hHeld => ?_)
                clear hK K
                (try simp only [Act.put, List.setIfInBounds_toArray, List.set_cons_zero, List.set_cons_succ, Array.toArray_toList, List.getElem_toArray, List.getElem_cons_succ, List.getElem_cons_zero])
                refine Sch.s_one hO rfl (by rfl) (fun K hK => ?_)
                go_simp
                go_at_call 22
                refine (HM.out _).mono ?_
                rintro e y7_2 ⟨rfl, hb_y7_2⟩
                go_wp2_with fail
                replace Hb4 := hide (Hb4.out.below hb_y7_2 Hb4.out.lt)
                refine hK.out _ _ (hHeld.trans hb_y7_2) (fun hHeld => ?_)
                clear hK K
                (try simp only [Act.put, List.setIfInBounds_toArray, List.set_cons_zero, List.set_cons_succ, Array.toArray_toList, List.getElem_toArray, List.getElem_cons_succ, List.getElem_cons_zero])
                (refine Sch.t_move hO rfl (by rfl) (v := .tuple #[.agg (#[.int .u64 (lim (N * 10) 0), .int .u64 (lim (N * 10) 1), .int .u64 (lim (N * 10) 2), .int .u64 (lim (N * 10) 3)]), .int .i64 0]) (.inl rfl) rfl ?_; (try simp only [Act.put, List.setIfInBounds_toArray, List.set_cons_zero, List.set_cons_succ, Array.toArray_toList, List.getElem_toArray, List.getElem_cons_succ, List.getElem_cons_zero]))
                (refine Sch.t_val hO rfl (by rfl) (v := .agg (#[.int .u64 (lim (N * 10) 0), .int .u64 (lim (N * 10) 1), .int .u64 (lim (N * 10) 2), .int .u64 (lim (N * 10) 3)])) (fun w _ => (by go_simp)) ?_; (try simp only [Act.put, List.setIfInBounds_toArray, List.set_cons_zero, List.set_cons_succ, Array.toArray_toList, List.getElem_toArray, List.getElem_cons_succ, List.getElem_cons_zero]))
                (refine Sch.t_val hO rfl (by rfl) (v := .int .i64 0) (fun w _ => (by go_simp)) ?_; (try simp only [Act.put, List.setIfInBounds_toArray, List.set_cons_zero, List.set_cons_succ, Array.toArray_toList, List.getElem_toArray, List.getElem_cons_succ, List.getElem_cons_zero]))
                refine Sch.s_one hO rfl (by rfl) (fun K hK => ?_)
                refine q_storew rfl (g := w1.heap.size) rfl (vs := #[.int .u64 (lim (N * 10) 0), .int .u64 (lim (N * 10) 1), .int .u64 (lim (N * 10) 2), .int .u64 (lim (N * 10) 3)]) rfl (by first | (simp [Value.oneCell']; done)) Hb4.out rfl dq_s1 ?_
                clear Hb4
                intro y7_3 Hb4 hu_y7_3
                replace Hb4 := hide (show NB y7_3 (w1.heap.size) (#[.int .u64 (lim (N * 10) 0), .int .u64 (lim (N * 10) 1), .int .u64 (lim (N * 10) 2), .int .u64 (lim (N * 10) 3)]) 24 from Hb4)
                refine hK.out _ _ (hHeld.upd hu_y7_3) (fun hHeld => ?_)
                clear hK K
                (try simp only [Act.put, List.setIfInBounds_toArray, List.set_cons_zero, List.set_cons_succ, Array.toArray_toList, List.getElem_toArray, List.getElem_cons_succ, List.getElem_cons_zero])
                (refine Sch.t_move hO rfl (by rfl) (v := .int .i64 0) (.inr rfl) rfl ?_; (try simp only [Act.put, List.setIfInBounds_toArray, List.set_cons_zero, List.set_cons_succ, Array.toArray_toList, List.getElem_toArray, List.getElem_cons_succ, List.getElem_cons_zero]))
                refine Sch.t_done ?_
                go_wp2_with fail
                go_meet
                exact ⟨rfl, hHeld, Hb4.out⟩
              · go_simp
                go_at_call 23
                refine (from_c _ _).mono ?_
                rintro e y7_4 ⟨rfl, hb_y7_4⟩
                go_wp2_with fail
                replace Hb4 := hide (Hb4.out.below hb_y7_4 Hb4.out.lt)
                refine hK.out _ _ (hHeld.trans hb_y7_4) (fun hHeld => ?_)
                clear hK K
                (try simp only [Act.put, List.setIfInBounds_toArray, List.set_cons_zero, List.set_cons_succ, Array.toArray_toList, List.getElem_toArray, List.getElem_cons_succ, List.getElem_cons_zero])
                refine Sch.s_one hO rfl (by rfl) (fun K hK => ?_)
                refine q_loads rfl (g := w1.heap.size) (o := 0) rfl Hb4.out (ds := #[.int .u64 (lim N 0), .int .u64 (lim N 1), .int .u64 (lim N 2), .int .u64 (lim N 3)]) (by rfl) Try.underlying24 rfl dq_s1 ?_
                refine hK.out _ _ hHeld (fun hHeld => ?_)
                clear hK K
                (try simp only [Act.put, List.setIfInBounds_toArray, List.set_cons_zero, List.set_cons_succ, Array.toArray_toList, List.getElem_toArray, List.getElem_cons_succ, List.getElem_cons_zero])
                refine Sch.s_one hO rfl (by rfl) (fun K hK => ?_)
                go_simp
                go_at_call 22
                refine (HM.out _).mono ?_
                rintro e y7_5 ⟨rfl, hb_y7_5⟩
                go_wp2_with fail
                replace Hb4 := hide (Hb4.out.below hb_y7_5 Hb4.out.lt)
                refine hK.out _ _ (hHeld.trans hb_y7_5) (fun hHeld => ?_)
                clear hK K
                (try simp only [Act.put, List.setIfInBounds_toArray, List.set_cons_zero, List.set_cons_succ, Array.toArray_toList, List.getElem_toArray, List.getElem_cons_succ, List.getElem_cons_zero])
                (refine Sch.t_move hO rfl (by rfl) (v := .tuple #[.agg (#[.int .u64 (lim (N * 10) 0), .int .u64 (lim (N * 10) 1), .int .u64 (lim (N * 10) 2), .int .u64 (lim (N * 10) 3)]), .int .i64 0]) (.inl rfl) rfl ?_; (try simp only [Act.put, List.setIfInBounds_toArray, List.set_cons_zero, List.set_cons_succ, Array.toArray_toList, List.getElem_toArray, List.getElem_cons_succ, List.getElem_cons_zero]))
                (refine Sch.t_val hO rfl (by rfl) (v := .agg (#[.int .u64 (lim (N * 10) 0), .int .u64 (lim (N * 10) 1), .int .u64 (lim (N * 10) 2), .int .u64 (lim (N * 10) 3)])) (fun w _ => (by go_simp)) ?_; (try simp only [Act.put, List.setIfInBounds_toArray, List.set_cons_zero, List.set_cons_succ, Array.toArray_toList, List.getElem_toArray, List.getElem_cons_succ, List.getElem_cons_zero]))
                (refine Sch.t_val hO rfl (by rfl) (v := .int .i64 0) (fun w _ => (by go_simp)) ?_; (try simp only [Act.put, List.setIfInBounds_toArray, List.set_cons_zero, List.set_cons_succ, Array.toArray_toList, List.getElem_toArray, List.getElem_cons_succ, List.getElem_cons_zero]))
                refine Sch.s_one hO rfl (by rfl) (fun K hK => ?_)
                refine q_storew rfl (g := w1.heap.size) rfl (vs := #[.int .u64 (lim (N * 10) 0), .int .u64 (lim (N * 10) 1), .int .u64 (lim (N * 10) 2), .int .u64 (lim (N * 10) 3)]) rfl (by first | (simp [Value.oneCell']; done)) Hb4.out rfl dq_s1 ?_
                clear Hb4
                intro y7_6 Hb4 hu_y7_6
                replace Hb4 := hide (show NB y7_6 (w1.heap.size) (#[.int .u64 (lim (N * 10) 0), .int .u64 (lim (N * 10) 1), .int .u64 (lim (N * 10) 2), .int .u64 (lim (N * 10) 3)]) 24 from Hb4)
                refine hK.out _ _ (hHeld.upd hu_y7_6) (fun hHeld => ?_)
                clear hK K
                (try simp only [Act.put, List.setIfInBounds_toArray, List.set_cons_zero, List.set_cons_succ, Array.toArray_toList, List.getElem_toArray, List.getElem_cons_succ, List.getElem_cons_zero])
                (refine Sch.t_move hO rfl (by rfl) (v := .int .i64 0) (.inr rfl) rfl ?_; (try simp only [Act.put, List.setIfInBounds_toArray, List.set_cons_zero, List.set_cons_succ, Array.toArray_toList, List.getElem_toArray, List.getElem_cons_succ, List.getElem_cons_zero]))
                refine Sch.t_done ?_
                go_wp2_with fail
                go_meet
                exact ⟨rfl, hHeld, Hb4.out⟩
            case rest =>
              obtain ⟨rfl, hbx, hhot⟩ := hcut
              obtain ⟨w4, ew⟩ : ∃ W, W = wc := ⟨_, rfl⟩
              rw [← ew] at hbx hhot ⊢
              clear ew
              replace HB := hide (hbx.below HB.out (by omega) HB.out.size)
              replace Hb2 := hide (Hb2.out.exc hbx (by omega))
              have hsz_w4 := hbx.size
              replace Hb4 := hide hhot
              clear hbx hhot
              have lb4 := Hb4.out.lt
              have lb2 := Hb2.out.lt
              go_upto_region 9 with fail
              go_cut [5] (fun s5 wx => s5 = .int .i64 4 ∧ Exc (w1.heap.size) w4 wx ∧ NB wx (w1.heap.size) (#[.int .u64 (lim 0 0), .int .u64 (lim 0 1), .int .u64 (lim 0 2), .int .u64 (lim 0 3)]) 24)
              case first =>
                refine Sch.start (Sch.take 1 (Sch.take 2 (Sch.take 3 (Sch.take 4 (Sch.take 5 (Sch.two 0 (Sch.one 6 (Sch.one 7 (Sch.take 8 (Sch.take 9 (Sch.take 10 (Sch.one 11 (Sch.take 12 Sch.done))))))) 6 (Sch.one 0 (Sch.one 7 (Sch.take 8 (Sch.take 9 (Sch.take 10 (Sch.one 11 (Sch.take 12 Sch.done))))))))))))) (S := fun w' => Exc (w1.heap.size) w4 w') (by kernel_rfl) (by kernel_rfl) (fun _ d _ _ _ h => by cases d <;> exact h) (by kernel_rfl) (Exc.refl _ _) (fun O hO hHeld => ?_)
                replace Hb4 := hide (show NB w4.drew (w1.heap.size) (#[.int .u64 (lim (N * 10) 0), .int .u64 (lim (N * 10) 1), .int .u64 (lim (N * 10) 2), .int .u64 (lim (N * 10) 3)]) 24 from Hb4.out)
                (refine Sch.t_move hO rfl (by rfl) (v := .string s) (.inl rfl) rfl ?_; (try simp only [Act.put, List.setIfInBounds_toArray, List.set_cons_zero, List.set_cons_succ, Array.toArray_toList, List.getElem_toArray, List.getElem_cons_succ, List.getElem_cons_zero]))
                (refine Sch.t_move hO rfl (by rfl) (v := .int .i64 ((K : Int))) (.inl rfl) rfl ?_; (try simp only [Act.put, List.setIfInBounds_toArray, List.set_cons_zero, List.set_cons_succ, Array.toArray_toList, List.getElem_toArray, List.getElem_cons_succ, List.getElem_cons_zero]))
                (refine Sch.t_val hO rfl (by rfl) (v := .int .u8 (s[K].toNat : Int)) (fun w _ => (by go_simp)) ?_; (try simp only [Act.put, List.setIfInBounds_toArray, List.set_cons_zero, List.set_cons_succ, Array.toArray_toList, List.getElem_toArray, List.getElem_cons_succ, List.getElem_cons_zero]))
                (refine Sch.t_val hO rfl (by rfl) (v := .int .u8 D) (fun w _ => (by go_simp)) ?_; (try simp only [Act.put, List.setIfInBounds_toArray, List.set_cons_zero, List.set_cons_succ, Array.toArray_toList, List.getElem_toArray, List.getElem_cons_succ, List.getElem_cons_zero]))
                (refine Sch.t_val hO rfl (by rfl) (v := .int .u64 D) (fun w _ => (by go_simp)) ?_; (try simp only [Act.put, List.setIfInBounds_toArray, List.set_cons_zero, List.set_cons_succ, Array.toArray_toList, List.getElem_toArray, List.getElem_cons_succ, List.getElem_cons_zero]))
                refine Sch.s_two hO rfl (by rfl) rfl (by rfl) (fun K hK => ?_) (fun K hK => ?_)
                · refine q_loads rfl (g := w1.heap.size) (o := 0) rfl Hb4.out (ds := #[.int .u64 (lim (N * 10) 0), .int .u64 (lim (N * 10) 1), .int .u64 (lim (N * 10) 2), .int .u64 (lim (N * 10) 3)]) (by rfl) Try.underlying24 rfl dq_s1 ?_
                  refine hK.out _ _ hHeld (fun hHeld => ?_)
                  clear hK K
                  (try simp only [Act.put, List.setIfInBounds_toArray, List.set_cons_zero, List.set_cons_succ, Array.toArray_toList, List.getElem_toArray, List.getElem_cons_succ, List.getElem_cons_zero])
                  refine Sch.s_one hO rfl (by rfl) (fun K hK => ?_)
                  go_simp
                  go_at_call 23
                  refine (from_c _ _).mono ?_
                  rintro e y9_1 ⟨rfl, hb_y9_1⟩
                  go_wp2_with fail
                  replace Hb4 := hide (Hb4.out.below hb_y9_1 Hb4.out.lt)
                  refine hK.out _ _ (hHeld.trans hb_y9_1) (fun hHeld => ?_)
                  clear hK K
                  (try simp only [Act.put, List.setIfInBounds_toArray, List.set_cons_zero, List.set_cons_succ, Array.toArray_toList, List.getElem_toArray, List.getElem_cons_succ, List.getElem_cons_zero])
                  refine Sch.s_one hO rfl (by rfl) (fun K hK => ?_)
                  go_simp
                  go_at_call 24
                  refine (HA.out _).mono ?_
                  rintro e y9_2 ⟨rfl, hb_y9_2⟩
                  go_wp2_with fail
                  replace Hb4 := hide (Hb4.out.below hb_y9_2 Hb4.out.lt)
                  refine hK.out _ _ (hHeld.trans hb_y9_2) (fun hHeld => ?_)
                  clear hK K
                  (try simp only [Act.put, List.setIfInBounds_toArray, List.set_cons_zero, List.set_cons_succ, Array.toArray_toList, List.getElem_toArray, List.getElem_cons_succ, List.getElem_cons_zero])
                  (refine Sch.t_move hO rfl (by rfl) (v := .tuple #[.agg (#[.int .u64 (lim 0 0), .int .u64 (lim 0 1), .int .u64 (lim 0 2), .int .u64 (lim 0 3)]), .int .i64 4]) (.inl rfl) rfl ?_; (try simp only [Act.put, List.setIfInBounds_toArray, List.set_cons_zero, List.set_cons_succ, Array.toArray_toList, List.getElem_toArray, List.getElem_cons_succ, List.getElem_cons_zero]))
                  (refine Sch.t_val hO rfl (by rfl) (v := .agg (#[.int .u64 (lim 0 0), .int .u64 (lim 0 1), .int .u64 (lim 0 2), .int .u64 (lim 0 3)])) (fun w _ => (by go_simp)) ?_; (try simp only [Act.put, List.setIfInBounds_toArray, List.set_cons_zero, List.set_cons_succ, Array.toArray_toList, List.getElem_toArray, List.getElem_cons_succ, List.getElem_cons_zero]))
                  (refine Sch.t_val hO rfl (by rfl) (v := .int .i64 4) (fun w _ => (by go_simp)) ?_; (try simp only [Act.put, List.setIfInBounds_toArray, List.set_cons_zero, List.set_cons_succ, Array.toArray_toList, List.getElem_toArray, List.getElem_cons_succ, List.getElem_cons_zero]))
                  refine Sch.s_one hO rfl (by rfl) (fun K hK => ?_)
                  refine q_storew rfl (g := w1.heap.size) rfl (vs := #[.int .u64 (lim 0 0), .int .u64 (lim 0 1), .int .u64 (lim 0 2), .int .u64 (lim 0 3)]) rfl (by first | (simp [Value.oneCell']; done)) Hb4.out rfl dq_s1 ?_
                  clear Hb4
                  intro y9_3 Hb4 hu_y9_3
                  replace Hb4 := hide (show NB y9_3 (w1.heap.size) (#[.int .u64 (lim 0 0), .int .u64 (lim 0 1), .int .u64 (lim 0 2), .int .u64 (lim 0 3)]) 24 from Hb4)
                  refine hK.out _ _ (hHeld.upd hu_y9_3) (fun hHeld => ?_)
                  clear hK K
                  (try simp only [Act.put, List.setIfInBounds_toArray, List.set_cons_zero, List.set_cons_succ, Array.toArray_toList, List.getElem_toArray, List.getElem_cons_succ, List.getElem_cons_zero])
                  (refine Sch.t_move hO rfl (by rfl) (v := .int .i64 4) (.inr rfl) rfl ?_; (try simp only [Act.put, List.setIfInBounds_toArray, List.set_cons_zero, List.set_cons_succ, Array.toArray_toList, List.getElem_toArray, List.getElem_cons_succ, List.getElem_cons_zero]))
                  refine Sch.t_done ?_
                  go_wp2_with fail
                  go_meet
                  exact ⟨rfl, hHeld, Hb4.out⟩
                · go_simp
                  go_at_call 23
                  refine (from_c _ _).mono ?_
                  rintro e y9_4 ⟨rfl, hb_y9_4⟩
                  go_wp2_with fail
                  replace Hb4 := hide (Hb4.out.below hb_y9_4 Hb4.out.lt)
                  refine hK.out _ _ (hHeld.trans hb_y9_4) (fun hHeld => ?_)
                  clear hK K
                  (try simp only [Act.put, List.setIfInBounds_toArray, List.set_cons_zero, List.set_cons_succ, Array.toArray_toList, List.getElem_toArray, List.getElem_cons_succ, List.getElem_cons_zero])
                  refine Sch.s_one hO rfl (by rfl) (fun K hK => ?_)
                  refine q_loads rfl (g := w1.heap.size) (o := 0) rfl Hb4.out (ds := #[.int .u64 (lim (N * 10) 0), .int .u64 (lim (N * 10) 1), .int .u64 (lim (N * 10) 2), .int .u64 (lim (N * 10) 3)]) (by rfl) Try.underlying24 rfl dq_s1 ?_
                  refine hK.out _ _ hHeld (fun hHeld => ?_)
                  clear hK K
                  (try simp only [Act.put, List.setIfInBounds_toArray, List.set_cons_zero, List.set_cons_succ, Array.toArray_toList, List.getElem_toArray, List.getElem_cons_succ, List.getElem_cons_zero])
                  refine Sch.s_one hO rfl (by rfl) (fun K hK => ?_)
                  go_simp
                  go_at_call 24
                  refine (HA.out _).mono ?_
                  rintro e y9_5 ⟨rfl, hb_y9_5⟩
                  go_wp2_with fail
                  replace Hb4 := hide (Hb4.out.below hb_y9_5 Hb4.out.lt)
                  refine hK.out _ _ (hHeld.trans hb_y9_5) (fun hHeld => ?_)
                  clear hK K
                  (try simp only [Act.put, List.setIfInBounds_toArray, List.set_cons_zero, List.set_cons_succ, Array.toArray_toList, List.getElem_toArray, List.getElem_cons_succ, List.getElem_cons_zero])
                  (refine Sch.t_move hO rfl (by rfl) (v := .tuple #[.agg (#[.int .u64 (lim 0 0), .int .u64 (lim 0 1), .int .u64 (lim 0 2), .int .u64 (lim 0 3)]), .int .i64 4]) (.inl rfl) rfl ?_; (try simp only [Act.put, List.setIfInBounds_toArray, List.set_cons_zero, List.set_cons_succ, Array.toArray_toList, List.getElem_toArray, List.getElem_cons_succ, List.getElem_cons_zero]))
                  (refine Sch.t_val hO rfl (by rfl) (v := .agg (#[.int .u64 (lim 0 0), .int .u64 (lim 0 1), .int .u64 (lim 0 2), .int .u64 (lim 0 3)])) (fun w _ => (by go_simp)) ?_; (try simp only [Act.put, List.setIfInBounds_toArray, List.set_cons_zero, List.set_cons_succ, Array.toArray_toList, List.getElem_toArray, List.getElem_cons_succ, List.getElem_cons_zero]))
                  (refine Sch.t_val hO rfl (by rfl) (v := .int .i64 4) (fun w _ => (by go_simp)) ?_; (try simp only [Act.put, List.setIfInBounds_toArray, List.set_cons_zero, List.set_cons_succ, Array.toArray_toList, List.getElem_toArray, List.getElem_cons_succ, List.getElem_cons_zero]))
                  refine Sch.s_one hO rfl (by rfl) (fun K hK => ?_)
                  refine q_storew rfl (g := w1.heap.size) rfl (vs := #[.int .u64 (lim 0 0), .int .u64 (lim 0 1), .int .u64 (lim 0 2), .int .u64 (lim 0 3)]) rfl (by first | (simp [Value.oneCell']; done)) Hb4.out rfl dq_s1 ?_
                  clear Hb4
                  intro y9_6 Hb4 hu_y9_6
                  replace Hb4 := hide (show NB y9_6 (w1.heap.size) (#[.int .u64 (lim 0 0), .int .u64 (lim 0 1), .int .u64 (lim 0 2), .int .u64 (lim 0 3)]) 24 from Hb4)
                  refine hK.out _ _ (hHeld.upd hu_y9_6) (fun hHeld => ?_)
                  clear hK K
                  (try simp only [Act.put, List.setIfInBounds_toArray, List.set_cons_zero, List.set_cons_succ, Array.toArray_toList, List.getElem_toArray, List.getElem_cons_succ, List.getElem_cons_zero])
                  (refine Sch.t_move hO rfl (by rfl) (v := .int .i64 4) (.inr rfl) rfl ?_; (try simp only [Act.put, List.setIfInBounds_toArray, List.set_cons_zero, List.set_cons_succ, Array.toArray_toList, List.getElem_toArray, List.getElem_cons_succ, List.getElem_cons_zero]))
                  refine Sch.t_done ?_
                  go_wp2_with fail
                  go_meet
                  exact ⟨rfl, hHeld, Hb4.out⟩
              case rest =>
                obtain ⟨rfl, hbx, hhot⟩ := hcut
                obtain ⟨w5, ew⟩ : ∃ W, W = wc := ⟨_, rfl⟩
                rw [← ew] at hbx hhot ⊢
                clear ew
                replace HB := hide (hbx.below HB.out (by omega) HB.out.size)
                replace Hb2 := hide (Hb2.out.exc hbx (by omega))
                have hsz_w5 := hbx.size
                replace Hb4 := hide hhot
                clear hbx hhot
                go_wp2_with (first | (refine n_storew (by rfl) (T := 24) (x := (.tmp 2)) (y := (.tmp 38)) rfl (g := w.heap.size) rfl (vs := #[.int .u64 0, .int .u64 0, .int .u64 0, .int .u64 0]) rfl (by first | (simp [Value.oneCell']; done)) Hb2.out rfl dq_s1 ?_; clear Hb2; intro w6 Hb2 hun; replace Hb2 := hide Hb2; replace HB := hide (hun.keep w.heap.size w (by omega) HB.out); replace Hb4 := hide (Hb4.out.upd hun (by omega)); clear hun))
                exact bodyPost_ret (results2 rfl (reads_row (g := w.heap.size) rfl Hb2.out Try.underlying24 rfl dq_s1) (reads_tmp rfl)) rfl ⟨hR.out, HB.out⟩
        · rw [show mulV N (10 : Int).toNat = 0 from if_neg h1, show mulE N (10 : Int).toNat = 4 from if_neg h1] at HM
          replace HM := hide HM
          have hR := hide (show Ending.returned (.tuple #[.agg #[.int .u64 0, .int .u64 0, .int .u64 0, .int .u64 0], .int .i64 4]) = .returned (.tuple #[.agg #[.int .u64 (lim (prV s.data.toList) 0), .int .u64 (lim (prV s.data.toList) 1), .int .u64 (lim (prV s.data.toList) 2), .int .u64 (lim (prV s.data.toList) 3)], .int .i64 (prE s.data.toList)]) by
            obtain ⟨r1, r2⟩ := pr_over hc'.out (K + 1) (by rw [hst]; omega)
            rw [r1, r2, lim_zero, lim_zero, lim_zero, lim_zero])
          clear hst eN eD hD h1 hdg
          have lb2 := Hb2.out.lt
          have lb4 := Hb4.out.lt
          have lb0 := HB.out.size
          go_upto_region 7 with fail
          go_cut [5] (fun s5 wx => s5 = .int .i64 4 ∧ Exc (w1.heap.size) wr wx ∧ NB wx (w1.heap.size) (#[.int .u64 (lim 0 0), .int .u64 (lim 0 1), .int .u64 (lim 0 2), .int .u64 (lim 0 3)]) 24)
          case first =>
            refine Sch.start (Sch.two 0 (Sch.one 1 (Sch.one 2 (Sch.take 3 (Sch.take 4 (Sch.take 5 (Sch.one 6 (Sch.take 7 Sch.done))))))) 1 (Sch.one 0 (Sch.one 2 (Sch.take 3 (Sch.take 4 (Sch.take 5 (Sch.one 6 (Sch.take 7 Sch.done)))))))) (S := fun w' => Exc (w1.heap.size) wr w') (by kernel_rfl) (by kernel_rfl) (fun _ d _ _ _ h => by cases d <;> exact h) (by kernel_rfl) (Exc.refl _ _) (fun O hO hHeld => ?_)
            replace Hb4 := hide (show NB wr.drew (w1.heap.size) (#[.int .u64 (lim N 0), .int .u64 (lim N 1), .int .u64 (lim N 2), .int .u64 (lim N 3)]) 24 from Hb4.out)
            refine Sch.s_two hO rfl (by rfl) rfl (by rfl) (fun K hK => ?_) (fun K hK => ?_)
            · refine q_loads rfl (g := w1.heap.size) (o := 0) rfl Hb4.out (ds := #[.int .u64 (lim N 0), .int .u64 (lim N 1), .int .u64 (lim N 2), .int .u64 (lim N 3)]) (by rfl) Try.underlying24 rfl dq_s1 ?_
              refine hK.out _ _ hHeld (fun hHeld => ?_)
              clear hK K
              (try simp only [Act.put, List.setIfInBounds_toArray, List.set_cons_zero, List.set_cons_succ, Array.toArray_toList, List.getElem_toArray, List.getElem_cons_succ, List.getElem_cons_zero])
              refine Sch.s_one hO rfl (by rfl) (fun K hK => ?_)
              go_simp
              go_at_call 23
              refine (from_c _ _).mono ?_
              rintro e y7_1 ⟨rfl, hb_y7_1⟩
              go_wp2_with fail
              replace Hb4 := hide (Hb4.out.below hb_y7_1 Hb4.out.lt)
              refine hK.out _ _ (hHeld.trans hb_y7_1) (fun hHeld => ?_)
              clear hK K
              (try simp only [Act.put, List.setIfInBounds_toArray, List.set_cons_zero, List.set_cons_succ, Array.toArray_toList, List.getElem_toArray, List.getElem_cons_succ, List.getElem_cons_zero])
              refine Sch.s_one hO rfl (by rfl) (fun K hK => ?_)
              go_simp
              go_at_call 22
              refine (HM.out _).mono ?_
              rintro e y7_2 ⟨rfl, hb_y7_2⟩
              go_wp2_with fail
              replace Hb4 := hide (Hb4.out.below hb_y7_2 Hb4.out.lt)
              refine hK.out _ _ (hHeld.trans hb_y7_2) (fun hHeld => ?_)
              clear hK K
              (try simp only [Act.put, List.setIfInBounds_toArray, List.set_cons_zero, List.set_cons_succ, Array.toArray_toList, List.getElem_toArray, List.getElem_cons_succ, List.getElem_cons_zero])
              (refine Sch.t_move hO rfl (by rfl) (v := .tuple #[.agg (#[.int .u64 (lim 0 0), .int .u64 (lim 0 1), .int .u64 (lim 0 2), .int .u64 (lim 0 3)]), .int .i64 4]) (.inl rfl) rfl ?_; (try simp only [Act.put, List.setIfInBounds_toArray, List.set_cons_zero, List.set_cons_succ, Array.toArray_toList, List.getElem_toArray, List.getElem_cons_succ, List.getElem_cons_zero]))
              (refine Sch.t_val hO rfl (by rfl) (v := .agg (#[.int .u64 (lim 0 0), .int .u64 (lim 0 1), .int .u64 (lim 0 2), .int .u64 (lim 0 3)])) (fun w _ => (by go_simp)) ?_; (try simp only [Act.put, List.setIfInBounds_toArray, List.set_cons_zero, List.set_cons_succ, Array.toArray_toList, List.getElem_toArray, List.getElem_cons_succ, List.getElem_cons_zero]))
              (refine Sch.t_val hO rfl (by rfl) (v := .int .i64 4) (fun w _ => (by go_simp)) ?_; (try simp only [Act.put, List.setIfInBounds_toArray, List.set_cons_zero, List.set_cons_succ, Array.toArray_toList, List.getElem_toArray, List.getElem_cons_succ, List.getElem_cons_zero]))
              refine Sch.s_one hO rfl (by rfl) (fun K hK => ?_)
              refine q_storew rfl (g := w1.heap.size) rfl (vs := #[.int .u64 (lim 0 0), .int .u64 (lim 0 1), .int .u64 (lim 0 2), .int .u64 (lim 0 3)]) rfl (by first | (simp [Value.oneCell']; done)) Hb4.out rfl dq_s1 ?_
              clear Hb4
              intro y7_3 Hb4 hu_y7_3
              replace Hb4 := hide (show NB y7_3 (w1.heap.size) (#[.int .u64 (lim 0 0), .int .u64 (lim 0 1), .int .u64 (lim 0 2), .int .u64 (lim 0 3)]) 24 from Hb4)
              refine hK.out _ _ (hHeld.upd hu_y7_3) (fun hHeld => ?_)
              clear hK K
              (try simp only [Act.put, List.setIfInBounds_toArray, List.set_cons_zero, List.set_cons_succ, Array.toArray_toList, List.getElem_toArray, List.getElem_cons_succ, List.getElem_cons_zero])
              (refine Sch.t_move hO rfl (by rfl) (v := .int .i64 4) (.inr rfl) rfl ?_; (try simp only [Act.put, List.setIfInBounds_toArray, List.set_cons_zero, List.set_cons_succ, Array.toArray_toList, List.getElem_toArray, List.getElem_cons_succ, List.getElem_cons_zero]))
              refine Sch.t_done ?_
              go_wp2_with fail
              go_meet
              exact ⟨rfl, hHeld, Hb4.out⟩
            · go_simp
              go_at_call 23
              refine (from_c _ _).mono ?_
              rintro e y7_4 ⟨rfl, hb_y7_4⟩
              go_wp2_with fail
              replace Hb4 := hide (Hb4.out.below hb_y7_4 Hb4.out.lt)
              refine hK.out _ _ (hHeld.trans hb_y7_4) (fun hHeld => ?_)
              clear hK K
              (try simp only [Act.put, List.setIfInBounds_toArray, List.set_cons_zero, List.set_cons_succ, Array.toArray_toList, List.getElem_toArray, List.getElem_cons_succ, List.getElem_cons_zero])
              refine Sch.s_one hO rfl (by rfl) (fun K hK => ?_)
              refine q_loads rfl (g := w1.heap.size) (o := 0) rfl Hb4.out (ds := #[.int .u64 (lim N 0), .int .u64 (lim N 1), .int .u64 (lim N 2), .int .u64 (lim N 3)]) (by rfl) Try.underlying24 rfl dq_s1 ?_
              refine hK.out _ _ hHeld (fun hHeld => ?_)
              clear hK K
              (try simp only [Act.put, List.setIfInBounds_toArray, List.set_cons_zero, List.set_cons_succ, Array.toArray_toList, List.getElem_toArray, List.getElem_cons_succ, List.getElem_cons_zero])
              refine Sch.s_one hO rfl (by rfl) (fun K hK => ?_)
              go_simp
              go_at_call 22
              refine (HM.out _).mono ?_
              rintro e y7_5 ⟨rfl, hb_y7_5⟩
              go_wp2_with fail
              replace Hb4 := hide (Hb4.out.below hb_y7_5 Hb4.out.lt)
              refine hK.out _ _ (hHeld.trans hb_y7_5) (fun hHeld => ?_)
              clear hK K
              (try simp only [Act.put, List.setIfInBounds_toArray, List.set_cons_zero, List.set_cons_succ, Array.toArray_toList, List.getElem_toArray, List.getElem_cons_succ, List.getElem_cons_zero])
              (refine Sch.t_move hO rfl (by rfl) (v := .tuple #[.agg (#[.int .u64 (lim 0 0), .int .u64 (lim 0 1), .int .u64 (lim 0 2), .int .u64 (lim 0 3)]), .int .i64 4]) (.inl rfl) rfl ?_; (try simp only [Act.put, List.setIfInBounds_toArray, List.set_cons_zero, List.set_cons_succ, Array.toArray_toList, List.getElem_toArray, List.getElem_cons_succ, List.getElem_cons_zero]))
              (refine Sch.t_val hO rfl (by rfl) (v := .agg (#[.int .u64 (lim 0 0), .int .u64 (lim 0 1), .int .u64 (lim 0 2), .int .u64 (lim 0 3)])) (fun w _ => (by go_simp)) ?_; (try simp only [Act.put, List.setIfInBounds_toArray, List.set_cons_zero, List.set_cons_succ, Array.toArray_toList, List.getElem_toArray, List.getElem_cons_succ, List.getElem_cons_zero]))
              (refine Sch.t_val hO rfl (by rfl) (v := .int .i64 4) (fun w _ => (by go_simp)) ?_; (try simp only [Act.put, List.setIfInBounds_toArray, List.set_cons_zero, List.set_cons_succ, Array.toArray_toList, List.getElem_toArray, List.getElem_cons_succ, List.getElem_cons_zero]))
              refine Sch.s_one hO rfl (by rfl) (fun K hK => ?_)
              refine q_storew rfl (g := w1.heap.size) rfl (vs := #[.int .u64 (lim 0 0), .int .u64 (lim 0 1), .int .u64 (lim 0 2), .int .u64 (lim 0 3)]) rfl (by first | (simp [Value.oneCell']; done)) Hb4.out rfl dq_s1 ?_
              clear Hb4
              intro y7_6 Hb4 hu_y7_6
              replace Hb4 := hide (show NB y7_6 (w1.heap.size) (#[.int .u64 (lim 0 0), .int .u64 (lim 0 1), .int .u64 (lim 0 2), .int .u64 (lim 0 3)]) 24 from Hb4)
              refine hK.out _ _ (hHeld.upd hu_y7_6) (fun hHeld => ?_)
              clear hK K
              (try simp only [Act.put, List.setIfInBounds_toArray, List.set_cons_zero, List.set_cons_succ, Array.toArray_toList, List.getElem_toArray, List.getElem_cons_succ, List.getElem_cons_zero])
              (refine Sch.t_move hO rfl (by rfl) (v := .int .i64 4) (.inr rfl) rfl ?_; (try simp only [Act.put, List.setIfInBounds_toArray, List.set_cons_zero, List.set_cons_succ, Array.toArray_toList, List.getElem_toArray, List.getElem_cons_succ, List.getElem_cons_zero]))
              refine Sch.t_done ?_
              go_wp2_with fail
              go_meet
              exact ⟨rfl, hHeld, Hb4.out⟩
          case rest =>
            obtain ⟨rfl, hbx, hhot⟩ := hcut
            obtain ⟨w4, ew⟩ : ∃ W, W = wc := ⟨_, rfl⟩
            rw [← ew] at hbx hhot ⊢
            clear ew
            replace HB := hide (hbx.below HB.out (by omega) HB.out.size)
            replace Hb2 := hide (Hb2.out.exc hbx (by omega))
            have hsz_w4 := hbx.size
            replace Hb4 := hide hhot
            clear hbx hhot
            have lb4 := Hb4.out.lt
            have lb2 := Hb2.out.lt
            go_wp2_with (first | (refine n_storew (by rfl) (T := 24) (x := (.tmp 2)) (y := (.tmp 38)) rfl (g := w.heap.size) rfl (vs := #[.int .u64 0, .int .u64 0, .int .u64 0, .int .u64 0]) rfl (by first | (simp [Value.oneCell']; done)) Hb2.out rfl dq_s1 ?_; clear Hb2; intro w5 Hb2 hun; replace Hb2 := hide Hb2; replace HB := hide (hun.keep w.heap.size w (by omega) HB.out); replace Hb4 := hide (Hb4.out.upd hun (by omega)); clear hun))
            exact bodyPost_ret (results2 rfl (reads_row (g := w.heap.size) rfl Hb2.out Try.underlying24 rfl dq_s1) (reads_tmp rfl)) rfl ⟨hR.out, HB.out⟩
      · obtain rfl : K = s.size := by omega
        have hk2 : ¬ ((s.size : Nat) : Int) < (s.size : Int) := by omega
        rw [show s.data.toList.take s.size = s.data.toList from List.take_of_length_le (Nat.le_refl _)] at hN Hb4
        obtain ⟨N, eN⟩ : ∃ N, pv s.data.toList 0 = N := ⟨_, rfl⟩
        have hR := hide (show Ending.returned (.tuple #[.agg #[.int .u64 (lim N 0), .int .u64 (lim N 1), .int .u64 (lim N 2), .int .u64 (lim N 3)], .int .i64 0]) = .returned (.tuple #[.agg #[.int .u64 (lim (prV s.data.toList) 0), .int .u64 (lim (prV s.data.toList) 1), .int .u64 (lim (prV s.data.toList) 2), .int .u64 (lim (prV s.data.toList) 3)], .int .i64 (prE s.data.toList)]) by
          rw [show prV s.data.toList = N from (if_pos ⟨hc'.out, hN⟩).trans eN, show prE s.data.toList = 0 by rw [prE, if_pos hc'.out, if_pos hN]])
        rw [eN] at Hb4
        clear eN hN
        go_wp2_with (first | (refine n_loadw (by rfl) (T := 24) (x := (.tmp 4)) rfl (g := w1.heap.size) rfl Hb4.out Try.underlying24 rfl dq_s1 ?_) | (refine n_storew (by rfl) (T := 24) (x := (.tmp 2)) (y := (.tmp 41)) rfl (g := w.heap.size) rfl (vs := #[.int .u64 (lim N 0), .int .u64 (lim N 1), .int .u64 (lim N 2), .int .u64 (lim N 3)]) rfl (by first | (simp [Value.oneCell']; done)) Hb2.out rfl dq_s1 ?_; clear Hb2; intro w4 Hb2 hun; replace Hb2 := hide Hb2; replace HB := hide (hun.keep w.heap.size w (by omega) HB.out); replace Hb4 := hide (Hb4.out.upd hun (by omega)); clear hun))
        exact bodyPost_ret (results2 rfl (reads_row (g := w.heap.size) rfl Hb2.out Try.underlying24 rfl dq_s1) (reads_tmp rfl)) rfl ⟨hR.out, HB.out⟩
  · have hc2 : canB s.data.toList = false := by simpa using hc
    rw [hc2] at HC
    replace HC := hide HC
    rw [show prV s.data.toList = 0 from if_neg (fun h => hc h.1), show prE s.data.toList = 3 from if_neg hc, lim_zero, lim_zero, lim_zero, lim_zero]
    clear hc hc2
    go_enter Try.func11, Try.ntmps11
    go_wp2_with (first | (refine n_alloc (by rfl) (T := 24) rfl dq_z0 (ds := #[.int .u64 0, .int .u64 0, .int .u64 0, .int .u64 0]) rfl ?_; intro w1 Hb2 hbn; have HB := hide hbn; clear hbn; replace Hb2 := hide Hb2))
    refine (HC.out _).mono ?_
    rintro e w1' ⟨rfl, rfl⟩
    go_wp2_with (first | (refine n_storew (by rfl) (T := 24) (x := (.tmp 2)) (y := (.tmp 10)) rfl (g := w.heap.size) rfl (vs := #[.int .u64 0, .int .u64 0, .int .u64 0, .int .u64 0]) rfl (by first | (simp [Value.oneCell']; done)) Hb2.out rfl dq_s1 ?_; clear Hb2; intro w2 Hb2 hun; replace Hb2 := hide Hb2; replace HB := hide (hun.keep w.heap.size w (by omega) HB.out); clear hun))
    exact bodyPost_ret (results2 rfl (reads_row (g := w.heap.size) rfl Hb2.out Try.underlying24 rfl dq_s1) (reads_tmp rfl)) rfl ⟨rfl, HB.out⟩
end Go.Proofs.Ythikkajjnfeigaa
