/- chapter 12: ParamsSet, walked. -/
import Derived.WalkKit
import Derived.KernelRfl
import Derived.RowKit3
import Derived.Deep.LoopGhost
import Derived.Deep.QuietTactic
import Derived.BigQuiet
import Derived.WideLaws
import Derived.Laws.Rows
import Derived.Below
import Derived.Deep.Draws
import Derived.Outline
import Derived.LoopN
import Derived.Handy
import Derived.Laws.Externs
import Derived.Laws.BitsAllLaws
import Derived.Laws.BitsLemmas
import Derived.Deep.DeepCutAuto
import Derived.Deep.CutBlock
import Derived.Deep.RegionHeld3
import Derived.Test.YtbnpgecpanfpiaaRU
import Derived.Test.YtbnpgecpanfpiaaSC
import Derived.Test.YtbnpgecpanfpiaaPA
import Derived.Test.YtbnpgecpanfpiaaOW
namespace Go.Proofs.Ytbnpgecpanfpiaa
open Go.RowKit
set_option linter.unusedVariables false
set_option linter.unusedSimpArgs false
def n4s (a b c d : Int) : Nat → Int
  | 0 => a | 1 => b | 2 => c | 3 => d | _ => 0
theorem n4s_w {a b c d : Int} (wa : (Lit.int .u64 a).wf = true) (wb : (Lit.int .u64 b).wf = true) (wc : (Lit.int .u64 c).wf = true) (wd : (Lit.int .u64 d).wf = true) (j : Nat) : 0 ≤ n4s a b c d j ∧ n4s a b c d j < 18446744073709551616 := by
  have b0 := bounds_u64 wa; have b1 := bounds_u64 wb; have b2 := bounds_u64 wc; have b3 := bounds_u64 wd
  unfold n4s
  split <;> omega
theorem rs_z0 : (Try.prog.info? 26).map (fun i => (i.zero, i.size)) = some (some (.agg #[.int .u64 0, .int .u64 0, .int .u64 0, .int .u64 0, .int .u64 0, .int .u64 0, .int .u64 0, .int .u64 0, .int .u64 0, .int .u64 0, .int .u64 0, .int .u64 0, .int .u64 0, .int .u64 0, .int .u64 0, .int .u64 0, .int .u64 0, .int .u64 0, .int .u64 0, .int .u64 0, .int .u64 0]), 21) := by kernel_rfl
theorem rs_s1 : (Try.prog.info? 26).map (·.size) = some 21 := by kernel_rfl
theorem rs_s2 : (Try.prog.info? 37).map (·.size) = some 7 := by kernel_rfl
set_option maxRecDepth 20000 in
set_option maxHeartbeats 32000000 in
theorem Set_in (R0 : Nat → Int) (hR0 : PW R0) (ad : Option Addr) (len cap : Nat) (hcap : len ≤ cap) (hmx : cap ≤ 9223372036854775807) (w : World) (hr : GRow [some .i64, some .u64, some .u64, some .u64, some .u64, some .u64, some .u8] w ad len) :
    Calls Try.prog 4 #[.slice ad len cap, .agg (pC R0)] w fun e w' => e = .returned (.bool true) ∧ Below w.heap.size w w' := by
  have HR0 := hide hR0
  have HG := hide hr
  clear hR0 hr
  by_cases h40 : 40 < len
  · have h40' : (40 : Int) < (len : Int) := by omega
    go_enter Try.func4, Try.ntmps4
    go_wp2_with (first | (refine n_box (by rfl) (T := 26) (x := (.tmp 1)) rfl (v := .agg (pC R0)) rfl (ds := pC R0) rfl ?_; intro w1 Hb3 hbn; have HB := hide hbn; clear hbn; replace Hb3 := hide Hb3))
    refine (awake12_c _).mono ?_
    rintro e w2 ⟨rfl, hbc⟩
    replace HB := hide (HB.out.trans (hbc.mono HB.out.size))
    replace Hb3 := hide (Hb3.out.below hbc Hb3.out.lt)
    clear hbc
    go_wp2_with fail
    go_ret
    exact ⟨rfl, HB.out⟩
  have h40' : (len : Int) ≤ 40 := by omega
  have hl40 : len ≤ 40 := by omega
  go_enter Try.func4, Try.ntmps4
  go_wp2_with (first | (refine n_box (by rfl) (T := 26) (x := (.tmp 1)) rfl (v := .agg (pC R0)) rfl (ds := pC R0) rfl ?_; intro w1 Hb3 hbn; have HB := hide hbn; clear hbn; replace Hb3 := hide Hb3))
  refine (rgen_c _).mono ?_
  rintro e w2 ⟨rfl, hbc⟩
  replace HB := hide (HB.out.trans (hbc.mono HB.out.size))
  replace Hb3 := hide (Hb3.out.below hbc Hb3.out.lt)
  clear hbc
  go_wp2_with (first | (refine n_alloc (by rfl) (T := 26) rfl rs_z0 (ds := pC fun _ => 0) rfl ?_; intro w3 Hb5 hbn; have hsz_w2 := HB.out.size; have lt_b3_b5 := Hb3.out.lt; replace HB := hide (HB.out.trans (hbn.mono HB.out.size)); replace Hb3 := hide (Hb3.out.below hbn Hb3.out.lt); clear hbn; replace Hb5 := hide Hb5) | (refine n_storew (by rfl) (T := 26) (x := (.tmp 5)) (y := (.tmp 20)) rfl (g := w2.heap.size) rfl (vs := pC Gen) rfl (by first | exact pC_one _ | (simp [Value.oneCell']; done)) Hb5.out rfl rs_s1 ?_; clear Hb5; intro w4 Hb5 hun; replace Hb5 := hide Hb5; replace HB := hide (hun.keep w.heap.size w (by omega) HB.out); replace Hb3 := hide (Hb3.out.upd hun (by omega)); clear hun))
  go_loopw [6] (fun v6 wr => ∃ (K : Nat) (P : Nat → Int), K ≤ len ∧ v6 = .int .i64 K ∧ Hid (Below w.heap.size w wr) ∧ Hid (NB wr (w.heap.size) (pC R0) 26) ∧ Hid (PW P) ∧ Hid (NB wr (w2.heap.size) (pC P) 26) ∧ w.heap.size < w2.heap.size) (fun v6 _ => (len - (intOf v6).toNat))
  case atStart => exact ⟨0, Gen, by omega, rfl, HB, Hb3, hide Gen_w, Hb5, by omega⟩
  case round =>
    obtain ⟨K, P, hK, rfl, HB, Hb3, HP, Hb5, lb35⟩ := hrel
    rcases Nat.lt_or_ge K len with hlt | hge
    · have hg := HG.out (by omega)
      obtain ⟨b, o, hadr, hcell⟩ := hg
      subst hadr
      obtain ⟨cs, hL, hc⟩ := hcell K hlt
      obtain ⟨key, r1, rfl, wf0, hL⟩ := leaf_int hL
      obtain ⟨n0, r2, rfl, wf1, hL⟩ := leaf_int hL
      obtain ⟨n1, r3, rfl, wf2, hL⟩ := leaf_int hL
      obtain ⟨n2, r4, rfl, wf3, hL⟩ := leaf_int hL
      obtain ⟨n3, r5, rfl, wf4, hL⟩ := leaf_int hL
      obtain ⟨few, r6, rfl, wf5, hL⟩ := leaf_int hL
      obtain ⟨how, r7, rfl, wf6, hL⟩ := leaf_int hL
      obtain rfl := hL
      obtain ⟨N, e0, e1, e2, e3, hN⟩ : ∃ N : Nat → Int, n0 = N 0 ∧ n1 = N 1 ∧ n2 = N 2 ∧ n3 = N 3 ∧ ∀ j, 0 ≤ N j ∧ N j < 18446744073709551616 := ⟨n4s n0 n1 n2 n3, rfl, rfl, rfl, rfl, n4s_w wf1 wf2 wf3 wf4⟩
      subst e0 e1 e2 e3
      obtain ⟨f0, f1⟩ := bounds_u64 wf5
      obtain ⟨h0, h1⟩ := bounds_u8 wf6
      have HRng := hide (show ∀ w', Below w.heap.size w w' → w'.rangeAt b (o + K * 7) (#[.int .i64 key, .int .u64 (N 0), .int .u64 (N 1), .int .u64 (N 2), .int .u64 (N 3), .int .u64 few, .int .u8 how] : Array Value).toList from fun w' hb' j v hj => by
        have hj7 : j < 7 := by
          rcases Nat.lt_or_ge j 7 with h | h
          · exact h
          · rw [List.getElem?_eq_none (by simpa using h)] at hj; cases hj
        have h1 := (hc j hj7).trans hj
        have hlt' := World.block_lt_of_cell? w _ h1
        exact (hb'.cell (p := ⟨b, o + K * 7 + j, none⟩) hlt').trans h1)
      have HCell := hide (show ∀ w', Below w.heap.size w w' → w'.cell? ⟨b, o + K * 7, none⟩ = some (.int .i64 key) from fun w' hb' => HRng.out w' hb' 0 _ rfl)
      have HVal := fun w => value_c (N := N) key f0 (by omega) h0 w
      obtain ⟨V, eV⟩ : ∃ V, vL N few how = V := ⟨_, rfl⟩
      have HVw := hide (show ∀ j, 0 ≤ V j ∧ V j < 18446744073709551616 from fun j => eV ▸ vL_w hN f0 (by omega) how j)
      rw [eV] at HVal
      replace HVal := hide HVal
      have i0 : (0 : Int) ≤ (K : Int) := by omega
      have i1 : (K : Int) < (len : Int) := by omega
      have i2 : (len : Int) ≤ (cap : Int) := by omega
      clear hcell hc eV hN f0 f1 h0 h1 wf0 wf1 wf2 wf3 wf4 wf5 wf6
      go_upto_if 34 with (first | (refine n_loadc (by rfl) (T := 3) (x := (.tmp 30)) rfl (g := b) (o := o + K * 7) rfl (HCell.out _ HB.out) Try.underlying3 rfl ?_))
      go_cut [7] (fun s7 wx => ∃ k : Int, s7 = .int .i64 k ∧ wr = wx)
      case first =>
        go_wp2_with (go_at_call 17; refine (mod_c (by omega) (by omega) _).mono ?_; rintro e wr' ⟨rfl, rfl⟩)
        all_goals (go_meet; exact ⟨_, rfl, rfl⟩)
      case rest =>
        obtain ⟨k, rfl, rfl⟩ := hcut
        have lb3 := Hb3.out.lt
        have lb5 := Hb5.out.lt
        have lb0 := HB.out.size
        obtain ⟨R, eR⟩ : ∃ R, setR P k V = R := ⟨_, rfl⟩
        obtain ⟨E, eE⟩ : ∃ E, setE P k V = E := ⟨_, rfl⟩
        have HS1 := fun w => set_c P HP.out V HVw.out k w
        have HS2 := fun w => rset_c P HP.out V HVw.out k w
        rw [eR, eE] at HS1 HS2
        have HRw := hide (show PW R by
          rw [← eR]
          intro i
          unfold setR
          split
          · exact setP_w HP.out HVw.out k i
          · omega)
        clear eR eE
        obtain ⟨R', eR⟩ : ∃ R, setR R0 k V = R := ⟨_, rfl⟩
        obtain ⟨E', eE⟩ : ∃ E, setE R0 k V = E := ⟨_, rfl⟩
        have HS3 := fun w => set_c R0 HR0.out V HVw.out k w
        have HS4 := fun w => rset_c R0 HR0.out V HVw.out k w
        rw [eR, eE] at HS3 HS4
        clear eR eE
        replace HS1 := hide HS1
        replace HS2 := hide HS2
        replace HS3 := hide HS3
        replace HS4 := hide HS4
        go_upto_region 10 with fail
        go_cut [8, 9] (fun s8 s9 wx => ∃ g : Nat, s8 = .pointer (some ⟨g, 0, none⟩) ∧ s9 = .int .i64 E ∧ Below wr.heap.size wr wx ∧ wr.heap.size ≤ g ∧ NB wx g (pC R) 26)
        case first =>
          refine Sch.start (Sch.take 0 (Sch.take 1 (Sch.take 2 (Sch.take 3 (Sch.take 4 (Sch.take 5 (Sch.two 6 (Sch.two 7 (Sch.take 8 (Sch.take 9 (Sch.take 10 (Sch.one 11 (Sch.one 12 (Sch.take 13 Sch.done)))))) 11 (Sch.one 7 (Sch.take 8 (Sch.take 9 (Sch.take 10 (Sch.one 12 (Sch.take 13 Sch.done))))))) 11 (Sch.one 6 (Sch.one 7 (Sch.take 8 (Sch.take 9 (Sch.take 10 (Sch.one 12 (Sch.take 13 Sch.done)))))))))))))) (S := fun w' => Below wr.heap.size wr w') (by kernel_rfl) (by kernel_rfl) (fun _ d _ _ _ h => by cases d <;> exact h) (by kernel_rfl) ((Below.refl _ _).drew) (fun O hO hHeld => ?_)
          (refine Sch.t_loadw hO rfl (by rfl) (T := 26) rfl (g := w2.heap.size) rfl (fun w' h => Hb5.out.below h Hb5.out.lt) Try.underlying26 rfl rs_s1 ?_; (try simp only [Act.put, List.setIfInBounds_toArray, List.set_cons_zero, List.set_cons_succ, Array.toArray_toList, List.getElem_toArray, List.getElem_cons_succ, List.getElem_cons_zero]))
          (refine Sch.t_move hO rfl (by rfl) (v := .int .i64 k) (.inl rfl) rfl ?_; (try simp only [Act.put, List.setIfInBounds_toArray, List.set_cons_zero, List.set_cons_succ, Array.toArray_toList, List.getElem_toArray, List.getElem_cons_succ, List.getElem_cons_zero]))
          (refine Sch.t_move hO rfl (by rfl) (v := .slice (some ⟨b, o, none⟩) len cap) (.inl rfl) rfl ?_; (try simp only [Act.put, List.setIfInBounds_toArray, List.set_cons_zero, List.set_cons_succ, Array.toArray_toList, List.getElem_toArray, List.getElem_cons_succ, List.getElem_cons_zero]))
          (refine Sch.t_move hO rfl (by rfl) (v := .int .i64 ((K : Int))) (.inl rfl) rfl ?_; (try simp only [Act.put, List.setIfInBounds_toArray, List.set_cons_zero, List.set_cons_succ, Array.toArray_toList, List.getElem_toArray, List.getElem_cons_succ, List.getElem_cons_zero]))
          (refine Sch.t_val hO rfl (by rfl) (v := .pointer (some ⟨b, o + K * 7, none⟩)) (fun w _ => (by go_simp)) ?_; (try simp only [Act.put, List.setIfInBounds_toArray, List.set_cons_zero, List.set_cons_succ, Array.toArray_toList, List.getElem_toArray, List.getElem_cons_succ, List.getElem_cons_zero]))
          (refine Sch.t_range hO rfl (by rfl) (T := 37) rfl (g := b) (o := o + K * 7) rfl (ds := #[.int .i64 key, .int .u64 (N 0), .int .u64 (N 1), .int .u64 (N 2), .int .u64 (N 3), .int .u64 few, .int .u8 how]) (fun w' h => HRng.out w' (HB.out.trans (h.mono HB.out.size))) Try.underlying37 rfl rs_s2 ?_; (try simp only [Act.put, List.setIfInBounds_toArray, List.set_cons_zero, List.set_cons_succ, Array.toArray_toList, List.getElem_toArray, List.getElem_cons_succ, List.getElem_cons_zero]))
          refine Sch.s_two hO rfl (by rfl) rfl (by rfl) (fun K hK => ?_) (fun K hK => ?_)
          · go_simp
            go_at_call 19
            refine (HVal.out _).mono ?_
            rintro e y1 ⟨rfl, hb_y1⟩
            go_wp2_with fail
            refine hK.out _ _ (hHeld.trans (hb_y1.mono hHeld.size)) (fun hHeld => ?_)
            clear hK K
            (try simp only [Act.put, List.setIfInBounds_toArray, List.set_cons_zero, List.set_cons_succ, Array.toArray_toList, List.getElem_toArray, List.getElem_cons_succ, List.getElem_cons_zero])
            refine Sch.s_two hO rfl (by rfl) rfl (by rfl) (fun K hK => ?_) (fun K hK => ?_)
            · go_simp
              go_at_call 18
              refine (HS1.out _).mono ?_
              rintro e y2 ⟨rfl, hb_y2⟩
              go_wp2_with fail
              refine hK.out _ _ (hHeld.trans (hb_y2.mono hHeld.size)) (fun hHeld => ?_)
              clear hK K
              (try simp only [Act.put, List.setIfInBounds_toArray, List.set_cons_zero, List.set_cons_succ, Array.toArray_toList, List.getElem_toArray, List.getElem_cons_succ, List.getElem_cons_zero])
              (refine Sch.t_move hO rfl (by rfl) (v := .tuple #[.agg (pC R), .int .i64 E]) (.inl rfl) rfl ?_; (try simp only [Act.put, List.setIfInBounds_toArray, List.set_cons_zero, List.set_cons_succ, Array.toArray_toList, List.getElem_toArray, List.getElem_cons_succ, List.getElem_cons_zero]))
              (refine Sch.t_val hO rfl (by rfl) (v := .agg (pC R)) (fun w _ => (by go_simp)) ?_; (try simp only [Act.put, List.setIfInBounds_toArray, List.set_cons_zero, List.set_cons_succ, Array.toArray_toList, List.getElem_toArray, List.getElem_cons_succ, List.getElem_cons_zero]))
              (refine Sch.t_val hO rfl (by rfl) (v := .int .i64 E) (fun w _ => (by go_simp)) ?_; (try simp only [Act.put, List.setIfInBounds_toArray, List.set_cons_zero, List.set_cons_succ, Array.toArray_toList, List.getElem_toArray, List.getElem_cons_succ, List.getElem_cons_zero]))
              refine Sch.s_one hO rfl (by rfl) (fun K hK => ?_)
              have hg_n8_y3 := hHeld.size
              refine q_alloc rfl rs_z0 (ds := pC fun _ => 0) rfl ?_
              intro y3 Hn8 hb_y3
              replace Hn8 := hide Hn8
              refine hK.out _ _ (hHeld.trans (hb_y3.mono hHeld.size)) (fun hHeld => ?_)
              clear hK K
              (try simp only [Act.put, List.setIfInBounds_toArray, List.set_cons_zero, List.set_cons_succ, Array.toArray_toList, List.getElem_toArray, List.getElem_cons_succ, List.getElem_cons_zero])
              refine Sch.s_one hO rfl (by rfl) (fun K hK => ?_)
              refine q_storew rfl (g := y2.heap.size) rfl (vs := pC R) rfl (by first | exact pC_one _ | (simp [Value.oneCell']; done)) Hn8.out rfl rs_s1 ?_
              clear Hn8
              intro y4 Hn8 hu_y4
              replace Hn8 := hide (show NB y4 (y2.heap.size) (pC R) 26 from Hn8)
              refine hK.out _ _ (hu_y4.keep wr.heap.size wr hg_n8_y3 hHeld) (fun hHeld => ?_)
              clear hK K
              (try simp only [Act.put, List.setIfInBounds_toArray, List.set_cons_zero, List.set_cons_succ, Array.toArray_toList, List.getElem_toArray, List.getElem_cons_succ, List.getElem_cons_zero])
              (refine Sch.t_move hO rfl (by rfl) (v := .int .i64 E) (.inr rfl) rfl ?_; (try simp only [Act.put, List.setIfInBounds_toArray, List.set_cons_zero, List.set_cons_succ, Array.toArray_toList, List.getElem_toArray, List.getElem_cons_succ, List.getElem_cons_zero]))
              refine Sch.t_done ?_
              go_wp2_with fail
              go_meet
              exact ⟨y2.heap.size, rfl, rfl, hHeld, hg_n8_y3, Hn8.out⟩
            · have hg_n8_y5 := hHeld.size
              refine q_alloc rfl rs_z0 (ds := pC fun _ => 0) rfl ?_
              intro y5 Hn8 hb_y5
              replace Hn8 := hide Hn8
              refine hK.out _ _ (hHeld.trans (hb_y5.mono hHeld.size)) (fun hHeld => ?_)
              clear hK K
              (try simp only [Act.put, List.setIfInBounds_toArray, List.set_cons_zero, List.set_cons_succ, Array.toArray_toList, List.getElem_toArray, List.getElem_cons_succ, List.getElem_cons_zero])
              refine Sch.s_one hO rfl (by rfl) (fun K hK => ?_)
              go_simp
              go_at_call 18
              refine (HS1.out _).mono ?_
              rintro e y6 ⟨rfl, hb_y6⟩
              go_wp2_with fail
              replace Hn8 := hide (Hn8.out.below hb_y6 Hn8.out.lt)
              refine hK.out _ _ (hHeld.trans (hb_y6.mono hHeld.size)) (fun hHeld => ?_)
              clear hK K
              (try simp only [Act.put, List.setIfInBounds_toArray, List.set_cons_zero, List.set_cons_succ, Array.toArray_toList, List.getElem_toArray, List.getElem_cons_succ, List.getElem_cons_zero])
              (refine Sch.t_move hO rfl (by rfl) (v := .tuple #[.agg (pC R), .int .i64 E]) (.inl rfl) rfl ?_; (try simp only [Act.put, List.setIfInBounds_toArray, List.set_cons_zero, List.set_cons_succ, Array.toArray_toList, List.getElem_toArray, List.getElem_cons_succ, List.getElem_cons_zero]))
              (refine Sch.t_val hO rfl (by rfl) (v := .agg (pC R)) (fun w _ => (by go_simp)) ?_; (try simp only [Act.put, List.setIfInBounds_toArray, List.set_cons_zero, List.set_cons_succ, Array.toArray_toList, List.getElem_toArray, List.getElem_cons_succ, List.getElem_cons_zero]))
              (refine Sch.t_val hO rfl (by rfl) (v := .int .i64 E) (fun w _ => (by go_simp)) ?_; (try simp only [Act.put, List.setIfInBounds_toArray, List.set_cons_zero, List.set_cons_succ, Array.toArray_toList, List.getElem_toArray, List.getElem_cons_succ, List.getElem_cons_zero]))
              refine Sch.s_one hO rfl (by rfl) (fun K hK => ?_)
              refine q_storew rfl (g := y1.heap.size) rfl (vs := pC R) rfl (by first | exact pC_one _ | (simp [Value.oneCell']; done)) Hn8.out rfl rs_s1 ?_
              clear Hn8
              intro y7 Hn8 hu_y7
              replace Hn8 := hide (show NB y7 (y1.heap.size) (pC R) 26 from Hn8)
              refine hK.out _ _ (hu_y7.keep wr.heap.size wr hg_n8_y5 hHeld) (fun hHeld => ?_)
              clear hK K
              (try simp only [Act.put, List.setIfInBounds_toArray, List.set_cons_zero, List.set_cons_succ, Array.toArray_toList, List.getElem_toArray, List.getElem_cons_succ, List.getElem_cons_zero])
              (refine Sch.t_move hO rfl (by rfl) (v := .int .i64 E) (.inr rfl) rfl ?_; (try simp only [Act.put, List.setIfInBounds_toArray, List.set_cons_zero, List.set_cons_succ, Array.toArray_toList, List.getElem_toArray, List.getElem_cons_succ, List.getElem_cons_zero]))
              refine Sch.t_done ?_
              go_wp2_with fail
              go_meet
              exact ⟨y1.heap.size, rfl, rfl, hHeld, hg_n8_y5, Hn8.out⟩
          · have hg_n8_y8 := hHeld.size
            refine q_alloc rfl rs_z0 (ds := pC fun _ => 0) rfl ?_
            intro y8 Hn8 hb_y8
            replace Hn8 := hide Hn8
            refine hK.out _ _ (hHeld.trans (hb_y8.mono hHeld.size)) (fun hHeld => ?_)
            clear hK K
            (try simp only [Act.put, List.setIfInBounds_toArray, List.set_cons_zero, List.set_cons_succ, Array.toArray_toList, List.getElem_toArray, List.getElem_cons_succ, List.getElem_cons_zero])
            refine Sch.s_one hO rfl (by rfl) (fun K hK => ?_)
            go_simp
            go_at_call 19
            refine (HVal.out _).mono ?_
            rintro e y9 ⟨rfl, hb_y9⟩
            go_wp2_with fail
            replace Hn8 := hide (Hn8.out.below hb_y9 Hn8.out.lt)
            refine hK.out _ _ (hHeld.trans (hb_y9.mono hHeld.size)) (fun hHeld => ?_)
            clear hK K
            (try simp only [Act.put, List.setIfInBounds_toArray, List.set_cons_zero, List.set_cons_succ, Array.toArray_toList, List.getElem_toArray, List.getElem_cons_succ, List.getElem_cons_zero])
            refine Sch.s_one hO rfl (by rfl) (fun K hK => ?_)
            go_simp
            go_at_call 18
            refine (HS1.out _).mono ?_
            rintro e y10 ⟨rfl, hb_y10⟩
            go_wp2_with fail
            replace Hn8 := hide (Hn8.out.below hb_y10 Hn8.out.lt)
            refine hK.out _ _ (hHeld.trans (hb_y10.mono hHeld.size)) (fun hHeld => ?_)
            clear hK K
            (try simp only [Act.put, List.setIfInBounds_toArray, List.set_cons_zero, List.set_cons_succ, Array.toArray_toList, List.getElem_toArray, List.getElem_cons_succ, List.getElem_cons_zero])
            (refine Sch.t_move hO rfl (by rfl) (v := .tuple #[.agg (pC R), .int .i64 E]) (.inl rfl) rfl ?_; (try simp only [Act.put, List.setIfInBounds_toArray, List.set_cons_zero, List.set_cons_succ, Array.toArray_toList, List.getElem_toArray, List.getElem_cons_succ, List.getElem_cons_zero]))
            (refine Sch.t_val hO rfl (by rfl) (v := .agg (pC R)) (fun w _ => (by go_simp)) ?_; (try simp only [Act.put, List.setIfInBounds_toArray, List.set_cons_zero, List.set_cons_succ, Array.toArray_toList, List.getElem_toArray, List.getElem_cons_succ, List.getElem_cons_zero]))
            (refine Sch.t_val hO rfl (by rfl) (v := .int .i64 E) (fun w _ => (by go_simp)) ?_; (try simp only [Act.put, List.setIfInBounds_toArray, List.set_cons_zero, List.set_cons_succ, Array.toArray_toList, List.getElem_toArray, List.getElem_cons_succ, List.getElem_cons_zero]))
            refine Sch.s_one hO rfl (by rfl) (fun K hK => ?_)
            refine q_storew rfl (g := wr.drew.heap.size) rfl (vs := pC R) rfl (by first | exact pC_one _ | (simp [Value.oneCell']; done)) Hn8.out rfl rs_s1 ?_
            clear Hn8
            intro y11 Hn8 hu_y11
            replace Hn8 := hide (show NB y11 (wr.drew.heap.size) (pC R) 26 from Hn8)
            refine hK.out _ _ (hu_y11.keep wr.heap.size wr hg_n8_y8 hHeld) (fun hHeld => ?_)
            clear hK K
            (try simp only [Act.put, List.setIfInBounds_toArray, List.set_cons_zero, List.set_cons_succ, Array.toArray_toList, List.getElem_toArray, List.getElem_cons_succ, List.getElem_cons_zero])
            (refine Sch.t_move hO rfl (by rfl) (v := .int .i64 E) (.inr rfl) rfl ?_; (try simp only [Act.put, List.setIfInBounds_toArray, List.set_cons_zero, List.set_cons_succ, Array.toArray_toList, List.getElem_toArray, List.getElem_cons_succ, List.getElem_cons_zero]))
            refine Sch.t_done ?_
            go_wp2_with fail
            go_meet
            exact ⟨wr.drew.heap.size, rfl, rfl, hHeld, hg_n8_y8, Hn8.out⟩
        case rest =>
          obtain ⟨g8, rfl, rfl, hb, hge8, hz⟩ := hcut
          obtain ⟨w5, ew⟩ : ∃ W, W = wc := ⟨_, rfl⟩
          rw [← ew] at hb hz ⊢
          clear ew
          replace HB := hide (HB.out.trans (hb.mono HB.out.size))
          replace Hb3 := hide (Hb3.out.below hb Hb3.out.lt)
          replace Hb5 := hide (Hb5.out.below hb Hb5.out.lt)
          have Hb8 := hide hz
          have lt_g8 := hz.lt
          clear hb hz
          go_upto_region 11 with fail
          go_cut [10, 11] (fun s10 s11 wx => ∃ g : Nat, s10 = .pointer (some ⟨g, 0, none⟩) ∧ s11 = .int .i64 E ∧ Below w5.heap.size w5 wx ∧ w5.heap.size ≤ g ∧ NB wx g (pC R) 26)
          case first =>
            refine Sch.start (Sch.take 0 (Sch.take 1 (Sch.take 2 (Sch.take 3 (Sch.take 4 (Sch.take 5 (Sch.two 6 (Sch.two 7 (Sch.take 8 (Sch.take 9 (Sch.take 10 (Sch.one 11 (Sch.one 12 (Sch.take 13 Sch.done)))))) 11 (Sch.one 7 (Sch.take 8 (Sch.take 9 (Sch.take 10 (Sch.one 12 (Sch.take 13 Sch.done))))))) 11 (Sch.one 6 (Sch.one 7 (Sch.take 8 (Sch.take 9 (Sch.take 10 (Sch.one 12 (Sch.take 13 Sch.done)))))))))))))) (S := fun w' => Below w5.heap.size w5 w') (by kernel_rfl) (by kernel_rfl) (fun _ d _ _ _ h => by cases d <;> exact h) (by kernel_rfl) ((Below.refl _ _).drew) (fun O hO hHeld => ?_)
            (refine Sch.t_loadw hO rfl (by rfl) (T := 26) rfl (g := w2.heap.size) rfl (fun w' h => Hb5.out.below h Hb5.out.lt) Try.underlying26 rfl rs_s1 ?_; (try simp only [Act.put, List.setIfInBounds_toArray, List.set_cons_zero, List.set_cons_succ, Array.toArray_toList, List.getElem_toArray, List.getElem_cons_succ, List.getElem_cons_zero]))
            (refine Sch.t_move hO rfl (by rfl) (v := .int .i64 k) (.inl rfl) rfl ?_; (try simp only [Act.put, List.setIfInBounds_toArray, List.set_cons_zero, List.set_cons_succ, Array.toArray_toList, List.getElem_toArray, List.getElem_cons_succ, List.getElem_cons_zero]))
            (refine Sch.t_move hO rfl (by rfl) (v := .slice (some ⟨b, o, none⟩) len cap) (.inl rfl) rfl ?_; (try simp only [Act.put, List.setIfInBounds_toArray, List.set_cons_zero, List.set_cons_succ, Array.toArray_toList, List.getElem_toArray, List.getElem_cons_succ, List.getElem_cons_zero]))
            (refine Sch.t_move hO rfl (by rfl) (v := .int .i64 ((K : Int))) (.inl rfl) rfl ?_; (try simp only [Act.put, List.setIfInBounds_toArray, List.set_cons_zero, List.set_cons_succ, Array.toArray_toList, List.getElem_toArray, List.getElem_cons_succ, List.getElem_cons_zero]))
            (refine Sch.t_val hO rfl (by rfl) (v := .pointer (some ⟨b, o + K * 7, none⟩)) (fun w _ => (by go_simp)) ?_; (try simp only [Act.put, List.setIfInBounds_toArray, List.set_cons_zero, List.set_cons_succ, Array.toArray_toList, List.getElem_toArray, List.getElem_cons_succ, List.getElem_cons_zero]))
            (refine Sch.t_range hO rfl (by rfl) (T := 37) rfl (g := b) (o := o + K * 7) rfl (ds := #[.int .i64 key, .int .u64 (N 0), .int .u64 (N 1), .int .u64 (N 2), .int .u64 (N 3), .int .u64 few, .int .u8 how]) (fun w' h => HRng.out w' (HB.out.trans (h.mono HB.out.size))) Try.underlying37 rfl rs_s2 ?_; (try simp only [Act.put, List.setIfInBounds_toArray, List.set_cons_zero, List.set_cons_succ, Array.toArray_toList, List.getElem_toArray, List.getElem_cons_succ, List.getElem_cons_zero]))
            refine Sch.s_two hO rfl (by rfl) rfl (by rfl) (fun K hK => ?_) (fun K hK => ?_)
            · go_simp
              go_at_call 19
              refine (HVal.out _).mono ?_
              rintro e y1 ⟨rfl, hb_y1⟩
              go_wp2_with fail
              refine hK.out _ _ (hHeld.trans (hb_y1.mono hHeld.size)) (fun hHeld => ?_)
              clear hK K
              (try simp only [Act.put, List.setIfInBounds_toArray, List.set_cons_zero, List.set_cons_succ, Array.toArray_toList, List.getElem_toArray, List.getElem_cons_succ, List.getElem_cons_zero])
              refine Sch.s_two hO rfl (by rfl) rfl (by rfl) (fun K hK => ?_) (fun K hK => ?_)
              · go_simp
                go_at_call 20
                refine (HS2.out _).mono ?_
                rintro e y2 ⟨rfl, hb_y2⟩
                go_wp2_with fail
                refine hK.out _ _ (hHeld.trans (hb_y2.mono hHeld.size)) (fun hHeld => ?_)
                clear hK K
                (try simp only [Act.put, List.setIfInBounds_toArray, List.set_cons_zero, List.set_cons_succ, Array.toArray_toList, List.getElem_toArray, List.getElem_cons_succ, List.getElem_cons_zero])
                (refine Sch.t_move hO rfl (by rfl) (v := .tuple #[.agg (pC R), .int .i64 E]) (.inl rfl) rfl ?_; (try simp only [Act.put, List.setIfInBounds_toArray, List.set_cons_zero, List.set_cons_succ, Array.toArray_toList, List.getElem_toArray, List.getElem_cons_succ, List.getElem_cons_zero]))
                (refine Sch.t_val hO rfl (by rfl) (v := .agg (pC R)) (fun w _ => (by go_simp)) ?_; (try simp only [Act.put, List.setIfInBounds_toArray, List.set_cons_zero, List.set_cons_succ, Array.toArray_toList, List.getElem_toArray, List.getElem_cons_succ, List.getElem_cons_zero]))
                (refine Sch.t_val hO rfl (by rfl) (v := .int .i64 E) (fun w _ => (by go_simp)) ?_; (try simp only [Act.put, List.setIfInBounds_toArray, List.set_cons_zero, List.set_cons_succ, Array.toArray_toList, List.getElem_toArray, List.getElem_cons_succ, List.getElem_cons_zero]))
                refine Sch.s_one hO rfl (by rfl) (fun K hK => ?_)
                have hg_n10_y3 := hHeld.size
                refine q_alloc rfl rs_z0 (ds := pC fun _ => 0) rfl ?_
                intro y3 Hn10 hb_y3
                replace Hn10 := hide Hn10
                refine hK.out _ _ (hHeld.trans (hb_y3.mono hHeld.size)) (fun hHeld => ?_)
                clear hK K
                (try simp only [Act.put, List.setIfInBounds_toArray, List.set_cons_zero, List.set_cons_succ, Array.toArray_toList, List.getElem_toArray, List.getElem_cons_succ, List.getElem_cons_zero])
                refine Sch.s_one hO rfl (by rfl) (fun K hK => ?_)
                refine q_storew rfl (g := y2.heap.size) rfl (vs := pC R) rfl (by first | exact pC_one _ | (simp [Value.oneCell']; done)) Hn10.out rfl rs_s1 ?_
                clear Hn10
                intro y4 Hn10 hu_y4
                replace Hn10 := hide (show NB y4 (y2.heap.size) (pC R) 26 from Hn10)
                refine hK.out _ _ (hu_y4.keep w5.heap.size w5 hg_n10_y3 hHeld) (fun hHeld => ?_)
                clear hK K
                (try simp only [Act.put, List.setIfInBounds_toArray, List.set_cons_zero, List.set_cons_succ, Array.toArray_toList, List.getElem_toArray, List.getElem_cons_succ, List.getElem_cons_zero])
                (refine Sch.t_move hO rfl (by rfl) (v := .int .i64 E) (.inr rfl) rfl ?_; (try simp only [Act.put, List.setIfInBounds_toArray, List.set_cons_zero, List.set_cons_succ, Array.toArray_toList, List.getElem_toArray, List.getElem_cons_succ, List.getElem_cons_zero]))
                refine Sch.t_done ?_
                go_wp2_with fail
                go_meet
                exact ⟨y2.heap.size, rfl, rfl, hHeld, hg_n10_y3, Hn10.out⟩
              · have hg_n10_y5 := hHeld.size
                refine q_alloc rfl rs_z0 (ds := pC fun _ => 0) rfl ?_
                intro y5 Hn10 hb_y5
                replace Hn10 := hide Hn10
                refine hK.out _ _ (hHeld.trans (hb_y5.mono hHeld.size)) (fun hHeld => ?_)
                clear hK K
                (try simp only [Act.put, List.setIfInBounds_toArray, List.set_cons_zero, List.set_cons_succ, Array.toArray_toList, List.getElem_toArray, List.getElem_cons_succ, List.getElem_cons_zero])
                refine Sch.s_one hO rfl (by rfl) (fun K hK => ?_)
                go_simp
                go_at_call 20
                refine (HS2.out _).mono ?_
                rintro e y6 ⟨rfl, hb_y6⟩
                go_wp2_with fail
                replace Hn10 := hide (Hn10.out.below hb_y6 Hn10.out.lt)
                refine hK.out _ _ (hHeld.trans (hb_y6.mono hHeld.size)) (fun hHeld => ?_)
                clear hK K
                (try simp only [Act.put, List.setIfInBounds_toArray, List.set_cons_zero, List.set_cons_succ, Array.toArray_toList, List.getElem_toArray, List.getElem_cons_succ, List.getElem_cons_zero])
                (refine Sch.t_move hO rfl (by rfl) (v := .tuple #[.agg (pC R), .int .i64 E]) (.inl rfl) rfl ?_; (try simp only [Act.put, List.setIfInBounds_toArray, List.set_cons_zero, List.set_cons_succ, Array.toArray_toList, List.getElem_toArray, List.getElem_cons_succ, List.getElem_cons_zero]))
                (refine Sch.t_val hO rfl (by rfl) (v := .agg (pC R)) (fun w _ => (by go_simp)) ?_; (try simp only [Act.put, List.setIfInBounds_toArray, List.set_cons_zero, List.set_cons_succ, Array.toArray_toList, List.getElem_toArray, List.getElem_cons_succ, List.getElem_cons_zero]))
                (refine Sch.t_val hO rfl (by rfl) (v := .int .i64 E) (fun w _ => (by go_simp)) ?_; (try simp only [Act.put, List.setIfInBounds_toArray, List.set_cons_zero, List.set_cons_succ, Array.toArray_toList, List.getElem_toArray, List.getElem_cons_succ, List.getElem_cons_zero]))
                refine Sch.s_one hO rfl (by rfl) (fun K hK => ?_)
                refine q_storew rfl (g := y1.heap.size) rfl (vs := pC R) rfl (by first | exact pC_one _ | (simp [Value.oneCell']; done)) Hn10.out rfl rs_s1 ?_
                clear Hn10
                intro y7 Hn10 hu_y7
                replace Hn10 := hide (show NB y7 (y1.heap.size) (pC R) 26 from Hn10)
                refine hK.out _ _ (hu_y7.keep w5.heap.size w5 hg_n10_y5 hHeld) (fun hHeld => ?_)
                clear hK K
                (try simp only [Act.put, List.setIfInBounds_toArray, List.set_cons_zero, List.set_cons_succ, Array.toArray_toList, List.getElem_toArray, List.getElem_cons_succ, List.getElem_cons_zero])
                (refine Sch.t_move hO rfl (by rfl) (v := .int .i64 E) (.inr rfl) rfl ?_; (try simp only [Act.put, List.setIfInBounds_toArray, List.set_cons_zero, List.set_cons_succ, Array.toArray_toList, List.getElem_toArray, List.getElem_cons_succ, List.getElem_cons_zero]))
                refine Sch.t_done ?_
                go_wp2_with fail
                go_meet
                exact ⟨y1.heap.size, rfl, rfl, hHeld, hg_n10_y5, Hn10.out⟩
            · have hg_n10_y8 := hHeld.size
              refine q_alloc rfl rs_z0 (ds := pC fun _ => 0) rfl ?_
              intro y8 Hn10 hb_y8
              replace Hn10 := hide Hn10
              refine hK.out _ _ (hHeld.trans (hb_y8.mono hHeld.size)) (fun hHeld => ?_)
              clear hK K
              (try simp only [Act.put, List.setIfInBounds_toArray, List.set_cons_zero, List.set_cons_succ, Array.toArray_toList, List.getElem_toArray, List.getElem_cons_succ, List.getElem_cons_zero])
              refine Sch.s_one hO rfl (by rfl) (fun K hK => ?_)
              go_simp
              go_at_call 19
              refine (HVal.out _).mono ?_
              rintro e y9 ⟨rfl, hb_y9⟩
              go_wp2_with fail
              replace Hn10 := hide (Hn10.out.below hb_y9 Hn10.out.lt)
              refine hK.out _ _ (hHeld.trans (hb_y9.mono hHeld.size)) (fun hHeld => ?_)
              clear hK K
              (try simp only [Act.put, List.setIfInBounds_toArray, List.set_cons_zero, List.set_cons_succ, Array.toArray_toList, List.getElem_toArray, List.getElem_cons_succ, List.getElem_cons_zero])
              refine Sch.s_one hO rfl (by rfl) (fun K hK => ?_)
              go_simp
              go_at_call 20
              refine (HS2.out _).mono ?_
              rintro e y10 ⟨rfl, hb_y10⟩
              go_wp2_with fail
              replace Hn10 := hide (Hn10.out.below hb_y10 Hn10.out.lt)
              refine hK.out _ _ (hHeld.trans (hb_y10.mono hHeld.size)) (fun hHeld => ?_)
              clear hK K
              (try simp only [Act.put, List.setIfInBounds_toArray, List.set_cons_zero, List.set_cons_succ, Array.toArray_toList, List.getElem_toArray, List.getElem_cons_succ, List.getElem_cons_zero])
              (refine Sch.t_move hO rfl (by rfl) (v := .tuple #[.agg (pC R), .int .i64 E]) (.inl rfl) rfl ?_; (try simp only [Act.put, List.setIfInBounds_toArray, List.set_cons_zero, List.set_cons_succ, Array.toArray_toList, List.getElem_toArray, List.getElem_cons_succ, List.getElem_cons_zero]))
              (refine Sch.t_val hO rfl (by rfl) (v := .agg (pC R)) (fun w _ => (by go_simp)) ?_; (try simp only [Act.put, List.setIfInBounds_toArray, List.set_cons_zero, List.set_cons_succ, Array.toArray_toList, List.getElem_toArray, List.getElem_cons_succ, List.getElem_cons_zero]))
              (refine Sch.t_val hO rfl (by rfl) (v := .int .i64 E) (fun w _ => (by go_simp)) ?_; (try simp only [Act.put, List.setIfInBounds_toArray, List.set_cons_zero, List.set_cons_succ, Array.toArray_toList, List.getElem_toArray, List.getElem_cons_succ, List.getElem_cons_zero]))
              refine Sch.s_one hO rfl (by rfl) (fun K hK => ?_)
              refine q_storew rfl (g := w5.drew.heap.size) rfl (vs := pC R) rfl (by first | exact pC_one _ | (simp [Value.oneCell']; done)) Hn10.out rfl rs_s1 ?_
              clear Hn10
              intro y11 Hn10 hu_y11
              replace Hn10 := hide (show NB y11 (w5.drew.heap.size) (pC R) 26 from Hn10)
              refine hK.out _ _ (hu_y11.keep w5.heap.size w5 hg_n10_y8 hHeld) (fun hHeld => ?_)
              clear hK K
              (try simp only [Act.put, List.setIfInBounds_toArray, List.set_cons_zero, List.set_cons_succ, Array.toArray_toList, List.getElem_toArray, List.getElem_cons_succ, List.getElem_cons_zero])
              (refine Sch.t_move hO rfl (by rfl) (v := .int .i64 E) (.inr rfl) rfl ?_; (try simp only [Act.put, List.setIfInBounds_toArray, List.set_cons_zero, List.set_cons_succ, Array.toArray_toList, List.getElem_toArray, List.getElem_cons_succ, List.getElem_cons_zero]))
              refine Sch.t_done ?_
              go_wp2_with fail
              go_meet
              exact ⟨w5.drew.heap.size, rfl, rfl, hHeld, hg_n10_y8, Hn10.out⟩
          case rest =>
            obtain ⟨g10, rfl, rfl, hb, hge10, hz⟩ := hcut
            obtain ⟨w6, ew⟩ : ∃ W, W = wc := ⟨_, rfl⟩
            rw [← ew] at hb hz ⊢
            clear ew
            replace HB := hide (HB.out.trans (hb.mono HB.out.size))
            replace Hb3 := hide (Hb3.out.below hb Hb3.out.lt)
            replace Hb5 := hide (Hb5.out.below hb Hb5.out.lt)
            replace Hb8 := hide (Hb8.out.below hb Hb8.out.lt)
            have Hb10 := hide hz
            have lt_g10 := hz.lt
            clear hb hz
            go_upto_region 12 with fail
            go_cut [12, 13] (fun s12 s13 wx => ∃ g : Nat, s12 = .pointer (some ⟨g, 0, none⟩) ∧ s13 = .int .i64 E' ∧ Below w6.heap.size w6 wx ∧ w6.heap.size ≤ g ∧ NB wx g (pC R') 26)
            case first =>
              refine Sch.start (Sch.take 0 (Sch.take 1 (Sch.take 2 (Sch.take 3 (Sch.take 4 (Sch.take 5 (Sch.two 6 (Sch.two 7 (Sch.take 8 (Sch.take 9 (Sch.take 10 (Sch.one 11 (Sch.one 12 (Sch.take 13 Sch.done)))))) 11 (Sch.one 7 (Sch.take 8 (Sch.take 9 (Sch.take 10 (Sch.one 12 (Sch.take 13 Sch.done))))))) 11 (Sch.one 6 (Sch.one 7 (Sch.take 8 (Sch.take 9 (Sch.take 10 (Sch.one 12 (Sch.take 13 Sch.done)))))))))))))) (S := fun w' => Below w6.heap.size w6 w') (by kernel_rfl) (by kernel_rfl) (fun _ d _ _ _ h => by cases d <;> exact h) (by kernel_rfl) ((Below.refl _ _).drew) (fun O hO hHeld => ?_)
              (refine Sch.t_loadw hO rfl (by rfl) (T := 26) rfl (g := w.heap.size) rfl (fun w' h => Hb3.out.below h Hb3.out.lt) Try.underlying26 rfl rs_s1 ?_; (try simp only [Act.put, List.setIfInBounds_toArray, List.set_cons_zero, List.set_cons_succ, Array.toArray_toList, List.getElem_toArray, List.getElem_cons_succ, List.getElem_cons_zero]))
              (refine Sch.t_move hO rfl (by rfl) (v := .int .i64 k) (.inl rfl) rfl ?_; (try simp only [Act.put, List.setIfInBounds_toArray, List.set_cons_zero, List.set_cons_succ, Array.toArray_toList, List.getElem_toArray, List.getElem_cons_succ, List.getElem_cons_zero]))
              (refine Sch.t_move hO rfl (by rfl) (v := .slice (some ⟨b, o, none⟩) len cap) (.inl rfl) rfl ?_; (try simp only [Act.put, List.setIfInBounds_toArray, List.set_cons_zero, List.set_cons_succ, Array.toArray_toList, List.getElem_toArray, List.getElem_cons_succ, List.getElem_cons_zero]))
              (refine Sch.t_move hO rfl (by rfl) (v := .int .i64 ((K : Int))) (.inl rfl) rfl ?_; (try simp only [Act.put, List.setIfInBounds_toArray, List.set_cons_zero, List.set_cons_succ, Array.toArray_toList, List.getElem_toArray, List.getElem_cons_succ, List.getElem_cons_zero]))
              (refine Sch.t_val hO rfl (by rfl) (v := .pointer (some ⟨b, o + K * 7, none⟩)) (fun w _ => (by go_simp)) ?_; (try simp only [Act.put, List.setIfInBounds_toArray, List.set_cons_zero, List.set_cons_succ, Array.toArray_toList, List.getElem_toArray, List.getElem_cons_succ, List.getElem_cons_zero]))
              (refine Sch.t_range hO rfl (by rfl) (T := 37) rfl (g := b) (o := o + K * 7) rfl (ds := #[.int .i64 key, .int .u64 (N 0), .int .u64 (N 1), .int .u64 (N 2), .int .u64 (N 3), .int .u64 few, .int .u8 how]) (fun w' h => HRng.out w' (HB.out.trans (h.mono HB.out.size))) Try.underlying37 rfl rs_s2 ?_; (try simp only [Act.put, List.setIfInBounds_toArray, List.set_cons_zero, List.set_cons_succ, Array.toArray_toList, List.getElem_toArray, List.getElem_cons_succ, List.getElem_cons_zero]))
              refine Sch.s_two hO rfl (by rfl) rfl (by rfl) (fun K hK => ?_) (fun K hK => ?_)
              · go_simp
                go_at_call 19
                refine (HVal.out _).mono ?_
                rintro e y1 ⟨rfl, hb_y1⟩
                go_wp2_with fail
                refine hK.out _ _ (hHeld.trans (hb_y1.mono hHeld.size)) (fun hHeld => ?_)
                clear hK K
                (try simp only [Act.put, List.setIfInBounds_toArray, List.set_cons_zero, List.set_cons_succ, Array.toArray_toList, List.getElem_toArray, List.getElem_cons_succ, List.getElem_cons_zero])
                refine Sch.s_two hO rfl (by rfl) rfl (by rfl) (fun K hK => ?_) (fun K hK => ?_)
                · go_simp
                  go_at_call 18
                  refine (HS3.out _).mono ?_
                  rintro e y2 ⟨rfl, hb_y2⟩
                  go_wp2_with fail
                  refine hK.out _ _ (hHeld.trans (hb_y2.mono hHeld.size)) (fun hHeld => ?_)
                  clear hK K
                  (try simp only [Act.put, List.setIfInBounds_toArray, List.set_cons_zero, List.set_cons_succ, Array.toArray_toList, List.getElem_toArray, List.getElem_cons_succ, List.getElem_cons_zero])
                  (refine Sch.t_move hO rfl (by rfl) (v := .tuple #[.agg (pC R'), .int .i64 (E')]) (.inl rfl) rfl ?_; (try simp only [Act.put, List.setIfInBounds_toArray, List.set_cons_zero, List.set_cons_succ, Array.toArray_toList, List.getElem_toArray, List.getElem_cons_succ, List.getElem_cons_zero]))
                  (refine Sch.t_val hO rfl (by rfl) (v := .agg (pC R')) (fun w _ => (by go_simp)) ?_; (try simp only [Act.put, List.setIfInBounds_toArray, List.set_cons_zero, List.set_cons_succ, Array.toArray_toList, List.getElem_toArray, List.getElem_cons_succ, List.getElem_cons_zero]))
                  (refine Sch.t_val hO rfl (by rfl) (v := .int .i64 (E')) (fun w _ => (by go_simp)) ?_; (try simp only [Act.put, List.setIfInBounds_toArray, List.set_cons_zero, List.set_cons_succ, Array.toArray_toList, List.getElem_toArray, List.getElem_cons_succ, List.getElem_cons_zero]))
                  refine Sch.s_one hO rfl (by rfl) (fun K hK => ?_)
                  have hg_n12_y3 := hHeld.size
                  refine q_alloc rfl rs_z0 (ds := pC fun _ => 0) rfl ?_
                  intro y3 Hn12 hb_y3
                  replace Hn12 := hide Hn12
                  refine hK.out _ _ (hHeld.trans (hb_y3.mono hHeld.size)) (fun hHeld => ?_)
                  clear hK K
                  (try simp only [Act.put, List.setIfInBounds_toArray, List.set_cons_zero, List.set_cons_succ, Array.toArray_toList, List.getElem_toArray, List.getElem_cons_succ, List.getElem_cons_zero])
                  refine Sch.s_one hO rfl (by rfl) (fun K hK => ?_)
                  refine q_storew rfl (g := y2.heap.size) rfl (vs := pC R') rfl (by first | exact pC_one _ | (simp [Value.oneCell']; done)) Hn12.out rfl rs_s1 ?_
                  clear Hn12
                  intro y4 Hn12 hu_y4
                  replace Hn12 := hide (show NB y4 (y2.heap.size) (pC R') 26 from Hn12)
                  refine hK.out _ _ (hu_y4.keep w6.heap.size w6 hg_n12_y3 hHeld) (fun hHeld => ?_)
                  clear hK K
                  (try simp only [Act.put, List.setIfInBounds_toArray, List.set_cons_zero, List.set_cons_succ, Array.toArray_toList, List.getElem_toArray, List.getElem_cons_succ, List.getElem_cons_zero])
                  (refine Sch.t_move hO rfl (by rfl) (v := .int .i64 (E')) (.inr rfl) rfl ?_; (try simp only [Act.put, List.setIfInBounds_toArray, List.set_cons_zero, List.set_cons_succ, Array.toArray_toList, List.getElem_toArray, List.getElem_cons_succ, List.getElem_cons_zero]))
                  refine Sch.t_done ?_
                  go_wp2_with fail
                  go_meet
                  exact ⟨y2.heap.size, rfl, rfl, hHeld, hg_n12_y3, Hn12.out⟩
                · have hg_n12_y5 := hHeld.size
                  refine q_alloc rfl rs_z0 (ds := pC fun _ => 0) rfl ?_
                  intro y5 Hn12 hb_y5
                  replace Hn12 := hide Hn12
                  refine hK.out _ _ (hHeld.trans (hb_y5.mono hHeld.size)) (fun hHeld => ?_)
                  clear hK K
                  (try simp only [Act.put, List.setIfInBounds_toArray, List.set_cons_zero, List.set_cons_succ, Array.toArray_toList, List.getElem_toArray, List.getElem_cons_succ, List.getElem_cons_zero])
                  refine Sch.s_one hO rfl (by rfl) (fun K hK => ?_)
                  go_simp
                  go_at_call 18
                  refine (HS3.out _).mono ?_
                  rintro e y6 ⟨rfl, hb_y6⟩
                  go_wp2_with fail
                  replace Hn12 := hide (Hn12.out.below hb_y6 Hn12.out.lt)
                  refine hK.out _ _ (hHeld.trans (hb_y6.mono hHeld.size)) (fun hHeld => ?_)
                  clear hK K
                  (try simp only [Act.put, List.setIfInBounds_toArray, List.set_cons_zero, List.set_cons_succ, Array.toArray_toList, List.getElem_toArray, List.getElem_cons_succ, List.getElem_cons_zero])
                  (refine Sch.t_move hO rfl (by rfl) (v := .tuple #[.agg (pC R'), .int .i64 (E')]) (.inl rfl) rfl ?_; (try simp only [Act.put, List.setIfInBounds_toArray, List.set_cons_zero, List.set_cons_succ, Array.toArray_toList, List.getElem_toArray, List.getElem_cons_succ, List.getElem_cons_zero]))
                  (refine Sch.t_val hO rfl (by rfl) (v := .agg (pC R')) (fun w _ => (by go_simp)) ?_; (try simp only [Act.put, List.setIfInBounds_toArray, List.set_cons_zero, List.set_cons_succ, Array.toArray_toList, List.getElem_toArray, List.getElem_cons_succ, List.getElem_cons_zero]))
                  (refine Sch.t_val hO rfl (by rfl) (v := .int .i64 (E')) (fun w _ => (by go_simp)) ?_; (try simp only [Act.put, List.setIfInBounds_toArray, List.set_cons_zero, List.set_cons_succ, Array.toArray_toList, List.getElem_toArray, List.getElem_cons_succ, List.getElem_cons_zero]))
                  refine Sch.s_one hO rfl (by rfl) (fun K hK => ?_)
                  refine q_storew rfl (g := y1.heap.size) rfl (vs := pC R') rfl (by first | exact pC_one _ | (simp [Value.oneCell']; done)) Hn12.out rfl rs_s1 ?_
                  clear Hn12
                  intro y7 Hn12 hu_y7
                  replace Hn12 := hide (show NB y7 (y1.heap.size) (pC R') 26 from Hn12)
                  refine hK.out _ _ (hu_y7.keep w6.heap.size w6 hg_n12_y5 hHeld) (fun hHeld => ?_)
                  clear hK K
                  (try simp only [Act.put, List.setIfInBounds_toArray, List.set_cons_zero, List.set_cons_succ, Array.toArray_toList, List.getElem_toArray, List.getElem_cons_succ, List.getElem_cons_zero])
                  (refine Sch.t_move hO rfl (by rfl) (v := .int .i64 (E')) (.inr rfl) rfl ?_; (try simp only [Act.put, List.setIfInBounds_toArray, List.set_cons_zero, List.set_cons_succ, Array.toArray_toList, List.getElem_toArray, List.getElem_cons_succ, List.getElem_cons_zero]))
                  refine Sch.t_done ?_
                  go_wp2_with fail
                  go_meet
                  exact ⟨y1.heap.size, rfl, rfl, hHeld, hg_n12_y5, Hn12.out⟩
              · have hg_n12_y8 := hHeld.size
                refine q_alloc rfl rs_z0 (ds := pC fun _ => 0) rfl ?_
                intro y8 Hn12 hb_y8
                replace Hn12 := hide Hn12
                refine hK.out _ _ (hHeld.trans (hb_y8.mono hHeld.size)) (fun hHeld => ?_)
                clear hK K
                (try simp only [Act.put, List.setIfInBounds_toArray, List.set_cons_zero, List.set_cons_succ, Array.toArray_toList, List.getElem_toArray, List.getElem_cons_succ, List.getElem_cons_zero])
                refine Sch.s_one hO rfl (by rfl) (fun K hK => ?_)
                go_simp
                go_at_call 19
                refine (HVal.out _).mono ?_
                rintro e y9 ⟨rfl, hb_y9⟩
                go_wp2_with fail
                replace Hn12 := hide (Hn12.out.below hb_y9 Hn12.out.lt)
                refine hK.out _ _ (hHeld.trans (hb_y9.mono hHeld.size)) (fun hHeld => ?_)
                clear hK K
                (try simp only [Act.put, List.setIfInBounds_toArray, List.set_cons_zero, List.set_cons_succ, Array.toArray_toList, List.getElem_toArray, List.getElem_cons_succ, List.getElem_cons_zero])
                refine Sch.s_one hO rfl (by rfl) (fun K hK => ?_)
                go_simp
                go_at_call 18
                refine (HS3.out _).mono ?_
                rintro e y10 ⟨rfl, hb_y10⟩
                go_wp2_with fail
                replace Hn12 := hide (Hn12.out.below hb_y10 Hn12.out.lt)
                refine hK.out _ _ (hHeld.trans (hb_y10.mono hHeld.size)) (fun hHeld => ?_)
                clear hK K
                (try simp only [Act.put, List.setIfInBounds_toArray, List.set_cons_zero, List.set_cons_succ, Array.toArray_toList, List.getElem_toArray, List.getElem_cons_succ, List.getElem_cons_zero])
                (refine Sch.t_move hO rfl (by rfl) (v := .tuple #[.agg (pC R'), .int .i64 (E')]) (.inl rfl) rfl ?_; (try simp only [Act.put, List.setIfInBounds_toArray, List.set_cons_zero, List.set_cons_succ, Array.toArray_toList, List.getElem_toArray, List.getElem_cons_succ, List.getElem_cons_zero]))
                (refine Sch.t_val hO rfl (by rfl) (v := .agg (pC R')) (fun w _ => (by go_simp)) ?_; (try simp only [Act.put, List.setIfInBounds_toArray, List.set_cons_zero, List.set_cons_succ, Array.toArray_toList, List.getElem_toArray, List.getElem_cons_succ, List.getElem_cons_zero]))
                (refine Sch.t_val hO rfl (by rfl) (v := .int .i64 (E')) (fun w _ => (by go_simp)) ?_; (try simp only [Act.put, List.setIfInBounds_toArray, List.set_cons_zero, List.set_cons_succ, Array.toArray_toList, List.getElem_toArray, List.getElem_cons_succ, List.getElem_cons_zero]))
                refine Sch.s_one hO rfl (by rfl) (fun K hK => ?_)
                refine q_storew rfl (g := w6.drew.heap.size) rfl (vs := pC R') rfl (by first | exact pC_one _ | (simp [Value.oneCell']; done)) Hn12.out rfl rs_s1 ?_
                clear Hn12
                intro y11 Hn12 hu_y11
                replace Hn12 := hide (show NB y11 (w6.drew.heap.size) (pC R') 26 from Hn12)
                refine hK.out _ _ (hu_y11.keep w6.heap.size w6 hg_n12_y8 hHeld) (fun hHeld => ?_)
                clear hK K
                (try simp only [Act.put, List.setIfInBounds_toArray, List.set_cons_zero, List.set_cons_succ, Array.toArray_toList, List.getElem_toArray, List.getElem_cons_succ, List.getElem_cons_zero])
                (refine Sch.t_move hO rfl (by rfl) (v := .int .i64 (E')) (.inr rfl) rfl ?_; (try simp only [Act.put, List.setIfInBounds_toArray, List.set_cons_zero, List.set_cons_succ, Array.toArray_toList, List.getElem_toArray, List.getElem_cons_succ, List.getElem_cons_zero]))
                refine Sch.t_done ?_
                go_wp2_with fail
                go_meet
                exact ⟨w6.drew.heap.size, rfl, rfl, hHeld, hg_n12_y8, Hn12.out⟩
            case rest =>
              obtain ⟨g12, rfl, rfl, hb, hge12, hz⟩ := hcut
              obtain ⟨w7, ew⟩ : ∃ W, W = wc := ⟨_, rfl⟩
              rw [← ew] at hb hz ⊢
              clear ew
              replace HB := hide (HB.out.trans (hb.mono HB.out.size))
              replace Hb3 := hide (Hb3.out.below hb Hb3.out.lt)
              replace Hb5 := hide (Hb5.out.below hb Hb5.out.lt)
              replace Hb8 := hide (Hb8.out.below hb Hb8.out.lt)
              replace Hb10 := hide (Hb10.out.below hb Hb10.out.lt)
              have Hb12 := hide hz
              have lt_g12 := hz.lt
              clear hb hz
              go_upto_region 13 with fail
              go_cut [14, 15] (fun s14 s15 wx => ∃ g : Nat, s14 = .pointer (some ⟨g, 0, none⟩) ∧ s15 = .int .i64 E' ∧ Below w7.heap.size w7 wx ∧ w7.heap.size ≤ g ∧ NB wx g (pC R') 26)
              case first =>
                refine Sch.start (Sch.take 0 (Sch.take 1 (Sch.take 2 (Sch.take 3 (Sch.take 4 (Sch.take 5 (Sch.two 6 (Sch.two 7 (Sch.take 8 (Sch.take 9 (Sch.take 10 (Sch.one 11 (Sch.one 12 (Sch.take 13 Sch.done)))))) 11 (Sch.one 7 (Sch.take 8 (Sch.take 9 (Sch.take 10 (Sch.one 12 (Sch.take 13 Sch.done))))))) 11 (Sch.one 6 (Sch.one 7 (Sch.take 8 (Sch.take 9 (Sch.take 10 (Sch.one 12 (Sch.take 13 Sch.done)))))))))))))) (S := fun w' => Below w7.heap.size w7 w') (by kernel_rfl) (by kernel_rfl) (fun _ d _ _ _ h => by cases d <;> exact h) (by kernel_rfl) ((Below.refl _ _).drew) (fun O hO hHeld => ?_)
                (refine Sch.t_loadw hO rfl (by rfl) (T := 26) rfl (g := w.heap.size) rfl (fun w' h => Hb3.out.below h Hb3.out.lt) Try.underlying26 rfl rs_s1 ?_; (try simp only [Act.put, List.setIfInBounds_toArray, List.set_cons_zero, List.set_cons_succ, Array.toArray_toList, List.getElem_toArray, List.getElem_cons_succ, List.getElem_cons_zero]))
                (refine Sch.t_move hO rfl (by rfl) (v := .int .i64 k) (.inl rfl) rfl ?_; (try simp only [Act.put, List.setIfInBounds_toArray, List.set_cons_zero, List.set_cons_succ, Array.toArray_toList, List.getElem_toArray, List.getElem_cons_succ, List.getElem_cons_zero]))
                (refine Sch.t_move hO rfl (by rfl) (v := .slice (some ⟨b, o, none⟩) len cap) (.inl rfl) rfl ?_; (try simp only [Act.put, List.setIfInBounds_toArray, List.set_cons_zero, List.set_cons_succ, Array.toArray_toList, List.getElem_toArray, List.getElem_cons_succ, List.getElem_cons_zero]))
                (refine Sch.t_move hO rfl (by rfl) (v := .int .i64 ((K : Int))) (.inl rfl) rfl ?_; (try simp only [Act.put, List.setIfInBounds_toArray, List.set_cons_zero, List.set_cons_succ, Array.toArray_toList, List.getElem_toArray, List.getElem_cons_succ, List.getElem_cons_zero]))
                (refine Sch.t_val hO rfl (by rfl) (v := .pointer (some ⟨b, o + K * 7, none⟩)) (fun w _ => (by go_simp)) ?_; (try simp only [Act.put, List.setIfInBounds_toArray, List.set_cons_zero, List.set_cons_succ, Array.toArray_toList, List.getElem_toArray, List.getElem_cons_succ, List.getElem_cons_zero]))
                (refine Sch.t_range hO rfl (by rfl) (T := 37) rfl (g := b) (o := o + K * 7) rfl (ds := #[.int .i64 key, .int .u64 (N 0), .int .u64 (N 1), .int .u64 (N 2), .int .u64 (N 3), .int .u64 few, .int .u8 how]) (fun w' h => HRng.out w' (HB.out.trans (h.mono HB.out.size))) Try.underlying37 rfl rs_s2 ?_; (try simp only [Act.put, List.setIfInBounds_toArray, List.set_cons_zero, List.set_cons_succ, Array.toArray_toList, List.getElem_toArray, List.getElem_cons_succ, List.getElem_cons_zero]))
                refine Sch.s_two hO rfl (by rfl) rfl (by rfl) (fun K hK => ?_) (fun K hK => ?_)
                · go_simp
                  go_at_call 19
                  refine (HVal.out _).mono ?_
                  rintro e y1 ⟨rfl, hb_y1⟩
                  go_wp2_with fail
                  refine hK.out _ _ (hHeld.trans (hb_y1.mono hHeld.size)) (fun hHeld => ?_)
                  clear hK K
                  (try simp only [Act.put, List.setIfInBounds_toArray, List.set_cons_zero, List.set_cons_succ, Array.toArray_toList, List.getElem_toArray, List.getElem_cons_succ, List.getElem_cons_zero])
                  refine Sch.s_two hO rfl (by rfl) rfl (by rfl) (fun K hK => ?_) (fun K hK => ?_)
                  · go_simp
                    go_at_call 20
                    refine (HS4.out _).mono ?_
                    rintro e y2 ⟨rfl, hb_y2⟩
                    go_wp2_with fail
                    refine hK.out _ _ (hHeld.trans (hb_y2.mono hHeld.size)) (fun hHeld => ?_)
                    clear hK K
                    (try simp only [Act.put, List.setIfInBounds_toArray, List.set_cons_zero, List.set_cons_succ, Array.toArray_toList, List.getElem_toArray, List.getElem_cons_succ, List.getElem_cons_zero])
                    (refine Sch.t_move hO rfl (by rfl) (v := .tuple #[.agg (pC R'), .int .i64 (E')]) (.inl rfl) rfl ?_; (try simp only [Act.put, List.setIfInBounds_toArray, List.set_cons_zero, List.set_cons_succ, Array.toArray_toList, List.getElem_toArray, List.getElem_cons_succ, List.getElem_cons_zero]))
                    (refine Sch.t_val hO rfl (by rfl) (v := .agg (pC R')) (fun w _ => (by go_simp)) ?_; (try simp only [Act.put, List.setIfInBounds_toArray, List.set_cons_zero, List.set_cons_succ, Array.toArray_toList, List.getElem_toArray, List.getElem_cons_succ, List.getElem_cons_zero]))
                    (refine Sch.t_val hO rfl (by rfl) (v := .int .i64 (E')) (fun w _ => (by go_simp)) ?_; (try simp only [Act.put, List.setIfInBounds_toArray, List.set_cons_zero, List.set_cons_succ, Array.toArray_toList, List.getElem_toArray, List.getElem_cons_succ, List.getElem_cons_zero]))
                    refine Sch.s_one hO rfl (by rfl) (fun K hK => ?_)
                    have hg_n14_y3 := hHeld.size
                    refine q_alloc rfl rs_z0 (ds := pC fun _ => 0) rfl ?_
                    intro y3 Hn14 hb_y3
                    replace Hn14 := hide Hn14
                    refine hK.out _ _ (hHeld.trans (hb_y3.mono hHeld.size)) (fun hHeld => ?_)
                    clear hK K
                    (try simp only [Act.put, List.setIfInBounds_toArray, List.set_cons_zero, List.set_cons_succ, Array.toArray_toList, List.getElem_toArray, List.getElem_cons_succ, List.getElem_cons_zero])
                    refine Sch.s_one hO rfl (by rfl) (fun K hK => ?_)
                    refine q_storew rfl (g := y2.heap.size) rfl (vs := pC R') rfl (by first | exact pC_one _ | (simp [Value.oneCell']; done)) Hn14.out rfl rs_s1 ?_
                    clear Hn14
                    intro y4 Hn14 hu_y4
                    replace Hn14 := hide (show NB y4 (y2.heap.size) (pC R') 26 from Hn14)
                    refine hK.out _ _ (hu_y4.keep w7.heap.size w7 hg_n14_y3 hHeld) (fun hHeld => ?_)
                    clear hK K
                    (try simp only [Act.put, List.setIfInBounds_toArray, List.set_cons_zero, List.set_cons_succ, Array.toArray_toList, List.getElem_toArray, List.getElem_cons_succ, List.getElem_cons_zero])
                    (refine Sch.t_move hO rfl (by rfl) (v := .int .i64 (E')) (.inr rfl) rfl ?_; (try simp only [Act.put, List.setIfInBounds_toArray, List.set_cons_zero, List.set_cons_succ, Array.toArray_toList, List.getElem_toArray, List.getElem_cons_succ, List.getElem_cons_zero]))
                    refine Sch.t_done ?_
                    go_wp2_with fail
                    go_meet
                    exact ⟨y2.heap.size, rfl, rfl, hHeld, hg_n14_y3, Hn14.out⟩
                  · have hg_n14_y5 := hHeld.size
                    refine q_alloc rfl rs_z0 (ds := pC fun _ => 0) rfl ?_
                    intro y5 Hn14 hb_y5
                    replace Hn14 := hide Hn14
                    refine hK.out _ _ (hHeld.trans (hb_y5.mono hHeld.size)) (fun hHeld => ?_)
                    clear hK K
                    (try simp only [Act.put, List.setIfInBounds_toArray, List.set_cons_zero, List.set_cons_succ, Array.toArray_toList, List.getElem_toArray, List.getElem_cons_succ, List.getElem_cons_zero])
                    refine Sch.s_one hO rfl (by rfl) (fun K hK => ?_)
                    go_simp
                    go_at_call 20
                    refine (HS4.out _).mono ?_
                    rintro e y6 ⟨rfl, hb_y6⟩
                    go_wp2_with fail
                    replace Hn14 := hide (Hn14.out.below hb_y6 Hn14.out.lt)
                    refine hK.out _ _ (hHeld.trans (hb_y6.mono hHeld.size)) (fun hHeld => ?_)
                    clear hK K
                    (try simp only [Act.put, List.setIfInBounds_toArray, List.set_cons_zero, List.set_cons_succ, Array.toArray_toList, List.getElem_toArray, List.getElem_cons_succ, List.getElem_cons_zero])
                    (refine Sch.t_move hO rfl (by rfl) (v := .tuple #[.agg (pC R'), .int .i64 (E')]) (.inl rfl) rfl ?_; (try simp only [Act.put, List.setIfInBounds_toArray, List.set_cons_zero, List.set_cons_succ, Array.toArray_toList, List.getElem_toArray, List.getElem_cons_succ, List.getElem_cons_zero]))
                    (refine Sch.t_val hO rfl (by rfl) (v := .agg (pC R')) (fun w _ => (by go_simp)) ?_; (try simp only [Act.put, List.setIfInBounds_toArray, List.set_cons_zero, List.set_cons_succ, Array.toArray_toList, List.getElem_toArray, List.getElem_cons_succ, List.getElem_cons_zero]))
                    (refine Sch.t_val hO rfl (by rfl) (v := .int .i64 (E')) (fun w _ => (by go_simp)) ?_; (try simp only [Act.put, List.setIfInBounds_toArray, List.set_cons_zero, List.set_cons_succ, Array.toArray_toList, List.getElem_toArray, List.getElem_cons_succ, List.getElem_cons_zero]))
                    refine Sch.s_one hO rfl (by rfl) (fun K hK => ?_)
                    refine q_storew rfl (g := y1.heap.size) rfl (vs := pC R') rfl (by first | exact pC_one _ | (simp [Value.oneCell']; done)) Hn14.out rfl rs_s1 ?_
                    clear Hn14
                    intro y7 Hn14 hu_y7
                    replace Hn14 := hide (show NB y7 (y1.heap.size) (pC R') 26 from Hn14)
                    refine hK.out _ _ (hu_y7.keep w7.heap.size w7 hg_n14_y5 hHeld) (fun hHeld => ?_)
                    clear hK K
                    (try simp only [Act.put, List.setIfInBounds_toArray, List.set_cons_zero, List.set_cons_succ, Array.toArray_toList, List.getElem_toArray, List.getElem_cons_succ, List.getElem_cons_zero])
                    (refine Sch.t_move hO rfl (by rfl) (v := .int .i64 (E')) (.inr rfl) rfl ?_; (try simp only [Act.put, List.setIfInBounds_toArray, List.set_cons_zero, List.set_cons_succ, Array.toArray_toList, List.getElem_toArray, List.getElem_cons_succ, List.getElem_cons_zero]))
                    refine Sch.t_done ?_
                    go_wp2_with fail
                    go_meet
                    exact ⟨y1.heap.size, rfl, rfl, hHeld, hg_n14_y5, Hn14.out⟩
                · have hg_n14_y8 := hHeld.size
                  refine q_alloc rfl rs_z0 (ds := pC fun _ => 0) rfl ?_
                  intro y8 Hn14 hb_y8
                  replace Hn14 := hide Hn14
                  refine hK.out _ _ (hHeld.trans (hb_y8.mono hHeld.size)) (fun hHeld => ?_)
                  clear hK K
                  (try simp only [Act.put, List.setIfInBounds_toArray, List.set_cons_zero, List.set_cons_succ, Array.toArray_toList, List.getElem_toArray, List.getElem_cons_succ, List.getElem_cons_zero])
                  refine Sch.s_one hO rfl (by rfl) (fun K hK => ?_)
                  go_simp
                  go_at_call 19
                  refine (HVal.out _).mono ?_
                  rintro e y9 ⟨rfl, hb_y9⟩
                  go_wp2_with fail
                  replace Hn14 := hide (Hn14.out.below hb_y9 Hn14.out.lt)
                  refine hK.out _ _ (hHeld.trans (hb_y9.mono hHeld.size)) (fun hHeld => ?_)
                  clear hK K
                  (try simp only [Act.put, List.setIfInBounds_toArray, List.set_cons_zero, List.set_cons_succ, Array.toArray_toList, List.getElem_toArray, List.getElem_cons_succ, List.getElem_cons_zero])
                  refine Sch.s_one hO rfl (by rfl) (fun K hK => ?_)
                  go_simp
                  go_at_call 20
                  refine (HS4.out _).mono ?_
                  rintro e y10 ⟨rfl, hb_y10⟩
                  go_wp2_with fail
                  replace Hn14 := hide (Hn14.out.below hb_y10 Hn14.out.lt)
                  refine hK.out _ _ (hHeld.trans (hb_y10.mono hHeld.size)) (fun hHeld => ?_)
                  clear hK K
                  (try simp only [Act.put, List.setIfInBounds_toArray, List.set_cons_zero, List.set_cons_succ, Array.toArray_toList, List.getElem_toArray, List.getElem_cons_succ, List.getElem_cons_zero])
                  (refine Sch.t_move hO rfl (by rfl) (v := .tuple #[.agg (pC R'), .int .i64 (E')]) (.inl rfl) rfl ?_; (try simp only [Act.put, List.setIfInBounds_toArray, List.set_cons_zero, List.set_cons_succ, Array.toArray_toList, List.getElem_toArray, List.getElem_cons_succ, List.getElem_cons_zero]))
                  (refine Sch.t_val hO rfl (by rfl) (v := .agg (pC R')) (fun w _ => (by go_simp)) ?_; (try simp only [Act.put, List.setIfInBounds_toArray, List.set_cons_zero, List.set_cons_succ, Array.toArray_toList, List.getElem_toArray, List.getElem_cons_succ, List.getElem_cons_zero]))
                  (refine Sch.t_val hO rfl (by rfl) (v := .int .i64 (E')) (fun w _ => (by go_simp)) ?_; (try simp only [Act.put, List.setIfInBounds_toArray, List.set_cons_zero, List.set_cons_succ, Array.toArray_toList, List.getElem_toArray, List.getElem_cons_succ, List.getElem_cons_zero]))
                  refine Sch.s_one hO rfl (by rfl) (fun K hK => ?_)
                  refine q_storew rfl (g := w7.drew.heap.size) rfl (vs := pC R') rfl (by first | exact pC_one _ | (simp [Value.oneCell']; done)) Hn14.out rfl rs_s1 ?_
                  clear Hn14
                  intro y11 Hn14 hu_y11
                  replace Hn14 := hide (show NB y11 (w7.drew.heap.size) (pC R') 26 from Hn14)
                  refine hK.out _ _ (hu_y11.keep w7.heap.size w7 hg_n14_y8 hHeld) (fun hHeld => ?_)
                  clear hK K
                  (try simp only [Act.put, List.setIfInBounds_toArray, List.set_cons_zero, List.set_cons_succ, Array.toArray_toList, List.getElem_toArray, List.getElem_cons_succ, List.getElem_cons_zero])
                  (refine Sch.t_move hO rfl (by rfl) (v := .int .i64 (E')) (.inr rfl) rfl ?_; (try simp only [Act.put, List.setIfInBounds_toArray, List.set_cons_zero, List.set_cons_succ, Array.toArray_toList, List.getElem_toArray, List.getElem_cons_succ, List.getElem_cons_zero]))
                  refine Sch.t_done ?_
                  go_wp2_with fail
                  go_meet
                  exact ⟨w7.drew.heap.size, rfl, rfl, hHeld, hg_n14_y8, Hn14.out⟩
              case rest =>
                obtain ⟨g14, rfl, rfl, hb, hge14, hz⟩ := hcut
                obtain ⟨w8, ew⟩ : ∃ W, W = wc := ⟨_, rfl⟩
                rw [← ew] at hb hz ⊢
                clear ew
                replace HB := hide (HB.out.trans (hb.mono HB.out.size))
                replace Hb3 := hide (Hb3.out.below hb Hb3.out.lt)
                replace Hb5 := hide (Hb5.out.below hb Hb5.out.lt)
                replace Hb8 := hide (Hb8.out.below hb Hb8.out.lt)
                replace Hb10 := hide (Hb10.out.below hb Hb10.out.lt)
                replace Hb12 := hide (Hb12.out.below hb Hb12.out.lt)
                have Hb14 := hide hz
                have lt_g14 := hz.lt
                clear hb hz
                have hq1 := eqP_law R
                have hq2 := eqP_law R'
                by_cases hE : E = 0
                · subst hE
                  go_wp2_with (first | (refine n_loadw (by rfl) (T := 26) (x := (.tmp 8)) rfl (g := g8) rfl Hb8.out Try.underlying26 rfl rs_s1 ?_) | (refine n_loadw (by rfl) (T := 26) (x := (.tmp 10)) rfl (g := g10) rfl Hb10.out Try.underlying26 rfl rs_s1 ?_) | (refine n_loadw (by rfl) (T := 26) (x := (.tmp 12)) rfl (g := g12) rfl Hb12.out Try.underlying26 rfl rs_s1 ?_) | (refine n_loadw (by rfl) (T := 26) (x := (.tmp 14)) rfl (g := g14) rfl Hb14.out Try.underlying26 rfl rs_s1 ?_) | (refine n_loadw (by rfl) (T := 26) (x := (.tmp 10)) rfl (g := g10) rfl Hb10.out Try.underlying26 rfl rs_s1 ?_) | (refine n_storew (by rfl) (T := 26) (x := (.tmp 5)) (y := (.tmp 101)) rfl (g := w2.heap.size) rfl (vs := pC R) rfl (by first | exact pC_one _ | (simp [Value.oneCell']; done)) Hb5.out rfl rs_s1 ?_; clear Hb5; intro w9 Hb5 hun; replace Hb5 := hide Hb5; replace HB := hide (hun.keep w.heap.size w (by omega) HB.out); replace Hb3 := hide (Hb3.out.upd hun (by omega)); replace Hb8 := hide (Hb8.out.upd hun (by omega)); replace Hb10 := hide (Hb10.out.upd hun (by omega)); replace Hb12 := hide (Hb12.out.upd hun (by omega)); replace Hb14 := hide (Hb14.out.upd hun (by omega)); clear hun))
                  go_roundw
                  case rel => exact ⟨K + 1, R, by omega, by go_num, HB, Hb3, HRw, Hb5, by omega⟩
                  case measure => simp [intOf]; omega
                · have hE0 : (E == 0) = false := by simpa using hE
                  go_wp2_with (first | (refine n_loadw (by rfl) (T := 26) (x := (.tmp 8)) rfl (g := g8) rfl Hb8.out Try.underlying26 rfl rs_s1 ?_) | (refine n_loadw (by rfl) (T := 26) (x := (.tmp 10)) rfl (g := g10) rfl Hb10.out Try.underlying26 rfl rs_s1 ?_) | (refine n_loadw (by rfl) (T := 26) (x := (.tmp 12)) rfl (g := g12) rfl Hb12.out Try.underlying26 rfl rs_s1 ?_) | (refine n_loadw (by rfl) (T := 26) (x := (.tmp 14)) rfl (g := g14) rfl Hb14.out Try.underlying26 rfl rs_s1 ?_))
                  go_roundw
                  case rel => exact ⟨K + 1, P, by omega, by go_num, HB, Hb3, HP, Hb5, by omega⟩
                  case measure => simp [intOf]; omega
    · obtain rfl : K = len := by omega
      go_wp2_with fail
      refine (awake12_c _).mono ?_
      rintro e w5 ⟨rfl, hbc⟩
      replace HB := hide (HB.out.trans (hbc.mono HB.out.size))
      replace Hb3 := hide (Hb3.out.below hbc Hb3.out.lt)
      replace Hb5 := hide (Hb5.out.below hbc Hb5.out.lt)
      clear hbc
      go_wp2_with fail
      go_ret
      exact ⟨rfl, HB.out⟩
def p21s (p0 p1 p2 p3 p4 p5 p6 p7 p8 p9 p10 p11 p12 p13 p14 p15 p16 p17 p18 p19 p20 : Int) : Nat → Int
  | 0 => p0 | 1 => p1 | 2 => p2 | 3 => p3 | 4 => p4 | 5 => p5 | 6 => p6 | 7 => p7 | 8 => p8 | 9 => p9 | 10 => p10 | 11 => p11 | 12 => p12 | 13 => p13 | 14 => p14 | 15 => p15 | 16 => p16 | 17 => p17 | 18 => p18 | 19 => p19 | 20 => p20 | _ => 0
theorem p21s_w {p0 p1 p2 p3 p4 p5 p6 p7 p8 p9 p10 p11 p12 p13 p14 p15 p16 p17 p18 p19 p20 : Int} (w0 : (Lit.int .u64 p0).wf = true) (w1 : (Lit.int .u64 p1).wf = true) (w2 : (Lit.int .u64 p2).wf = true) (w3 : (Lit.int .u64 p3).wf = true) (w4 : (Lit.int .u64 p4).wf = true) (w5 : (Lit.int .u64 p5).wf = true) (w6 : (Lit.int .u64 p6).wf = true) (w7 : (Lit.int .u64 p7).wf = true) (w8 : (Lit.int .u64 p8).wf = true) (w9 : (Lit.int .u64 p9).wf = true) (w10 : (Lit.int .u64 p10).wf = true) (w11 : (Lit.int .u64 p11).wf = true) (w12 : (Lit.int .u64 p12).wf = true) (w13 : (Lit.int .u64 p13).wf = true) (w14 : (Lit.int .u64 p14).wf = true) (w15 : (Lit.int .u64 p15).wf = true) (w16 : (Lit.int .u64 p16).wf = true) (w17 : (Lit.int .u64 p17).wf = true) (w18 : (Lit.int .u64 p18).wf = true) (w19 : (Lit.int .u64 p19).wf = true) (w20 : (Lit.int .u64 p20).wf = true) : PW (p21s p0 p1 p2 p3 p4 p5 p6 p7 p8 p9 p10 p11 p12 p13 p14 p15 p16 p17 p18 p19 p20) := by
  intro j
  unfold p21s
  split
  · have := bounds_u64 w0; omega
  · have := bounds_u64 w1; omega
  · have := bounds_u64 w2; omega
  · have := bounds_u64 w3; omega
  · have := bounds_u64 w4; omega
  · have := bounds_u64 w5; omega
  · have := bounds_u64 w6; omega
  · have := bounds_u64 w7; omega
  · have := bounds_u64 w8; omega
  · have := bounds_u64 w9; omega
  · have := bounds_u64 w10; omega
  · have := bounds_u64 w11; omega
  · have := bounds_u64 w12; omega
  · have := bounds_u64 w13; omega
  · have := bounds_u64 w14; omega
  · have := bounds_u64 w15; omega
  · have := bounds_u64 w16; omega
  · have := bounds_u64 w17; omega
  · have := bounds_u64 w18; omega
  · have := bounds_u64 w19; omega
  · have := bounds_u64 w20; omega
  · omega
theorem ParamsSet_walk (ad : Option Addr) (n c : Nat) (p0 p1 p2 p3 p4 p5 p6 p7 p8 p9 p10 p11 p12 p13 p14 p15 p16 p17 p18 p19 p20 : Int) (hc : n ≤ c) (hm : c ≤ Go.maxLen) (w0 : (Lit.int .u64 p0).wf = true) (w1 : (Lit.int .u64 p1).wf = true) (w2 : (Lit.int .u64 p2).wf = true) (w3 : (Lit.int .u64 p3).wf = true) (w4 : (Lit.int .u64 p4).wf = true) (w5 : (Lit.int .u64 p5).wf = true) (w6 : (Lit.int .u64 p6).wf = true) (w7 : (Lit.int .u64 p7).wf = true) (w8 : (Lit.int .u64 p8).wf = true) (w9 : (Lit.int .u64 p9).wf = true) (w10 : (Lit.int .u64 p10).wf = true) (w11 : (Lit.int .u64 p11).wf = true) (w12 : (Lit.int .u64 p12).wf = true) (w13 : (Lit.int .u64 p13).wf = true) (w14 : (Lit.int .u64 p14).wf = true) (w15 : (Lit.int .u64 p15).wf = true) (w16 : (Lit.int .u64 p16).wf = true) (w17 : (Lit.int .u64 p17).wf = true) (w18 : (Lit.int .u64 p18).wf = true) (w19 : (Lit.int .u64 p19).wf = true) (w20 : (Lit.int .u64 p20).wf = true) (w : World) (hr : GRow [some .i64, some .u64, some .u64, some .u64, some .u64, some .u64, some .u8] w ad n) :
    Calls Try.prog 4 #[.slice ad n c, .agg #[.int .u64 p0, .int .u64 p1, .int .u64 p2, .int .u64 p3, .int .u64 p4, .int .u64 p5, .int .u64 p6, .int .u64 p7, .int .u64 p8, .int .u64 p9, .int .u64 p10, .int .u64 p11, .int .u64 p12, .int .u64 p13, .int .u64 p14, .int .u64 p15, .int .u64 p16, .int .u64 p17, .int .u64 p18, .int .u64 p19, .int .u64 p20]] w fun e w' => e = .returned (.bool true) ∧ Below w.heap.size w w' :=
  Set_in (p21s p0 p1 p2 p3 p4 p5 p6 p7 p8 p9 p10 p11 p12 p13 p14 p15 p16 p17 p18 p19 p20) (p21s_w w0 w1 w2 w3 w4 w5 w6 w7 w8 w9 w10 w11 w12 w13 w14 w15 w16 w17 w18 w19 w20) ad n c hc (by unfold Go.maxLen at hm; omega) w hr
end Go.Proofs.Ytbnpgecpanfpiaa
