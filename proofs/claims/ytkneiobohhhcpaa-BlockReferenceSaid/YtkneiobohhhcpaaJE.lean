/- pontageref15. -/
import Derived.WalkKit
import Derived.KernelRfl
import Derived.RowKit3
import Derived.Deep.LoopGhost
import Derived.Deep.QuietTactic
import Derived.BigQuiet
import Derived.WideLaws
import Derived.Laws.Rows
import Derived.Below
import Derived.Deep.Draws
import Derived.Outline
import Derived.LoopN
import Derived.Handy
import Derived.Laws.Externs
import Derived.Laws.BitsAllLaws
import Derived.Laws.BitsLemmas
import Derived.Deep.DeepCutAuto
import Derived.Deep.CutBlock
import Derived.Deep.RegionHeld3
import Derived.Test.YtkneiobohhhcpaaJC
import Derived.Test.YtkneiobohhhcpaaG1
namespace Go.Proofs.Ytkneiobohhhcpaa
open Go.RowKit
set_option linter.unusedVariables false
set_option linter.unusedSimpArgs false
theorem je_z0 : (Try.prog.info? 30).map (fun i => (i.zero, i.size)) = some (some (.agg #[.int .u64 0, .int .u64 0, .int .u64 0, .int .u64 0, .int .u64 0, .int .u64 0, .int .u64 0]), 7) := by kernel_rfl
theorem je_s1 : (Try.prog.info? 30).map (·.size) = some 7 := by kernel_rfl
theorem je_s2 : (Try.prog.info? 27).map (·.size) = some 21 := by kernel_rfl
theorem je_s3 : (Try.prog.info? 22).map (·.size) = some 1 := by kernel_rfl
theorem je_z4 : (Try.prog.info? 25).map (fun i => (i.zero, i.size)) = some (some (.agg #[.int .u64 0, .int .u64 0, .int .u64 0, .int .u64 0]), 4) := by kernel_rfl
theorem je_s5 : (Try.prog.info? 25).map (·.size) = some 4 := by kernel_rfl
set_option maxHeartbeats 8000000 in
theorem rgr_c (n t g f0 f1 f2 f3 : Int) (P : Nat → Int) (hP : PW P) (g0 : 0 ≤ g) (w : World) :
    Calls Try.prog 20 #[.agg #[.int .u64 n, .int .u64 t, .int .u64 g, .int .u64 f0, .int .u64 f1, .int .u64 f2, .int .u64 f3], .agg (pC P)] w fun e w' => e = .returned (.int .u64 (grV g P)) ∧ Below w.heap.size w w' := by
  have p7 := hP 7
  by_cases h : P 7 < g
  · rw [show grV g P = 0 from if_pos (by omega)]
    go_enter Try.func20, Try.ntmps20
    go_wp2_with (first | (refine n_box (by rfl) (T := 30) (x := (.tmp 0)) rfl (v := .agg (#[.int .u64 n, .int .u64 t, .int .u64 g, .int .u64 f0, .int .u64 f1, .int .u64 f2, .int .u64 f3])) rfl (ds := #[.int .u64 n, .int .u64 t, .int .u64 g, .int .u64 f0, .int .u64 f1, .int .u64 f2, .int .u64 f3]) rfl ?_; intro w1 Hb2 hbn; have HB := hide hbn; clear hbn; replace Hb2 := hide Hb2) | (refine n_box (by rfl) (T := 27) (x := (.tmp 1)) rfl (v := .agg (pC P)) rfl (ds := pC P) rfl ?_; intro w2 Hb3 hbn; have hsz_w1 := HB.out.size; have lt_b2_b3 := Hb2.out.lt; replace HB := hide (HB.out.trans (hbn.mono HB.out.size)); replace Hb2 := hide (Hb2.out.below hbn Hb2.out.lt); clear hbn; replace Hb3 := hide Hb3) | (refine n_load (by rfl) (T := 22) (x := (.tmp 5)) rfl (g := w.heap.size) (o := 2) rfl Hb2.out (v := .int .u64 g) (by rfl) Try.underlying22 rfl ?_) | (refine n_load (by rfl) (T := 22) (x := (.tmp 7)) rfl (g := w1.heap.size) (o := 7) rfl Hb3.out (v := .int .u64 (P 7)) (by rfl) Try.underlying22 rfl ?_))
    go_ret
    exact ⟨rfl, HB.out⟩
  · have e : grV g P = P 7 - g := by unfold grV; split <;> omega
    rw [e]
    have h' : g ≤ P 7 := by omega
    have hq : 0 ≤ P 7 - g := by omega
    have hw : IntKind.u64.wrap (P 7 - g) = P 7 - g := by rw [IntKind.wrap_u64]; omega
    clear h e
    go_enter Try.func20, Try.ntmps20
    go_wp2_with (first | (refine n_box (by rfl) (T := 30) (x := (.tmp 0)) rfl (v := .agg (#[.int .u64 n, .int .u64 t, .int .u64 g, .int .u64 f0, .int .u64 f1, .int .u64 f2, .int .u64 f3])) rfl (ds := #[.int .u64 n, .int .u64 t, .int .u64 g, .int .u64 f0, .int .u64 f1, .int .u64 f2, .int .u64 f3]) rfl ?_; intro w1 Hb2 hbn; have HB := hide hbn; clear hbn; replace Hb2 := hide Hb2) | (refine n_box (by rfl) (T := 27) (x := (.tmp 1)) rfl (v := .agg (pC P)) rfl (ds := pC P) rfl ?_; intro w2 Hb3 hbn; have hsz_w1 := HB.out.size; have lt_b2_b3 := Hb2.out.lt; replace HB := hide (HB.out.trans (hbn.mono HB.out.size)); replace Hb2 := hide (Hb2.out.below hbn Hb2.out.lt); clear hbn; replace Hb3 := hide Hb3) | (refine n_load (by rfl) (T := 22) (x := (.tmp 5)) rfl (g := w.heap.size) (o := 2) rfl Hb2.out (v := .int .u64 g) (by rfl) Try.underlying22 rfl ?_) | (refine n_load (by rfl) (T := 22) (x := (.tmp 7)) rfl (g := w1.heap.size) (o := 7) rfl Hb3.out (v := .int .u64 (P 7)) (by rfl) Try.underlying22 rfl ?_) | (refine n_load (by rfl) (T := 22) (x := (.tmp 10)) rfl (g := w1.heap.size) (o := 7) rfl Hb3.out (v := .int .u64 (P 7)) (by rfl) Try.underlying22 rfl ?_) | (refine n_load (by rfl) (T := 22) (x := (.tmp 12)) rfl (g := w.heap.size) (o := 2) rfl Hb2.out (v := .int .u64 g) (by rfl) Try.underlying22 rfl ?_))
    go_ret
    exact ⟨rfl, HB.out⟩
set_option maxRecDepth 20000 in
set_option maxHeartbeats 8000000 in
theorem rug_c (n t g f0 f1 f2 f3 x : Int) (P : Nat → Int) (hP : PW P) (g0 : 0 ≤ g) (g1 : g < 18446744073709551616) (x0 : 0 ≤ x) (w : World) :
    Calls Try.prog 21 #[.agg #[.int .u64 n, .int .u64 t, .int .u64 g, .int .u64 f0, .int .u64 f1, .int .u64 f2, .int .u64 f3], .int .u64 x, .agg (pC P)] w fun e w' => e = .returned (.tuple #[.agg #[.int .u64 (ugB g x P n), .int .u64 (ugB g x P t), .int .u64 (ugB g x P (g + x)), .int .u64 (ugB g x P f0), .int .u64 (ugB g x P f1), .int .u64 (ugB g x P f2), .int .u64 (ugB g x P f3)], .int .i64 (ugE g x P)]) ∧ Below w.heap.size w w' := by
  have hr := gr_rg hP g0 g1
  have HG := hide (fun w => rgr_c n t g f0 f1 f2 f3 P hP g0 w)
  have p7 := hP 7
  have hb : ¬ grV g P < x → g + x < 18446744073709551616 := fun h => by unfold grV at h; split at h <;> omega
  obtain ⟨G, hG⟩ : ∃ G, grV g P = G := ⟨_, rfl⟩
  unfold ugE ugB
  rw [hG] at hr HG hb ⊢
  clear hG p7
  by_cases h : G < x
  · rw [if_pos h, if_pos h, if_pos h, if_pos h, if_pos h, if_pos h, if_pos h, if_pos h]
    clear hb
    go_enter Try.func21, Try.ntmps21
    go_wp2_with (first | (refine n_box (by rfl) (T := 30) (x := (.tmp 0)) rfl (v := .agg (#[.int .u64 n, .int .u64 t, .int .u64 g, .int .u64 f0, .int .u64 f1, .int .u64 f2, .int .u64 f3])) rfl (ds := #[.int .u64 n, .int .u64 t, .int .u64 g, .int .u64 f0, .int .u64 f1, .int .u64 f2, .int .u64 f3]) rfl ?_; intro w1 Hb3 hbn; have HB := hide hbn; clear hbn; replace Hb3 := hide Hb3) | (refine n_box (by rfl) (T := 27) (x := (.tmp 2)) rfl (v := .agg (pC P)) rfl (ds := pC P) rfl ?_; intro w2 Hb5 hbn; have hsz_w1 := HB.out.size; have lt_b3_b5 := Hb3.out.lt; replace HB := hide (HB.out.trans (hbn.mono HB.out.size)); replace Hb3 := hide (Hb3.out.below hbn Hb3.out.lt); clear hbn; replace Hb5 := hide Hb5) | (refine n_alloc (by rfl) (T := 30) rfl je_z0 (ds := #[.int .u64 0, .int .u64 0, .int .u64 0, .int .u64 0, .int .u64 0, .int .u64 0, .int .u64 0]) rfl ?_; intro w3 Hb6 hbn; have hsz_w2 := HB.out.size; have lt_b3_b6 := Hb3.out.lt; have lt_b5_b6 := Hb5.out.lt; replace HB := hide (HB.out.trans (hbn.mono HB.out.size)); replace Hb3 := hide (Hb3.out.below hbn Hb3.out.lt); replace Hb5 := hide (Hb5.out.below hbn Hb5.out.lt); clear hbn; replace Hb6 := hide Hb6) | (refine n_loadw (by rfl) (T := 30) (x := (.tmp 3)) rfl (g := w.heap.size) rfl Hb3.out Try.underlying30 rfl je_s1 ?_) | (refine n_loadw (by rfl) (T := 27) (x := (.tmp 5)) rfl (g := w1.heap.size) rfl Hb5.out Try.underlying27 rfl je_s2 ?_))
    refine (HG.out _).mono ?_
    rintro e w4 ⟨rfl, hbc⟩
    replace HB := hide (HB.out.trans (hbc.mono HB.out.size))
    replace Hb3 := hide (Hb3.out.below hbc Hb3.out.lt)
    replace Hb5 := hide (Hb5.out.below hbc Hb5.out.lt)
    replace Hb6 := hide (Hb6.out.below hbc Hb6.out.lt)
    clear hbc
    go_wp2_with (first | (refine n_storew (by rfl) (T := 30) (x := (.tmp 6)) (y := (.tmp 13)) rfl (g := w2.heap.size) rfl (vs := #[.int .u64 0, .int .u64 0, .int .u64 0, .int .u64 0, .int .u64 0, .int .u64 0, .int .u64 0]) rfl (by first | exact pC_one _ | (simp [Value.oneCell']; done)) Hb6.out rfl je_s1 ?_; clear Hb6; intro w5 Hb6 hun; replace Hb6 := hide Hb6; replace HB := hide (hun.keep w.heap.size w (by omega) HB.out); replace Hb3 := hide (Hb3.out.upd hun (by omega)); replace Hb5 := hide (Hb5.out.upd hun (by omega)); clear hun))
    exact bodyPost_ret (results2 rfl (reads_row (g := w2.heap.size) rfl Hb6.out Try.underlying30 rfl je_s1) (reads_tmp rfl)) rfl ⟨rfl, HB.out⟩
  · rw [if_neg h, if_neg h, if_neg h, if_neg h, if_neg h, if_neg h, if_neg h, if_neg h]
    have h2 := hb h
    have h' : x ≤ G := by omega
    have hw : IntKind.u64.wrap (g + x) = g + x := by rw [IntKind.wrap_u64]; omega
    clear h hb
    go_enter Try.func21, Try.ntmps21
    go_wp2_with (first | (refine n_box (by rfl) (T := 30) (x := (.tmp 0)) rfl (v := .agg (#[.int .u64 n, .int .u64 t, .int .u64 g, .int .u64 f0, .int .u64 f1, .int .u64 f2, .int .u64 f3])) rfl (ds := #[.int .u64 n, .int .u64 t, .int .u64 g, .int .u64 f0, .int .u64 f1, .int .u64 f2, .int .u64 f3]) rfl ?_; intro w1 Hb3 hbn; have HB := hide hbn; clear hbn; replace Hb3 := hide Hb3) | (refine n_box (by rfl) (T := 27) (x := (.tmp 2)) rfl (v := .agg (pC P)) rfl (ds := pC P) rfl ?_; intro w2 Hb5 hbn; have hsz_w1 := HB.out.size; have lt_b3_b5 := Hb3.out.lt; replace HB := hide (HB.out.trans (hbn.mono HB.out.size)); replace Hb3 := hide (Hb3.out.below hbn Hb3.out.lt); clear hbn; replace Hb5 := hide Hb5) | (refine n_alloc (by rfl) (T := 30) rfl je_z0 (ds := #[.int .u64 0, .int .u64 0, .int .u64 0, .int .u64 0, .int .u64 0, .int .u64 0, .int .u64 0]) rfl ?_; intro w3 Hb6 hbn; have hsz_w2 := HB.out.size; have lt_b3_b6 := Hb3.out.lt; have lt_b5_b6 := Hb5.out.lt; replace HB := hide (HB.out.trans (hbn.mono HB.out.size)); replace Hb3 := hide (Hb3.out.below hbn Hb3.out.lt); replace Hb5 := hide (Hb5.out.below hbn Hb5.out.lt); clear hbn; replace Hb6 := hide Hb6) | (refine n_loadw (by rfl) (T := 30) (x := (.tmp 3)) rfl (g := w.heap.size) rfl Hb3.out Try.underlying30 rfl je_s1 ?_) | (refine n_loadw (by rfl) (T := 27) (x := (.tmp 5)) rfl (g := w1.heap.size) rfl Hb5.out Try.underlying27 rfl je_s2 ?_))
    refine (HG.out _).mono ?_
    rintro e w4 ⟨rfl, hbc⟩
    replace HB := hide (HB.out.trans (hbc.mono HB.out.size))
    replace Hb3 := hide (Hb3.out.below hbc Hb3.out.lt)
    replace Hb5 := hide (Hb5.out.below hbc Hb5.out.lt)
    replace Hb6 := hide (Hb6.out.below hbc Hb6.out.lt)
    clear hbc
    go_wp2_with (first | (refine n_load (by rfl) (T := 22) (x := (.tmp 14)) rfl (g := w.heap.size) (o := 2) rfl Hb3.out (v := .int .u64 g) (by rfl) Try.underlying22 rfl ?_) | (refine n_store (by rfl) (T := 22) (x := (.tmp 18)) (y := (.tmp 17)) rfl (g := w.heap.size) (o := 2) rfl (v := .int .u64 (g + x)) rfl rfl (by rfl) Hb3.out (by first | (simp; done) | (simp; omega)) je_s3 ?_; clear Hb3; intro w5 Hb3 hun; replace Hb3 : NB w5 (w.heap.size) (#[.int .u64 n, .int .u64 t, .int .u64 (g + x), .int .u64 f0, .int .u64 f1, .int .u64 f2, .int .u64 f3]) 30 := Hb3; replace Hb3 := hide Hb3; replace HB := hide (hun.keep w.heap.size w (by omega) HB.out); replace Hb5 := hide (Hb5.out.upd hun (by omega)); replace Hb6 := hide (Hb6.out.upd hun (by omega)); clear hun) | (refine n_loadw (by rfl) (T := 30) (x := (.tmp 3)) rfl (g := w.heap.size) rfl Hb3.out Try.underlying30 rfl je_s1 ?_) | (refine n_storew (by rfl) (T := 30) (x := (.tmp 6)) (y := (.tmp 19)) rfl (g := w2.heap.size) rfl (vs := #[.int .u64 n, .int .u64 t, .int .u64 (g + x), .int .u64 f0, .int .u64 f1, .int .u64 f2, .int .u64 f3]) rfl (by first | exact pC_one _ | (simp [Value.oneCell']; done)) Hb6.out rfl je_s1 ?_; clear Hb6; intro w6 Hb6 hun; replace Hb6 := hide Hb6; replace HB := hide (hun.keep w.heap.size w (by omega) HB.out); replace Hb3 := hide (Hb3.out.upd hun (by omega)); replace Hb5 := hide (Hb5.out.upd hun (by omega)); clear hun))
    exact bodyPost_ret (results2 rfl (reads_row (g := w2.heap.size) rfl Hb6.out Try.underlying30 rfl je_s1) (reads_tmp rfl)) rfl ⟨rfl, HB.out⟩
set_option maxRecDepth 20000 in
set_option maxHeartbeats 8000000 in
theorem rbgen_c (P : Nat → Int) (hP : PW P) (w : World) :
    Calls Try.prog 10 #[.agg (pC P)] w fun e w' => e = .returned (.tuple #[.agg #[.int .u64 (geB P 1), .int .u64 0, .int .u64 0, .int .u64 (geB P (lim (feV 0 P) 0)), .int .u64 (geB P (lim (feV 0 P) 1)), .int .u64 (geB P (lim (feV 0 P) 2)), .int .u64 (geB P (lim (feV 0 P) 3))], .int .i64 (geE P)]) ∧ Below w.heap.size w w' := by
  have HF := fun w => rfee_c P hP (b := 0) (by omega) (by omega) w
  unfold geB geE
  obtain ⟨F, hF⟩ : ∃ F, feV 0 P = F := ⟨_, rfl⟩
  obtain ⟨E, hE⟩ : ∃ F, feE 0 P = F := ⟨_, rfl⟩
  rw [hF, hE] at HF
  rw [hF, hE]
  replace HF := hide HF
  clear hF hE
  by_cases h : E = 0
  · rw [if_pos h, if_pos h, if_pos h, if_pos h, if_pos h]
    subst h
    go_enter Try.func10, Try.ntmps10
    go_wp2_with (first | (refine n_box (by rfl) (T := 27) (x := (.tmp 0)) rfl (v := .agg (pC P)) rfl (ds := pC P) rfl ?_; intro w1 Hb1 hbn; have HB := hide hbn; clear hbn; replace Hb1 := hide Hb1) | (refine n_alloc (by rfl) (T := 30) rfl je_z0 (ds := #[.int .u64 0, .int .u64 0, .int .u64 0, .int .u64 0, .int .u64 0, .int .u64 0, .int .u64 0]) rfl ?_; intro w2 Hb2 hbn; have hsz_w1 := HB.out.size; have lt_b1_b2 := Hb1.out.lt; replace HB := hide (HB.out.trans (hbn.mono HB.out.size)); replace Hb1 := hide (Hb1.out.below hbn Hb1.out.lt); clear hbn; replace Hb2 := hide Hb2) | (refine n_loadw (by rfl) (T := 27) (x := (.tmp 1)) rfl (g := w.heap.size) rfl Hb1.out Try.underlying27 rfl je_s2 ?_))
    refine (HF.out _).mono ?_
    rintro e w3 ⟨rfl, hbc⟩
    replace HB := hide (HB.out.trans (hbc.mono HB.out.size))
    replace Hb1 := hide (Hb1.out.below hbc Hb1.out.lt)
    replace Hb2 := hide (Hb2.out.below hbc Hb2.out.lt)
    clear hbc
    go_wp2_with (first | (refine n_alloc (by rfl) (T := 25) rfl je_z4 (ds := #[.int .u64 0, .int .u64 0, .int .u64 0, .int .u64 0]) rfl ?_; intro w4 Hb4 hbn; have hsz_w3 := HB.out.size; have lt_b1_b4 := Hb1.out.lt; have lt_b2_b4 := Hb2.out.lt; replace HB := hide (HB.out.trans (hbn.mono HB.out.size)); replace Hb1 := hide (Hb1.out.below hbn Hb1.out.lt); replace Hb2 := hide (Hb2.out.below hbn Hb2.out.lt); clear hbn; replace Hb4 := hide Hb4) | (refine n_storew (by rfl) (T := 25) (x := (.tmp 4)) (y := (.tmp 9)) rfl (g := w3.heap.size) rfl (vs := #[.int .u64 (lim F 0), .int .u64 (lim F 1), .int .u64 (lim F 2), .int .u64 (lim F 3)]) rfl (by first | exact pC_one _ | (simp [Value.oneCell']; done)) Hb4.out rfl je_s5 ?_; clear Hb4; intro w5 Hb4 hun; replace Hb4 := hide Hb4; replace HB := hide (hun.keep w.heap.size w (by omega) HB.out); replace Hb1 := hide (Hb1.out.upd hun (by omega)); replace Hb2 := hide (Hb2.out.upd hun (by omega)); clear hun) | (refine n_loadw (by rfl) (T := 25) (x := (.tmp 4)) rfl (g := w3.heap.size) rfl Hb4.out Try.underlying25 rfl je_s5 ?_) | (refine n_storew (by rfl) (T := 30) (x := (.tmp 2)) (y := (.tmp 16)) rfl (g := w1.heap.size) rfl (vs := #[.int .u64 1, .int .u64 0, .int .u64 0, .int .u64 (lim F 0), .int .u64 (lim F 1), .int .u64 (lim F 2), .int .u64 (lim F 3)]) rfl (by first | exact pC_one _ | (simp [Value.oneCell']; done)) Hb2.out rfl je_s1 ?_; clear Hb2; intro w6 Hb2 hun; replace Hb2 := hide Hb2; replace HB := hide (hun.keep w.heap.size w (by omega) HB.out); replace Hb1 := hide (Hb1.out.upd hun (by omega)); replace Hb4 := hide (Hb4.out.upd hun (by omega)); clear hun))
    exact bodyPost_ret (results2 rfl (reads_row (g := w1.heap.size) rfl Hb2.out Try.underlying30 rfl je_s1) (reads_tmp rfl)) rfl ⟨rfl, HB.out⟩
  · rw [if_neg h, if_neg h, if_neg h, if_neg h, if_neg h]
    have hb : (E != 0) = true := by simpa using h
    go_enter Try.func10, Try.ntmps10
    go_wp2_with (first | (refine n_box (by rfl) (T := 27) (x := (.tmp 0)) rfl (v := .agg (pC P)) rfl (ds := pC P) rfl ?_; intro w1 Hb1 hbn; have HB := hide hbn; clear hbn; replace Hb1 := hide Hb1) | (refine n_alloc (by rfl) (T := 30) rfl je_z0 (ds := #[.int .u64 0, .int .u64 0, .int .u64 0, .int .u64 0, .int .u64 0, .int .u64 0, .int .u64 0]) rfl ?_; intro w2 Hb2 hbn; have hsz_w1 := HB.out.size; have lt_b1_b2 := Hb1.out.lt; replace HB := hide (HB.out.trans (hbn.mono HB.out.size)); replace Hb1 := hide (Hb1.out.below hbn Hb1.out.lt); clear hbn; replace Hb2 := hide Hb2) | (refine n_loadw (by rfl) (T := 27) (x := (.tmp 1)) rfl (g := w.heap.size) rfl Hb1.out Try.underlying27 rfl je_s2 ?_))
    refine (HF.out _).mono ?_
    rintro e w3 ⟨rfl, hbc⟩
    replace HB := hide (HB.out.trans (hbc.mono HB.out.size))
    replace Hb1 := hide (Hb1.out.below hbc Hb1.out.lt)
    replace Hb2 := hide (Hb2.out.below hbc Hb2.out.lt)
    clear hbc
    go_wp2_with (first | (refine n_alloc (by rfl) (T := 25) rfl je_z4 (ds := #[.int .u64 0, .int .u64 0, .int .u64 0, .int .u64 0]) rfl ?_; intro w4 Hb4 hbn; have hsz_w3 := HB.out.size; have lt_b1_b4 := Hb1.out.lt; have lt_b2_b4 := Hb2.out.lt; replace HB := hide (HB.out.trans (hbn.mono HB.out.size)); replace Hb1 := hide (Hb1.out.below hbn Hb1.out.lt); replace Hb2 := hide (Hb2.out.below hbn Hb2.out.lt); clear hbn; replace Hb4 := hide Hb4) | (refine n_storew (by rfl) (T := 25) (x := (.tmp 4)) (y := (.tmp 9)) rfl (g := w3.heap.size) rfl (vs := #[.int .u64 (lim F 0), .int .u64 (lim F 1), .int .u64 (lim F 2), .int .u64 (lim F 3)]) rfl (by first | exact pC_one _ | (simp [Value.oneCell']; done)) Hb4.out rfl je_s5 ?_; clear Hb4; intro w5 Hb4 hun; replace Hb4 := hide Hb4; replace HB := hide (hun.keep w.heap.size w (by omega) HB.out); replace Hb1 := hide (Hb1.out.upd hun (by omega)); replace Hb2 := hide (Hb2.out.upd hun (by omega)); clear hun) | (refine n_storew (by rfl) (T := 30) (x := (.tmp 2)) (y := (.tmp 13)) rfl (g := w1.heap.size) rfl (vs := #[.int .u64 0, .int .u64 0, .int .u64 0, .int .u64 0, .int .u64 0, .int .u64 0, .int .u64 0]) rfl (by first | exact pC_one _ | (simp [Value.oneCell']; done)) Hb2.out rfl je_s1 ?_; clear Hb2; intro w6 Hb2 hun; replace Hb2 := hide Hb2; replace HB := hide (hun.keep w.heap.size w (by omega) HB.out); replace Hb1 := hide (Hb1.out.upd hun (by omega)); replace Hb4 := hide (Hb4.out.upd hun (by omega)); clear hun))
    exact bodyPost_ret (results2 rfl (reads_row (g := w1.heap.size) rfl Hb2.out Try.underlying30 rfl je_s1) (reads_tmp rfl)) rfl ⟨rfl, HB.out⟩
set_option maxRecDepth 20000 in
set_option maxHeartbeats 16000000 in
theorem rnext_c (n t g f0 f1 f2 f3 s b : Int) (P : Nat → Int) (hP : PW P) (n0 : 0 ≤ n) (n1 : n < 18446744073709551616) (t0 : 0 ≤ t) (t1 : t < 18446744073709551616) (s0 : 0 ≤ s) (s1 : s < 18446744073709551616) (b0 : 0 ≤ b) (b1 : b < 18446744073709551616) (w : World) :
    Calls Try.prog 12 #[.agg #[.int .u64 n, .int .u64 t, .int .u64 g, .int .u64 f0, .int .u64 f1, .int .u64 f2, .int .u64 f3], .int .u64 s, .int .u64 b, .agg (pC P)] w fun e w' => e = .returned (.tuple #[.agg #[.int .u64 (nxB n t s P (n + 1)), .int .u64 (nxB n t s P (t + s)), .int .u64 0, .int .u64 (nxB n t s P (lim (feV b P) 0)), .int .u64 (nxB n t s P (lim (feV b P) 1)), .int .u64 (nxB n t s P (lim (feV b P) 2)), .int .u64 (nxB n t s P (lim (feV b P) 3))], .int .i64 (nxE n t s P)]) ∧ Below w.heap.size w w' := by
  have HF := fun w => rfee_c P hP b0 b1 w
  have hv : fiV P = 0 → feE b P = 0 := fun h => (fe_val hP h b0 b1).1
  have hn : fiV P ≠ 0 → feE b P = 15 := fun h => by unfold feE; rw [if_neg h]
  obtain ⟨F, hF⟩ : ∃ F, feV b P = F := ⟨_, rfl⟩
  obtain ⟨E, hE⟩ : ∃ F, feE b P = F := ⟨_, rfl⟩
  rw [hF, hE] at HF
  rw [hF]
  rw [hE] at hv hn
  unfold nxB
  obtain ⟨X, hX⟩ : ∃ X, nxE n t s P = X := ⟨_, rfl⟩
  rw [hX]
  unfold nxE at hX
  clear hF hE
  by_cases h1 : s < 1 ∨ s > 1048576
  · rw [if_pos h1] at hX
    subst hX
    rw [if_neg (by decide), if_neg (by decide), if_neg (by decide), if_neg (by decide), if_neg (by decide), if_neg (by decide)]
    clear hv hn HF
    rcases h1 with h1 | h1
    · go_enter Try.func12, Try.ntmps12
      go_wp2_with (first | (refine n_box (by rfl) (T := 30) (x := (.tmp 0)) rfl (v := .agg (#[.int .u64 n, .int .u64 t, .int .u64 g, .int .u64 f0, .int .u64 f1, .int .u64 f2, .int .u64 f3])) rfl (ds := #[.int .u64 n, .int .u64 t, .int .u64 g, .int .u64 f0, .int .u64 f1, .int .u64 f2, .int .u64 f3]) rfl ?_; intro w1 Hb4 hbn; have HB := hide hbn; clear hbn; replace Hb4 := hide Hb4) | (refine n_box (by rfl) (T := 27) (x := (.tmp 3)) rfl (v := .agg (pC P)) rfl (ds := pC P) rfl ?_; intro w2 Hb7 hbn; have hsz_w1 := HB.out.size; have lt_b4_b7 := Hb4.out.lt; replace HB := hide (HB.out.trans (hbn.mono HB.out.size)); replace Hb4 := hide (Hb4.out.below hbn Hb4.out.lt); clear hbn; replace Hb7 := hide Hb7) | (refine n_alloc (by rfl) (T := 30) rfl je_z0 (ds := #[.int .u64 0, .int .u64 0, .int .u64 0, .int .u64 0, .int .u64 0, .int .u64 0, .int .u64 0]) rfl ?_; intro w3 Hb8 hbn; have hsz_w2 := HB.out.size; have lt_b4_b8 := Hb4.out.lt; have lt_b7_b8 := Hb7.out.lt; replace HB := hide (HB.out.trans (hbn.mono HB.out.size)); replace Hb4 := hide (Hb4.out.below hbn Hb4.out.lt); replace Hb7 := hide (Hb7.out.below hbn Hb7.out.lt); clear hbn; replace Hb8 := hide Hb8) | (refine n_storew (by rfl) (T := 30) (x := (.tmp 8)) (y := (.tmp 18)) rfl (g := w2.heap.size) rfl (vs := #[.int .u64 0, .int .u64 0, .int .u64 0, .int .u64 0, .int .u64 0, .int .u64 0, .int .u64 0]) rfl (by first | exact pC_one _ | (simp [Value.oneCell']; done)) Hb8.out rfl je_s1 ?_; clear Hb8; intro w4 Hb8 hun; replace Hb8 := hide Hb8; replace HB := hide (hun.keep w.heap.size w (by omega) HB.out); replace Hb4 := hide (Hb4.out.upd hun (by omega)); replace Hb7 := hide (Hb7.out.upd hun (by omega)); clear hun))
      exact bodyPost_ret (results2 rfl (reads_row (g := w2.heap.size) rfl Hb8.out Try.underlying30 rfl je_s1) (reads_tmp rfl)) rfl ⟨rfl, HB.out⟩
    · have h2 : ¬ s < 1 := by omega
      have h3 : 1 ≤ s := by omega
      have h4 : 1048576 < s := h1
      clear h2 h1
      go_enter Try.func12, Try.ntmps12
      go_wp2_with (first | (refine n_box (by rfl) (T := 30) (x := (.tmp 0)) rfl (v := .agg (#[.int .u64 n, .int .u64 t, .int .u64 g, .int .u64 f0, .int .u64 f1, .int .u64 f2, .int .u64 f3])) rfl (ds := #[.int .u64 n, .int .u64 t, .int .u64 g, .int .u64 f0, .int .u64 f1, .int .u64 f2, .int .u64 f3]) rfl ?_; intro w1 Hb4 hbn; have HB := hide hbn; clear hbn; replace Hb4 := hide Hb4) | (refine n_box (by rfl) (T := 27) (x := (.tmp 3)) rfl (v := .agg (pC P)) rfl (ds := pC P) rfl ?_; intro w2 Hb7 hbn; have hsz_w1 := HB.out.size; have lt_b4_b7 := Hb4.out.lt; replace HB := hide (HB.out.trans (hbn.mono HB.out.size)); replace Hb4 := hide (Hb4.out.below hbn Hb4.out.lt); clear hbn; replace Hb7 := hide Hb7) | (refine n_alloc (by rfl) (T := 30) rfl je_z0 (ds := #[.int .u64 0, .int .u64 0, .int .u64 0, .int .u64 0, .int .u64 0, .int .u64 0, .int .u64 0]) rfl ?_; intro w3 Hb8 hbn; have hsz_w2 := HB.out.size; have lt_b4_b8 := Hb4.out.lt; have lt_b7_b8 := Hb7.out.lt; replace HB := hide (HB.out.trans (hbn.mono HB.out.size)); replace Hb4 := hide (Hb4.out.below hbn Hb4.out.lt); replace Hb7 := hide (Hb7.out.below hbn Hb7.out.lt); clear hbn; replace Hb8 := hide Hb8) | (refine n_storew (by rfl) (T := 30) (x := (.tmp 8)) (y := (.tmp 18)) rfl (g := w2.heap.size) rfl (vs := #[.int .u64 0, .int .u64 0, .int .u64 0, .int .u64 0, .int .u64 0, .int .u64 0, .int .u64 0]) rfl (by first | exact pC_one _ | (simp [Value.oneCell']; done)) Hb8.out rfl je_s1 ?_; clear Hb8; intro w4 Hb8 hun; replace Hb8 := hide Hb8; replace HB := hide (hun.keep w.heap.size w (by omega) HB.out); replace Hb4 := hide (Hb4.out.upd hun (by omega)); replace Hb7 := hide (Hb7.out.upd hun (by omega)); clear hun))
      exact bodyPost_ret (results2 rfl (reads_row (g := w2.heap.size) rfl Hb8.out Try.underlying30 rfl je_s1) (reads_tmp rfl)) rfl ⟨rfl, HB.out⟩
  · rw [if_neg h1] at hX
    have s2 : 1 ≤ s := by omega
    have s3 : s ≤ 1048576 := by omega
    clear h1
    by_cases h2 : fiV P ≠ 0
    · rw [if_pos h2] at hX
      have hE := hn h2
      subst hX hE
      rw [if_neg (by decide), if_neg (by decide), if_neg (by decide), if_neg (by decide), if_neg (by decide), if_neg (by decide)]
      replace HF := hide HF
      clear hv hn h2
      go_enter Try.func12, Try.ntmps12
      go_wp2_with (first | (refine n_box (by rfl) (T := 30) (x := (.tmp 0)) rfl (v := .agg (#[.int .u64 n, .int .u64 t, .int .u64 g, .int .u64 f0, .int .u64 f1, .int .u64 f2, .int .u64 f3])) rfl (ds := #[.int .u64 n, .int .u64 t, .int .u64 g, .int .u64 f0, .int .u64 f1, .int .u64 f2, .int .u64 f3]) rfl ?_; intro w1 Hb4 hbn; have HB := hide hbn; clear hbn; replace Hb4 := hide Hb4) | (refine n_box (by rfl) (T := 27) (x := (.tmp 3)) rfl (v := .agg (pC P)) rfl (ds := pC P) rfl ?_; intro w2 Hb7 hbn; have hsz_w1 := HB.out.size; have lt_b4_b7 := Hb4.out.lt; replace HB := hide (HB.out.trans (hbn.mono HB.out.size)); replace Hb4 := hide (Hb4.out.below hbn Hb4.out.lt); clear hbn; replace Hb7 := hide Hb7) | (refine n_alloc (by rfl) (T := 30) rfl je_z0 (ds := #[.int .u64 0, .int .u64 0, .int .u64 0, .int .u64 0, .int .u64 0, .int .u64 0, .int .u64 0]) rfl ?_; intro w3 Hb8 hbn; have hsz_w2 := HB.out.size; have lt_b4_b8 := Hb4.out.lt; have lt_b7_b8 := Hb7.out.lt; replace HB := hide (HB.out.trans (hbn.mono HB.out.size)); replace Hb4 := hide (Hb4.out.below hbn Hb4.out.lt); replace Hb7 := hide (Hb7.out.below hbn Hb7.out.lt); clear hbn; replace Hb8 := hide Hb8) | (refine n_loadw (by rfl) (T := 27) (x := (.tmp 7)) rfl (g := w1.heap.size) rfl Hb7.out Try.underlying27 rfl je_s2 ?_))
      refine (HF.out _).mono ?_
      rintro e w4 ⟨rfl, hbc⟩
      replace HB := hide (HB.out.trans (hbc.mono HB.out.size))
      replace Hb4 := hide (Hb4.out.below hbc Hb4.out.lt)
      replace Hb7 := hide (Hb7.out.below hbc Hb7.out.lt)
      replace Hb8 := hide (Hb8.out.below hbc Hb8.out.lt)
      clear hbc
      go_wp2_with (first | (refine n_alloc (by rfl) (T := 25) rfl je_z4 (ds := #[.int .u64 0, .int .u64 0, .int .u64 0, .int .u64 0]) rfl ?_; intro w5 Hb10 hbn; have hsz_w4 := HB.out.size; have lt_b4_b10 := Hb4.out.lt; have lt_b7_b10 := Hb7.out.lt; have lt_b8_b10 := Hb8.out.lt; replace HB := hide (HB.out.trans (hbn.mono HB.out.size)); replace Hb4 := hide (Hb4.out.below hbn Hb4.out.lt); replace Hb7 := hide (Hb7.out.below hbn Hb7.out.lt); replace Hb8 := hide (Hb8.out.below hbn Hb8.out.lt); clear hbn; replace Hb10 := hide Hb10) | (refine n_storew (by rfl) (T := 25) (x := (.tmp 10)) (y := (.tmp 23)) rfl (g := w4.heap.size) rfl (vs := #[.int .u64 (lim F 0), .int .u64 (lim F 1), .int .u64 (lim F 2), .int .u64 (lim F 3)]) rfl (by first | exact pC_one _ | (simp [Value.oneCell']; done)) Hb10.out rfl je_s5 ?_; clear Hb10; intro w6 Hb10 hun; replace Hb10 := hide Hb10; replace HB := hide (hun.keep w.heap.size w (by omega) HB.out); replace Hb4 := hide (Hb4.out.upd hun (by omega)); replace Hb7 := hide (Hb7.out.upd hun (by omega)); replace Hb8 := hide (Hb8.out.upd hun (by omega)); clear hun) | (refine n_storew (by rfl) (T := 30) (x := (.tmp 8)) (y := (.tmp 27)) rfl (g := w2.heap.size) rfl (vs := #[.int .u64 0, .int .u64 0, .int .u64 0, .int .u64 0, .int .u64 0, .int .u64 0, .int .u64 0]) rfl (by first | exact pC_one _ | (simp [Value.oneCell']; done)) Hb8.out rfl je_s1 ?_; clear Hb8; intro w7 Hb8 hun; replace Hb8 := hide Hb8; replace HB := hide (hun.keep w.heap.size w (by omega) HB.out); replace Hb4 := hide (Hb4.out.upd hun (by omega)); replace Hb7 := hide (Hb7.out.upd hun (by omega)); replace Hb10 := hide (Hb10.out.upd hun (by omega)); clear hun))
      exact bodyPost_ret (results2 rfl (reads_row (g := w2.heap.size) rfl Hb8.out Try.underlying30 rfl je_s1) (reads_tmp rfl)) rfl ⟨rfl, HB.out⟩
    · rw [if_neg h2] at hX
      have hE := hv (by omega)
      subst hE
      replace HF := hide HF
      clear hv hn h2
      by_cases h3 : 18446744073709551615 ≤ n ∨ 18446744073709551616 ≤ t + s
      · rw [if_pos h3] at hX
        subst hX
        rw [if_neg (by decide), if_neg (by decide), if_neg (by decide), if_neg (by decide), if_neg (by decide), if_neg (by decide)]
        by_cases h4 : n = 18446744073709551615
        · have hw : IntKind.u64.wrap (n + 1) = 0 := by rw [IntKind.wrap_u64]; omega
          clear h3 h4
          go_enter Try.func12, Try.ntmps12
          go_wp2_with (first | (refine n_box (by rfl) (T := 30) (x := (.tmp 0)) rfl (v := .agg (#[.int .u64 n, .int .u64 t, .int .u64 g, .int .u64 f0, .int .u64 f1, .int .u64 f2, .int .u64 f3])) rfl (ds := #[.int .u64 n, .int .u64 t, .int .u64 g, .int .u64 f0, .int .u64 f1, .int .u64 f2, .int .u64 f3]) rfl ?_; intro w1 Hb4 hbn; have HB := hide hbn; clear hbn; replace Hb4 := hide Hb4) | (refine n_box (by rfl) (T := 27) (x := (.tmp 3)) rfl (v := .agg (pC P)) rfl (ds := pC P) rfl ?_; intro w2 Hb7 hbn; have hsz_w1 := HB.out.size; have lt_b4_b7 := Hb4.out.lt; replace HB := hide (HB.out.trans (hbn.mono HB.out.size)); replace Hb4 := hide (Hb4.out.below hbn Hb4.out.lt); clear hbn; replace Hb7 := hide Hb7) | (refine n_alloc (by rfl) (T := 30) rfl je_z0 (ds := #[.int .u64 0, .int .u64 0, .int .u64 0, .int .u64 0, .int .u64 0, .int .u64 0, .int .u64 0]) rfl ?_; intro w3 Hb8 hbn; have hsz_w2 := HB.out.size; have lt_b4_b8 := Hb4.out.lt; have lt_b7_b8 := Hb7.out.lt; replace HB := hide (HB.out.trans (hbn.mono HB.out.size)); replace Hb4 := hide (Hb4.out.below hbn Hb4.out.lt); replace Hb7 := hide (Hb7.out.below hbn Hb7.out.lt); clear hbn; replace Hb8 := hide Hb8) | (refine n_loadw (by rfl) (T := 27) (x := (.tmp 7)) rfl (g := w1.heap.size) rfl Hb7.out Try.underlying27 rfl je_s2 ?_))
          refine (HF.out _).mono ?_
          rintro e w4 ⟨rfl, hbc⟩
          replace HB := hide (HB.out.trans (hbc.mono HB.out.size))
          replace Hb4 := hide (Hb4.out.below hbc Hb4.out.lt)
          replace Hb7 := hide (Hb7.out.below hbc Hb7.out.lt)
          replace Hb8 := hide (Hb8.out.below hbc Hb8.out.lt)
          clear hbc
          go_wp2_with (first | (refine n_alloc (by rfl) (T := 25) rfl je_z4 (ds := #[.int .u64 0, .int .u64 0, .int .u64 0, .int .u64 0]) rfl ?_; intro w5 Hb10 hbn; have hsz_w4 := HB.out.size; have lt_b4_b10 := Hb4.out.lt; have lt_b7_b10 := Hb7.out.lt; have lt_b8_b10 := Hb8.out.lt; replace HB := hide (HB.out.trans (hbn.mono HB.out.size)); replace Hb4 := hide (Hb4.out.below hbn Hb4.out.lt); replace Hb7 := hide (Hb7.out.below hbn Hb7.out.lt); replace Hb8 := hide (Hb8.out.below hbn Hb8.out.lt); clear hbn; replace Hb10 := hide Hb10) | (refine n_storew (by rfl) (T := 25) (x := (.tmp 10)) (y := (.tmp 23)) rfl (g := w4.heap.size) rfl (vs := #[.int .u64 (lim F 0), .int .u64 (lim F 1), .int .u64 (lim F 2), .int .u64 (lim F 3)]) rfl (by first | exact pC_one _ | (simp [Value.oneCell']; done)) Hb10.out rfl je_s5 ?_; clear Hb10; intro w6 Hb10 hun; replace Hb10 := hide Hb10; replace HB := hide (hun.keep w.heap.size w (by omega) HB.out); replace Hb4 := hide (Hb4.out.upd hun (by omega)); replace Hb7 := hide (Hb7.out.upd hun (by omega)); replace Hb8 := hide (Hb8.out.upd hun (by omega)); clear hun) | (refine n_load (by rfl) (T := 22) (x := (.tmp 29)) rfl (g := w.heap.size) (o := 0) rfl Hb4.out (v := .int .u64 n) (by rfl) Try.underlying22 rfl ?_) | (refine n_load (by rfl) (T := 22) (x := (.tmp 34)) rfl (g := w.heap.size) (o := 1) rfl Hb4.out (v := .int .u64 t) (by rfl) Try.underlying22 rfl ?_) | (refine n_load (by rfl) (T := 22) (x := (.tmp 38)) rfl (g := w.heap.size) (o := 1) rfl Hb4.out (v := .int .u64 t) (by rfl) Try.underlying22 rfl ?_) | (refine n_storew (by rfl) (T := 30) (x := (.tmp 8)) (y := (.tmp 42)) rfl (g := w2.heap.size) rfl (vs := #[.int .u64 0, .int .u64 0, .int .u64 0, .int .u64 0, .int .u64 0, .int .u64 0, .int .u64 0]) rfl (by first | exact pC_one _ | (simp [Value.oneCell']; done)) Hb8.out rfl je_s1 ?_; clear Hb8; intro w7 Hb8 hun; replace Hb8 := hide Hb8; replace HB := hide (hun.keep w.heap.size w (by omega) HB.out); replace Hb4 := hide (Hb4.out.upd hun (by omega)); replace Hb7 := hide (Hb7.out.upd hun (by omega)); replace Hb10 := hide (Hb10.out.upd hun (by omega)); clear hun))
          exact bodyPost_ret (results2 rfl (reads_row (g := w2.heap.size) rfl Hb8.out Try.underlying30 rfl je_s1) (reads_tmp rfl)) rfl ⟨rfl, HB.out⟩
        · have hw : IntKind.u64.wrap (n + 1) = n + 1 := by rw [IntKind.wrap_u64]; omega
          have hq : (n + 1 == 0) = false := by rw [beq_eq_false_iff_ne]; omega
          obtain ⟨z, hz, hz1⟩ : ∃ z, IntKind.u64.wrap (t + s) = z ∧ z < t := ⟨_, rfl, by rw [IntKind.wrap_u64]; omega⟩
          clear h3 h4
          go_enter Try.func12, Try.ntmps12
          go_wp2_with (first | (refine n_box (by rfl) (T := 30) (x := (.tmp 0)) rfl (v := .agg (#[.int .u64 n, .int .u64 t, .int .u64 g, .int .u64 f0, .int .u64 f1, .int .u64 f2, .int .u64 f3])) rfl (ds := #[.int .u64 n, .int .u64 t, .int .u64 g, .int .u64 f0, .int .u64 f1, .int .u64 f2, .int .u64 f3]) rfl ?_; intro w1 Hb4 hbn; have HB := hide hbn; clear hbn; replace Hb4 := hide Hb4) | (refine n_box (by rfl) (T := 27) (x := (.tmp 3)) rfl (v := .agg (pC P)) rfl (ds := pC P) rfl ?_; intro w2 Hb7 hbn; have hsz_w1 := HB.out.size; have lt_b4_b7 := Hb4.out.lt; replace HB := hide (HB.out.trans (hbn.mono HB.out.size)); replace Hb4 := hide (Hb4.out.below hbn Hb4.out.lt); clear hbn; replace Hb7 := hide Hb7) | (refine n_alloc (by rfl) (T := 30) rfl je_z0 (ds := #[.int .u64 0, .int .u64 0, .int .u64 0, .int .u64 0, .int .u64 0, .int .u64 0, .int .u64 0]) rfl ?_; intro w3 Hb8 hbn; have hsz_w2 := HB.out.size; have lt_b4_b8 := Hb4.out.lt; have lt_b7_b8 := Hb7.out.lt; replace HB := hide (HB.out.trans (hbn.mono HB.out.size)); replace Hb4 := hide (Hb4.out.below hbn Hb4.out.lt); replace Hb7 := hide (Hb7.out.below hbn Hb7.out.lt); clear hbn; replace Hb8 := hide Hb8) | (refine n_loadw (by rfl) (T := 27) (x := (.tmp 7)) rfl (g := w1.heap.size) rfl Hb7.out Try.underlying27 rfl je_s2 ?_))
          refine (HF.out _).mono ?_
          rintro e w4 ⟨rfl, hbc⟩
          replace HB := hide (HB.out.trans (hbc.mono HB.out.size))
          replace Hb4 := hide (Hb4.out.below hbc Hb4.out.lt)
          replace Hb7 := hide (Hb7.out.below hbc Hb7.out.lt)
          replace Hb8 := hide (Hb8.out.below hbc Hb8.out.lt)
          clear hbc
          go_wp2_with (first | (refine n_alloc (by rfl) (T := 25) rfl je_z4 (ds := #[.int .u64 0, .int .u64 0, .int .u64 0, .int .u64 0]) rfl ?_; intro w5 Hb10 hbn; have hsz_w4 := HB.out.size; have lt_b4_b10 := Hb4.out.lt; have lt_b7_b10 := Hb7.out.lt; have lt_b8_b10 := Hb8.out.lt; replace HB := hide (HB.out.trans (hbn.mono HB.out.size)); replace Hb4 := hide (Hb4.out.below hbn Hb4.out.lt); replace Hb7 := hide (Hb7.out.below hbn Hb7.out.lt); replace Hb8 := hide (Hb8.out.below hbn Hb8.out.lt); clear hbn; replace Hb10 := hide Hb10) | (refine n_storew (by rfl) (T := 25) (x := (.tmp 10)) (y := (.tmp 23)) rfl (g := w4.heap.size) rfl (vs := #[.int .u64 (lim F 0), .int .u64 (lim F 1), .int .u64 (lim F 2), .int .u64 (lim F 3)]) rfl (by first | exact pC_one _ | (simp [Value.oneCell']; done)) Hb10.out rfl je_s5 ?_; clear Hb10; intro w6 Hb10 hun; replace Hb10 := hide Hb10; replace HB := hide (hun.keep w.heap.size w (by omega) HB.out); replace Hb4 := hide (Hb4.out.upd hun (by omega)); replace Hb7 := hide (Hb7.out.upd hun (by omega)); replace Hb8 := hide (Hb8.out.upd hun (by omega)); clear hun) | (refine n_load (by rfl) (T := 22) (x := (.tmp 29)) rfl (g := w.heap.size) (o := 0) rfl Hb4.out (v := .int .u64 n) (by rfl) Try.underlying22 rfl ?_) | (refine n_load (by rfl) (T := 22) (x := (.tmp 34)) rfl (g := w.heap.size) (o := 1) rfl Hb4.out (v := .int .u64 t) (by rfl) Try.underlying22 rfl ?_) | (refine n_load (by rfl) (T := 22) (x := (.tmp 38)) rfl (g := w.heap.size) (o := 1) rfl Hb4.out (v := .int .u64 t) (by rfl) Try.underlying22 rfl ?_) | (refine n_storew (by rfl) (T := 30) (x := (.tmp 8)) (y := (.tmp 42)) rfl (g := w2.heap.size) rfl (vs := #[.int .u64 0, .int .u64 0, .int .u64 0, .int .u64 0, .int .u64 0, .int .u64 0, .int .u64 0]) rfl (by first | exact pC_one _ | (simp [Value.oneCell']; done)) Hb8.out rfl je_s1 ?_; clear Hb8; intro w7 Hb8 hun; replace Hb8 := hide Hb8; replace HB := hide (hun.keep w.heap.size w (by omega) HB.out); replace Hb4 := hide (Hb4.out.upd hun (by omega)); replace Hb7 := hide (Hb7.out.upd hun (by omega)); replace Hb10 := hide (Hb10.out.upd hun (by omega)); clear hun))
          exact bodyPost_ret (results2 rfl (reads_row (g := w2.heap.size) rfl Hb8.out Try.underlying30 rfl je_s1) (reads_tmp rfl)) rfl ⟨rfl, HB.out⟩
      · rw [if_neg h3] at hX
        subst hX
        rw [if_pos rfl, if_pos rfl, if_pos rfl, if_pos rfl, if_pos rfl, if_pos rfl]
        have hw : IntKind.u64.wrap (n + 1) = n + 1 := by rw [IntKind.wrap_u64]; omega
        have hq : (n + 1 == 0) = false := by rw [beq_eq_false_iff_ne]; omega
        have hz : IntKind.u64.wrap (t + s) = t + s := by rw [IntKind.wrap_u64]; omega
        have hz1 : t ≤ t + s := by omega
        clear h3
        go_enter Try.func12, Try.ntmps12
        go_wp2_with (first | (refine n_box (by rfl) (T := 30) (x := (.tmp 0)) rfl (v := .agg (#[.int .u64 n, .int .u64 t, .int .u64 g, .int .u64 f0, .int .u64 f1, .int .u64 f2, .int .u64 f3])) rfl (ds := #[.int .u64 n, .int .u64 t, .int .u64 g, .int .u64 f0, .int .u64 f1, .int .u64 f2, .int .u64 f3]) rfl ?_; intro w1 Hb4 hbn; have HB := hide hbn; clear hbn; replace Hb4 := hide Hb4) | (refine n_box (by rfl) (T := 27) (x := (.tmp 3)) rfl (v := .agg (pC P)) rfl (ds := pC P) rfl ?_; intro w2 Hb7 hbn; have hsz_w1 := HB.out.size; have lt_b4_b7 := Hb4.out.lt; replace HB := hide (HB.out.trans (hbn.mono HB.out.size)); replace Hb4 := hide (Hb4.out.below hbn Hb4.out.lt); clear hbn; replace Hb7 := hide Hb7) | (refine n_alloc (by rfl) (T := 30) rfl je_z0 (ds := #[.int .u64 0, .int .u64 0, .int .u64 0, .int .u64 0, .int .u64 0, .int .u64 0, .int .u64 0]) rfl ?_; intro w3 Hb8 hbn; have hsz_w2 := HB.out.size; have lt_b4_b8 := Hb4.out.lt; have lt_b7_b8 := Hb7.out.lt; replace HB := hide (HB.out.trans (hbn.mono HB.out.size)); replace Hb4 := hide (Hb4.out.below hbn Hb4.out.lt); replace Hb7 := hide (Hb7.out.below hbn Hb7.out.lt); clear hbn; replace Hb8 := hide Hb8) | (refine n_loadw (by rfl) (T := 27) (x := (.tmp 7)) rfl (g := w1.heap.size) rfl Hb7.out Try.underlying27 rfl je_s2 ?_))
        refine (HF.out _).mono ?_
        rintro e w4 ⟨rfl, hbc⟩
        replace HB := hide (HB.out.trans (hbc.mono HB.out.size))
        replace Hb4 := hide (Hb4.out.below hbc Hb4.out.lt)
        replace Hb7 := hide (Hb7.out.below hbc Hb7.out.lt)
        replace Hb8 := hide (Hb8.out.below hbc Hb8.out.lt)
        clear hbc
        go_wp2_with (first | (refine n_alloc (by rfl) (T := 25) rfl je_z4 (ds := #[.int .u64 0, .int .u64 0, .int .u64 0, .int .u64 0]) rfl ?_; intro w5 Hb10 hbn; have hsz_w4 := HB.out.size; have lt_b4_b10 := Hb4.out.lt; have lt_b7_b10 := Hb7.out.lt; have lt_b8_b10 := Hb8.out.lt; replace HB := hide (HB.out.trans (hbn.mono HB.out.size)); replace Hb4 := hide (Hb4.out.below hbn Hb4.out.lt); replace Hb7 := hide (Hb7.out.below hbn Hb7.out.lt); replace Hb8 := hide (Hb8.out.below hbn Hb8.out.lt); clear hbn; replace Hb10 := hide Hb10) | (refine n_storew (by rfl) (T := 25) (x := (.tmp 10)) (y := (.tmp 23)) rfl (g := w4.heap.size) rfl (vs := #[.int .u64 (lim F 0), .int .u64 (lim F 1), .int .u64 (lim F 2), .int .u64 (lim F 3)]) rfl (by first | exact pC_one _ | (simp [Value.oneCell']; done)) Hb10.out rfl je_s5 ?_; clear Hb10; intro w6 Hb10 hun; replace Hb10 := hide Hb10; replace HB := hide (hun.keep w.heap.size w (by omega) HB.out); replace Hb4 := hide (Hb4.out.upd hun (by omega)); replace Hb7 := hide (Hb7.out.upd hun (by omega)); replace Hb8 := hide (Hb8.out.upd hun (by omega)); clear hun) | (refine n_load (by rfl) (T := 22) (x := (.tmp 29)) rfl (g := w.heap.size) (o := 0) rfl Hb4.out (v := .int .u64 n) (by rfl) Try.underlying22 rfl ?_) | (refine n_load (by rfl) (T := 22) (x := (.tmp 34)) rfl (g := w.heap.size) (o := 1) rfl Hb4.out (v := .int .u64 t) (by rfl) Try.underlying22 rfl ?_) | (refine n_load (by rfl) (T := 22) (x := (.tmp 38)) rfl (g := w.heap.size) (o := 1) rfl Hb4.out (v := .int .u64 t) (by rfl) Try.underlying22 rfl ?_) | (refine n_load (by rfl) (T := 22) (x := (.tmp 43)) rfl (g := w.heap.size) (o := 0) rfl Hb4.out (v := .int .u64 n) (by rfl) Try.underlying22 rfl ?_) | (refine n_load (by rfl) (T := 22) (x := (.tmp 46)) rfl (g := w.heap.size) (o := 1) rfl Hb4.out (v := .int .u64 t) (by rfl) Try.underlying22 rfl ?_) | (refine n_loadw (by rfl) (T := 25) (x := (.tmp 10)) rfl (g := w4.heap.size) rfl Hb10.out Try.underlying25 rfl je_s5 ?_) | (refine n_storew (by rfl) (T := 30) (x := (.tmp 8)) (y := (.tmp 51)) rfl (g := w2.heap.size) rfl (vs := #[.int .u64 (n + 1), .int .u64 (t + s), .int .u64 0, .int .u64 (lim F 0), .int .u64 (lim F 1), .int .u64 (lim F 2), .int .u64 (lim F 3)]) rfl (by first | exact pC_one _ | (simp [Value.oneCell']; done)) Hb8.out rfl je_s1 ?_; clear Hb8; intro w7 Hb8 hun; replace Hb8 := hide Hb8; replace HB := hide (hun.keep w.heap.size w (by omega) HB.out); replace Hb4 := hide (Hb4.out.upd hun (by omega)); replace Hb7 := hide (Hb7.out.upd hun (by omega)); replace Hb10 := hide (Hb10.out.upd hun (by omega)); clear hun))
        exact bodyPost_ret (results2 rfl (reads_row (g := w2.heap.size) rfl Hb8.out Try.underlying30 rfl je_s1) (reads_tmp rfl)) rfl ⟨rfl, HB.out⟩
end Go.Proofs.Ytkneiobohhhcpaa
