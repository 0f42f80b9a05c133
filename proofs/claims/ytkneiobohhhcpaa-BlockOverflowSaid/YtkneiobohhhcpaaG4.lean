/- chapter 15: BlockOverflow, walked. -/
import Derived.WalkKit
import Derived.KernelRfl
import Derived.RowKit3
import Derived.Deep.LoopGhost
import Derived.Deep.QuietTactic
import Derived.BigQuiet
import Derived.WideLaws
import Derived.Laws.Rows
import Derived.Below
import Derived.Deep.Draws
import Derived.Outline
import Derived.LoopN
import Derived.Handy
import Derived.Laws.Externs
import Derived.Laws.BitsAllLaws
import Derived.Laws.BitsLemmas
import Derived.Deep.DeepCutAuto
import Derived.Deep.CutBlock
import Derived.Deep.RegionHeld3
import Derived.Test.YtkneiobohhhcpaaG3
namespace Go.Proofs.Ytkneiobohhhcpaa
open Go.RowKit
set_option linter.unusedVariables false
set_option linter.unusedSimpArgs false
theorem nextG_c (n t s : Int) (n0 : 0 ≤ n) (n1 : n < 18446744073709551616) (t0 : 0 ≤ t) (t1 : t < 18446744073709551616) (s0 : 0 ≤ s) (s1 : s < 18446744073709551616) (w : World) :
    Calls Try.prog 11 #[.agg #[.int .u64 n, .int .u64 t, .int .u64 0, .int .u64 0, .int .u64 0, .int .u64 0, .int .u64 0], .int .u64 s, .int .u64 0, .agg (pC Gen)] w fun e w' => e = .returned (.tuple #[.agg (if nxE n t s Gen = 0 then #[.int .u64 (n + 1), .int .u64 (t + s), .int .u64 0, .int .u64 100000000, .int .u64 0, .int .u64 0, .int .u64 0] else Z7), .int .i64 (nxE n t s Gen)]) ∧ Below w.heap.size w w' := by
  have h := next_c n t 0 0 0 0 0 s 0 Gen Gen_w n0 n1 t0 t1 s0 s1 (by omega) (by omega) w
  obtain ⟨h1, h2⟩ := Gen_fee
  obtain ⟨p0, p1, p2, p3⟩ := lim_one (n := 100000000) (by omega)
  unfold nxB at h
  rw [h2, p0, p1, p2, p3] at h
  by_cases he : nxE n t s Gen = 0
  · simp only [he, if_true] at h ⊢
    exact h
  · simp only [he, if_false] at h ⊢
    exact h
theorem nxG {n t s : Int} (h1 : 1 ≤ s) (h2 : s ≤ 1048576) : nxE n t s Gen = if 18446744073709551615 ≤ n ∨ 18446744073709551616 ≤ t + s then 4 else 0 := by
  rw [nxE, if_neg (by omega), if_neg (fun h => h Gen_ok)]
set_option maxRecDepth 20000 in
set_option maxHeartbeats 16000000 in
theorem bov_c (n t s : Int) (n0 : 0 ≤ n) (n1 : n < 18446744073709551616) (t0 : 0 ≤ t) (t1 : t < 18446744073709551616) (s0 : 0 ≤ s) (s1 : s < 18446744073709551616) (w : World) :
    Calls Try.prog 5 #[.int .u64 n, .int .u64 t, .int .u64 s] w fun e w' => e = .returned (.bool true) ∧ Below w.heap.size w w' := by
  obtain ⟨r, er, r0, r1⟩ : ∃ r, s.tmod 1048576 = r ∧ 0 ≤ r ∧ r < 1048576 := tmod_ex s0 (by omega)
  obtain ⟨q, eq, q0, q1⟩ : ∃ r, s.tmod 1000 = r ∧ 0 ≤ r ∧ r < 1000 := tmod_ex s0 (by omega)
  have er' : s % 1048576 = r := by rw [← er, Int.tmod_eq_emod_of_nonneg s0]
  have eq' : s % 1000 = q := by rw [← eq, Int.tmod_eq_emod_of_nonneg s0]
  have HN1 := hide (fun w => nextG_c 0 0 0 (by omega) (by omega) (by omega) (by omega) (by omega) (by omega) w)
  have HN2 := hide (fun w => nextG_c 0 0 (1048577 + q) (by omega) (by omega) (by omega) (by omega) (by omega) (by omega) w)
  have HN3 := hide (fun w => nextG_c n t (1 + r) n0 n1 t0 t1 (by omega) (by omega) w)
  have z1 : nxE 0 0 0 Gen = 2 := if_pos (by omega)
  have z2 : nxE 0 0 (1048577 + q) Gen = 2 := if_pos (by omega)
  have z3 := nxG (n := n) (t := t) (s := 1 + r) (by omega) (by omega)
  rw [z1] at HN1
  rw [z2] at HN2
  simp only [show ¬ ((2 : Int) = 0) by decide, if_false] at HN1 HN2
  clear z1 z2
  have HE := eqB_law 0 0 0 0 0 0 0
  by_cases ho : 18446744073709551615 ≤ n ∨ 18446744073709551616 ≤ t + (1 + r)
  · rw [if_pos ho] at z3
    rw [z3] at HN3
    simp only [show ¬ ((4 : Int) = 0) by decide, if_false] at HN3
    clear z3
    by_cases hn : n < 18446744073709551615
    · have ht : 18446744073709551615 - (1 + r) < t := by omega
      clear ho
      go_enter Try.func5, Try.ntmps5
      go_wp2_with fail
      refine (genesis_c _).mono ?_
      rintro e w1 ⟨rfl, hb1⟩
      have hs1 := hb1.size
      have HZ := hide (PBlk.new w1 (fun _ => 0))
      go_wp2_with (first | (refine wpList_store_row26 rfl (.tmp 7) (.tmp 16) rfl (g := w1.heap.size) Gen rfl rfl HZ.out ?_; intro w2 HP hB2 _; replace HP := hide HP; have HB := hide (hB2 w.heap.size w hs1 (hb1.alloc hs1 _)); clear hB2 HZ hb1) | (refine wpList_load_row26 (P := Gen) rfl (.tmp 7) rfl (g := w1.heap.size) rfl HP.out ?_))
      refine (HN1.out _).mono ?_
      rintro e w3 ⟨rfl, hb⟩
      replace HB := hide (HB.out.trans (hb.mono HB.out.size))
      replace HP := hide (HP.out.below hb HP.out.lt)
      have hlt3 := HP.out.lt
      have hsz3 := HB.out.size
      clear hb
      have HZ := hide (RBlk.new w3 Z7 30)
      go_wp2_with (first | (refine wpList_store_rowR (by rfl) (.tmp 9) (.tmp 24) rfl rfl rfl HZ.out rfl sizeBk (one7 _ _ _ _ _ _ _) ?_; intro w4 HX hS; replace HX := hide HX; replace HP := hide (show PBlk w4 w1.heap.size Gen from (hS.2.2 _ (by omega)).trans (HP.out.alloc _)); replace HB := hide (hS.1 w.heap.size w (by omega) (HB.out.alloc (by omega) _)); clear hS HZ) | (refine wpList_load_row26 (P := Gen) rfl (.tmp 7) rfl (g := w1.heap.size) rfl HP.out ?_))
      clear HX
      refine (HN2.out _).mono ?_
      rintro e w5 ⟨rfl, hb⟩
      replace HB := hide (HB.out.trans (hb.mono HB.out.size))
      replace HP := hide (HP.out.below hb HP.out.lt)
      have hlt5 := HP.out.lt
      have hsz5 := HB.out.size
      clear hb
      have HZ := hide (RBlk.new w5 Z7 30)
      go_wp2_with (first | (refine wpList_store_rowR (by rfl) (.tmp 11) (.tmp 33) rfl rfl rfl HZ.out rfl sizeBk (one7 _ _ _ _ _ _ _) ?_; intro w6 HX hS; replace HX := hide HX; replace HP := hide (show PBlk w6 w1.heap.size Gen from (hS.2.2 _ (by omega)).trans (HP.out.alloc _)); replace HB := hide (hS.1 w.heap.size w (by omega) (HB.out.alloc (by omega) _)); clear hS HZ) | (refine wpList_load_row26 (P := Gen) rfl (.tmp 7) rfl (g := w1.heap.size) rfl HP.out ?_))
      clear HX
      refine (HN3.out _).mono ?_
      rintro e w7 ⟨rfl, hb⟩
      replace HB := hide (HB.out.trans (hb.mono HB.out.size))
      replace HP := hide (HP.out.below hb HP.out.lt)
      have hlt7 := HP.out.lt
      have hsz7 := HB.out.size
      clear hb
      have HZ := hide (RBlk.new w7 Z7 30)
      go_wp2_with (first | (refine wpList_store_rowR (by rfl) (.tmp 13) (.tmp 42) rfl rfl rfl HZ.out rfl sizeBk (one7 _ _ _ _ _ _ _) ?_; intro w8 HX hS; replace HX := hide HX; replace HP := hide (show PBlk w8 w1.heap.size Gen from (hS.2.2 _ (by omega)).trans (HP.out.alloc _)); replace HB := hide (hS.1 w.heap.size w (by omega) (HB.out.alloc (by omega) _)); clear hS HZ) | (refine wpList_load_rowR (by rfl) (.tmp 13) rfl (g := w7.heap.size) rfl HX.out Try.underlying30 rfl sizeBk ?_))
      refine (awake15_c _).mono ?_
      rintro e w9 ⟨rfl, hb⟩
      have hBf := HB.out.trans (hb.mono HB.out.size)
      clear hb
      go_wp2
      go_ret
      exact ⟨rfl, hBf⟩
    · have hn' : 18446744073709551615 ≤ n := by omega
      clear ho hn
      go_enter Try.func5, Try.ntmps5
      go_wp2_with fail
      refine (genesis_c _).mono ?_
      rintro e w1 ⟨rfl, hb1⟩
      have hs1 := hb1.size
      have HZ := hide (PBlk.new w1 (fun _ => 0))
      go_wp2_with (first | (refine wpList_store_row26 rfl (.tmp 7) (.tmp 16) rfl (g := w1.heap.size) Gen rfl rfl HZ.out ?_; intro w2 HP hB2 _; replace HP := hide HP; have HB := hide (hB2 w.heap.size w hs1 (hb1.alloc hs1 _)); clear hB2 HZ hb1) | (refine wpList_load_row26 (P := Gen) rfl (.tmp 7) rfl (g := w1.heap.size) rfl HP.out ?_))
      refine (HN1.out _).mono ?_
      rintro e w3 ⟨rfl, hb⟩
      replace HB := hide (HB.out.trans (hb.mono HB.out.size))
      replace HP := hide (HP.out.below hb HP.out.lt)
      have hlt3 := HP.out.lt
      have hsz3 := HB.out.size
      clear hb
      have HZ := hide (RBlk.new w3 Z7 30)
      go_wp2_with (first | (refine wpList_store_rowR (by rfl) (.tmp 9) (.tmp 24) rfl rfl rfl HZ.out rfl sizeBk (one7 _ _ _ _ _ _ _) ?_; intro w4 HX hS; replace HX := hide HX; replace HP := hide (show PBlk w4 w1.heap.size Gen from (hS.2.2 _ (by omega)).trans (HP.out.alloc _)); replace HB := hide (hS.1 w.heap.size w (by omega) (HB.out.alloc (by omega) _)); clear hS HZ) | (refine wpList_load_row26 (P := Gen) rfl (.tmp 7) rfl (g := w1.heap.size) rfl HP.out ?_))
      clear HX
      refine (HN2.out _).mono ?_
      rintro e w5 ⟨rfl, hb⟩
      replace HB := hide (HB.out.trans (hb.mono HB.out.size))
      replace HP := hide (HP.out.below hb HP.out.lt)
      have hlt5 := HP.out.lt
      have hsz5 := HB.out.size
      clear hb
      have HZ := hide (RBlk.new w5 Z7 30)
      go_wp2_with (first | (refine wpList_store_rowR (by rfl) (.tmp 11) (.tmp 33) rfl rfl rfl HZ.out rfl sizeBk (one7 _ _ _ _ _ _ _) ?_; intro w6 HX hS; replace HX := hide HX; replace HP := hide (show PBlk w6 w1.heap.size Gen from (hS.2.2 _ (by omega)).trans (HP.out.alloc _)); replace HB := hide (hS.1 w.heap.size w (by omega) (HB.out.alloc (by omega) _)); clear hS HZ) | (refine wpList_load_row26 (P := Gen) rfl (.tmp 7) rfl (g := w1.heap.size) rfl HP.out ?_))
      clear HX
      refine (HN3.out _).mono ?_
      rintro e w7 ⟨rfl, hb⟩
      replace HB := hide (HB.out.trans (hb.mono HB.out.size))
      replace HP := hide (HP.out.below hb HP.out.lt)
      have hlt7 := HP.out.lt
      have hsz7 := HB.out.size
      clear hb
      have HZ := hide (RBlk.new w7 Z7 30)
      go_wp2_with (first | (refine wpList_store_rowR (by rfl) (.tmp 13) (.tmp 42) rfl rfl rfl HZ.out rfl sizeBk (one7 _ _ _ _ _ _ _) ?_; intro w8 HX hS; replace HX := hide HX; replace HP := hide (show PBlk w8 w1.heap.size Gen from (hS.2.2 _ (by omega)).trans (HP.out.alloc _)); replace HB := hide (hS.1 w.heap.size w (by omega) (HB.out.alloc (by omega) _)); clear hS HZ) | (refine wpList_load_rowR (by rfl) (.tmp 13) rfl (g := w7.heap.size) rfl HX.out Try.underlying30 rfl sizeBk ?_))
      refine (awake15_c _).mono ?_
      rintro e w9 ⟨rfl, hb⟩
      have hBf := HB.out.trans (hb.mono HB.out.size)
      clear hb
      go_wp2
      go_ret
      exact ⟨rfl, hBf⟩
  · rw [if_neg ho] at z3
    rw [z3] at HN3
    simp only [if_true] at HN3
    have hn : n < 18446744073709551615 := by omega
    have ht : t ≤ 18446744073709551615 - (1 + r) := by omega
    clear ho z3 HE
    go_enter Try.func5, Try.ntmps5
    go_wp2_with fail
    refine (genesis_c _).mono ?_
    rintro e w1 ⟨rfl, hb1⟩
    have hs1 := hb1.size
    have HZ := hide (PBlk.new w1 (fun _ => 0))
    go_wp2_with (first | (refine wpList_store_row26 rfl (.tmp 7) (.tmp 16) rfl (g := w1.heap.size) Gen rfl rfl HZ.out ?_; intro w2 HP hB2 _; replace HP := hide HP; have HB := hide (hB2 w.heap.size w hs1 (hb1.alloc hs1 _)); clear hB2 HZ hb1) | (refine wpList_load_row26 (P := Gen) rfl (.tmp 7) rfl (g := w1.heap.size) rfl HP.out ?_))
    refine (HN1.out _).mono ?_
    rintro e w3 ⟨rfl, hb⟩
    replace HB := hide (HB.out.trans (hb.mono HB.out.size))
    replace HP := hide (HP.out.below hb HP.out.lt)
    have hlt3 := HP.out.lt
    have hsz3 := HB.out.size
    clear hb
    have HZ := hide (RBlk.new w3 Z7 30)
    go_wp2_with (first | (refine wpList_store_rowR (by rfl) (.tmp 9) (.tmp 24) rfl rfl rfl HZ.out rfl sizeBk (one7 _ _ _ _ _ _ _) ?_; intro w4 HX hS; replace HX := hide HX; replace HP := hide (show PBlk w4 w1.heap.size Gen from (hS.2.2 _ (by omega)).trans (HP.out.alloc _)); replace HB := hide (hS.1 w.heap.size w (by omega) (HB.out.alloc (by omega) _)); clear hS HZ) | (refine wpList_load_row26 (P := Gen) rfl (.tmp 7) rfl (g := w1.heap.size) rfl HP.out ?_))
    clear HX
    refine (HN2.out _).mono ?_
    rintro e w5 ⟨rfl, hb⟩
    replace HB := hide (HB.out.trans (hb.mono HB.out.size))
    replace HP := hide (HP.out.below hb HP.out.lt)
    have hlt5 := HP.out.lt
    have hsz5 := HB.out.size
    clear hb
    have HZ := hide (RBlk.new w5 Z7 30)
    go_wp2_with (first | (refine wpList_store_rowR (by rfl) (.tmp 11) (.tmp 33) rfl rfl rfl HZ.out rfl sizeBk (one7 _ _ _ _ _ _ _) ?_; intro w6 HX hS; replace HX := hide HX; replace HP := hide (show PBlk w6 w1.heap.size Gen from (hS.2.2 _ (by omega)).trans (HP.out.alloc _)); replace HB := hide (hS.1 w.heap.size w (by omega) (HB.out.alloc (by omega) _)); clear hS HZ) | (refine wpList_load_row26 (P := Gen) rfl (.tmp 7) rfl (g := w1.heap.size) rfl HP.out ?_))
    clear HX
    refine (HN3.out _).mono ?_
    rintro e w7 ⟨rfl, hb⟩
    replace HB := hide (HB.out.trans (hb.mono HB.out.size))
    replace HP := hide (HP.out.below hb HP.out.lt)
    have hlt7 := HP.out.lt
    have hsz7 := HB.out.size
    clear hb
    have HZ := hide (RBlk.new w7 Z7 30)
    go_upto_region 8 with (refine wpList_store_rowR (by rfl) (.tmp 13) (.tmp 42) rfl rfl rfl HZ.out rfl sizeBk (one7 _ _ _ _ _ _ _) ?_; intro w8 HX hS; replace HX := hide HX; replace HP := hide (show PBlk w8 w1.heap.size Gen from (hS.2.2 _ (by omega)).trans (HP.out.alloc _)); replace HB := hide (hS.1 w.heap.size w (by omega) (HB.out.alloc (by omega) _)); clear hS HZ)
    have d0 := HX.out.cell 0
    have d1 := HX.out.cell 1
    simp only [List.getElem?_toArray, List.getElem?_cons_zero, List.getElem?_cons_succ] at d0 d1
    go_wp2_with fail
    refine (awake15_c _).mono ?_
    rintro e w9 ⟨rfl, hb⟩
    have hBf := HB.out.trans (hb.mono HB.out.size)
    clear hb
    go_wp2
    go_ret
    exact ⟨rfl, hBf⟩
theorem BlockOverflow_walk (n t s : Int) (w0 : (Lit.int .u64 n).wf = true) (w1 : (Lit.int .u64 t).wf = true) (w2 : (Lit.int .u64 s).wf = true) (w : World) :
    Calls Try.prog 5 #[.int .u64 n, .int .u64 t, .int .u64 s] w fun e w' => e = .returned (.bool true) ∧ Below w.heap.size w w' := by
  obtain ⟨p1, q1⟩ := bounds_u64 w0
  obtain ⟨p2, q2⟩ := bounds_u64 w1
  obtain ⟨p3, q3⟩ := bounds_u64 w2
  exact bov_c n t s p1 (by omega) p2 (by omega) p3 (by omega) w
end Go.Proofs.Ytkneiobohhhcpaa
