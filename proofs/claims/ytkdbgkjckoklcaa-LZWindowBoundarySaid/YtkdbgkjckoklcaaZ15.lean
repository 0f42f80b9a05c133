/- Chapter 9: a word repeated at a distance, walked. -/
import Derived.WalkKit
import Derived.KernelRfl
import Derived.RowKit3
import Derived.Deep.LoopGhost
import Derived.Deep.QuietTactic
import Derived.BigQuiet
import Derived.WideLaws
import Derived.Laws.Rows
import Derived.Below
import Derived.Deep.Draws
import Derived.Outline
import Derived.LoopN
import Derived.Handy
import Derived.Laws.Externs
import Derived.Laws.BitsAllLaws
import Derived.Laws.BitsLemmas
import Derived.Deep.DeepCutAuto
import Derived.Deep.CutBlock
import Derived.Deep.RegionHeld3
import Derived.Test.YtkdbgkjckoklcaaZ13
import Derived.Deep.AppendLies
import Derived.Deep.RegionLawGrows
import Derived.OwnWalk
import Derived.IntWalk
namespace Go.Proofs.Ytkdbgkjckoklcaa
open Go.RowKit
set_option linter.unusedVariables false
set_option linter.unusedSimpArgs false
theorem news_four (w : World) (x y z u : Value) (e : TypeId) : ∀ j v, [x, y, z, u][j]? = some v → (w.alloc (.cells #[x, y, z, u] e)).cell? ((⟨w.heap.size, 0, none⟩ : Addr).add j) = some v :=
  World.news_of_block (heap_alloc_new w _)
theorem owns_four {w2 : World} {B : Nat} {v : Value} {O : List UInt8} {a b c d : Int} (ha : 0 ≤ a ∧ a < 256) (hb : 0 ≤ b ∧ b < 256) (hc : 0 ≤ c ∧ c < 256) (hd : 0 ≤ d ∧ d < 256) (h : w2.ownsRow B 5 1 v (O.length + 4) (O.map bv ++ [.int .u8 a, .int .u8 b, .int .u8 c, .int .u8 d])) : ∃ O', O'.length = O.length + 4 ∧ Owns w2 B v O' := by
  refine ⟨O ++ [UInt8.ofNat a.toNat, UInt8.ofNat b.toNat, UInt8.ofNat c.toNat, UInt8.ofNat d.toNat], by simp, owns_some (r := [UInt8.ofNat a.toNat, UInt8.ofNat b.toNat, UInt8.ofNat c.toNat, UInt8.ofNat d.toNat]) rfl ?_ h⟩
  simp only [List.map_cons, bv, List.map_nil]
  rw [toNat_of (by omega), toNat_of (by omega), toNat_of (by omega), toNat_of (by omega), Int.toNat_of_nonneg ha.1, Int.toNat_of_nonneg hb.1, Int.toNat_of_nonneg hc.1, Int.toNat_of_nonneg hd.1]
set_option maxRecDepth 20000 in
set_option maxHeartbeats 8000000 in
theorem LZWindowBoundary_walk (nn x0 x1 x2 x3 x4 x5 x6 x7 : Int) (wn : (Lit.int .i64 nn).wf = true) (w0 : (Lit.int .u8 x0).wf = true) (w1 : (Lit.int .u8 x1).wf = true) (w2 : (Lit.int .u8 x2).wf = true) (w3 : (Lit.int .u8 x3).wf = true) (w4 : (Lit.int .u8 x4).wf = true) (w5 : (Lit.int .u8 x5).wf = true) (w6 : (Lit.int .u8 x6).wf = true) (w7 : (Lit.int .u8 x7).wf = true) (w : World) :
    Calls Try.prog 8 #[.int .i64 nn, .agg #[.int .u8 x0, .int .u8 x1, .int .u8 x2, .int .u8 x3, .int .u8 x4, .int .u8 x5, .int .u8 x6, .int .u8 x7]] w fun e w' => e = .returned (.bool true) ∧ Below w.heap.size w w' := by
  obtain ⟨X0, rfl⟩ := u8_of w0
  obtain ⟨X1, rfl⟩ := u8_of w1
  obtain ⟨X2, rfl⟩ := u8_of w2
  obtain ⟨X3, rfl⟩ := u8_of w3
  obtain ⟨X4, rfl⟩ := u8_of w4
  obtain ⟨X5, rfl⟩ := u8_of w5
  obtain ⟨X6, rfl⟩ := u8_of w6
  obtain ⟨X7, rfl⟩ := u8_of w7
  clear w0 w1 w2 w3 w4 w5 w6 w7 wn
  have HM := hide (fun w => mod_c (x := nn) (n := 1400) (by omega) (by omega) w)
  have hmv := modV_lt nn (n := 1400) (by omega)
  obtain ⟨K, hK⟩ : ∃ K : Nat, modV nn 1400 = (K : Int) := ⟨(modV nn 1400).toNat, by omega⟩
  rw [hK] at HM hmv
  have hK2 : K < 1400 := by omega
  clear hK hmv
  obtain ⟨i0, hi, hz0, hz1, hz2⟩ := info_parts infoB
  obtain ⟨W8, hW8⟩ : ∃ W8 : List UInt8, [X0, X1, X2, X3, X4, X5, X6, X7] = W8 := ⟨_, rfl⟩
  have hW8l : W8.length = 8 := by rw [← hW8]; rfl
  have hblk : (w.alloc (.cells #[.int .u8 (X0.toNat : Int), .int .u8 (X1.toNat : Int), .int .u8 (X2.toNat : Int), .int .u8 (X3.toNat : Int), .int .u8 (X4.toNat : Int), .int .u8 (X5.toNat : Int), .int .u8 (X6.toNat : Int), .int .u8 (X7.toNat : Int)] 36)).heap[w.heap.size]? = some (.cells (W8.map bv).toArray 36 (0, 0)) := by
    rw [heap_alloc_new, ← hW8]
    rfl
  replace hW8 := hide hW8
  replace hblk := hide hblk
  go_enter Try.func8, Try.ntmps8
  go_wp2_with fail
  refine (HM.out _).mono ?_
  rintro e w0 ⟨rfl, rfl⟩
  generalize hW : w.alloc (.cells #[.int .u8 (X0.toNat : Int), .int .u8 (X1.toNat : Int), .int .u8 (X2.toNat : Int), .int .u8 (X3.toNat : Int), .int .u8 (X4.toNat : Int), .int .u8 (X5.toNat : Int), .int .u8 (X6.toNat : Int), .int .u8 (X7.toNat : Int)] 36) = W at hblk ⊢
  have hBW : Below w.heap.size w W := by rw [← hW]; exact (Below.refl _ _).alloc (Nat.le_refl _) _
  have hsW : W.heap.size = w.heap.size + 1 := by rw [← hW, World.size_alloc]
  obtain ⟨g8, hg8⟩ : ∃ g8, w.heap.size = g8 := ⟨_, rfl⟩
  have hle1 : w.heap.size ≤ g8 := by omega
  rw [hg8] at hblk hsW hBW ⊢
  have hg8W : g8 < W.heap.size := by omega
  clear hW hg8 hsW
  have hnews8 : ∀ wx : World, Below W.heap.size W wx → ∀ j u, (W8.map bv)[j]? = some u → wx.cell? ((⟨g8, 0, none⟩ : Addr).add j) = some u := fun wx hb => by
    have h1 : wx.heap[g8]? = some (.cells (W8.map bv).toArray 36 (0, 0)) := (hb.block g8 hg8W).trans hblk.out
    have h2 := World.news_of_block h1
    simpa using h2
  replace hnews8 := hide hnews8
  go_wp2_with (at_builtin; refine wpList_append_lies _ rfl (.tmp 13) (.tmp 14) 22 rfl W.heap.size 5 i0 (.int .u8 0) 1 1 Try.underlying22 hi hz0 hz1 hz2 rfl (by omega) _ _ _ rfl (World.ownsRow_nil _ _ _ _) ⟨g8, 0, none⟩ 8 8 (W8.map bv) rfl (by rw [List.length_map, hW8l]) (hnews8.out _ (Below.refl _ _)) (bv_one _) (by omega) (by unfold maxLen; omega) (by omega) (Nat.le_refl _) _ rfl ?_; intro g cap w1 hown1 hgrow1 hat1 hlt1; replace hat1 := hide hat1)
  have hO1 : Hid (Owns w1 W.heap.size (.slice (some ⟨g, 0, none⟩) 8 cap) W8) := hide (by
    have := hown1
    rw [List.nil_append] at this
    unfold Owns
    rw [hW8l]
    simpa using this)
  have hB1 : Hid (Below W.heap.size W w1) := hide ((Below.refl _ _).grown hgrow1 (Nat.le_refl _) (fun k hk => by have h : (none : Option Nat) = some k := hk; cases h))
  have hcap8 : 8 ≤ cap := hown1.form_le (by omega)
  clear hown1 hgrow1 hat1 hlt1
  go_loopw [6, 7] (fun v6 v7 wr => ∃ (i q cq : Nat) (A : Option Addr) (o : List UInt8), v6 = .slice A q cq ∧ v7 = .int .i64 i ∧ i ≤ K ∧ q ≤ 8 + K + 3 ∧ q = 8 + 4 * i ∧ q ≤ cq ∧ Hid (q = o.length) ∧ Hid (Owns wr W.heap.size (.slice A q cq) o) ∧ Hid (Below W.heap.size W wr)) (fun _ v7 _ => K - (intOf v7).toNat)
  case atStart => exact ⟨0, 8, cap, some ⟨g, 0, none⟩, W8, rfl, rfl, by omega, by omega, by omega, hcap8, hide hW8l.symm, hO1, hB1⟩
  case round =>
    obtain ⟨i, q, cq, A, o, rfl, rfl, hiK, hqK, hqi, hqc, HQ, HO, HB⟩ := hrel
    have hsr := HB.out.size
    replace hqi := hide hqi
    by_cases hlt : q < 8 + K
    · have t1 : (q : Int) < 8 + (K : Int) := by omega
      have hqo := HQ.out
      have hol : o.length ≤ 2000 := by omega
      clear hqo hO1 hB1
      go_wp2_with (at_builtin; refine wpList_append_lies _ rfl (.tmp 23) (.tmp 36) 22 rfl W.heap.size 5 i0 (.int .u8 0) 1 1 Try.underlying22 hi hz0 hz1 hz2 rfl (by omega) _ _ _ rfl (HO.out.alloc _) ⟨wr.heap.size, 0, none⟩ 4 4 [_, _, _, _] rfl rfl (news_four _ _ _ _ _ _) (by intro u hu; simp at hu; rcases hu with rfl | rfl | rfl | rfl <;> rfl) (by omega) (by unfold maxLen; omega) (by omega) (by simp; omega) _ rfl ?_; intro g' cap' w3 hown3 hgrow3 hat3 hlt3; replace hat3 := hide hat3)
      go_roundw
      case rel =>
        have hqi' := hqi.out
        have hqo := HQ.out
        obtain ⟨O', hO1, hO2⟩ := owns_four (by first | exact u8_in _ | exact u8_mod _ | omega) (by first | exact u8_in _ | exact u8_mod _ | omega) (by first | exact u8_in _ | exact u8_mod _ | omega) (by first | exact u8_in _ | exact u8_mod _ | omega) hown3
        exact ⟨i + 1, _, cap', some ⟨g', 0, none⟩, O', rfl, by go_num, by omega, by omega, by omega, hown3.form_le (by omega), hide hO1.symm, hide hO2, hide (below_one (Nat.le_refl _) HB.out HO.out hgrow3)⟩
      case measure => have := hqi.out; simp [intOf]; omega
    · have t1 : 8 + (K : Int) ≤ (q : Int) := by omega
      have t2 : 8 + (K : Int) ≤ (cq : Int) := by omega
      have t3 : 0 ≤ 8 + (K : Int) := by omega
      have tn : (8 + (K : Int)).toNat = 8 + K := by omega
      obtain ⟨g2, cq2, hv, hg2, _⟩ := World.ownsRow.form HO.out (by have := HQ.out; omega)
      injection hv with hv1 hv2 hv3
      subst hv1
      clear hv2 hv3
      have hrow := (HO.out.row).take (8 + K)
      have hlen8 : (o.take (8 + K)).length = 8 + K := by rw [List.length_take]; have := HQ.out; omega
      have holds : ∀ j u, ((o.take (8 + K)).map bv)[j]? = some u → wr.cell? ((⟨g2, 0, none⟩ : Addr).add j) = some u := by
        obtain ⟨b', o', e, hc⟩ := (HO.out.row) (by intro e; have := HQ.out; rw [e] at this; simp at this; omega)
        injection e with e
        injection e with e1 e2
        subst e1
        subst e2
        exact news_row hc
      replace holds := hide holds
      replace hlen8 := hide hlen8
      clear hrow hO1 hB1
      have c1 : 8 + K + 8 ≤ maxLen := by unfold maxLen; omega
      have c2 : (8 + K + 8) * 1 ≤ 140737488355328 := by omega
      have c3 : ((o.take (8 + K)).map bv).length = (8 + K) * 1 := by rw [List.length_map, hlen8.out]; omega
      replace c1 := hide c1
      replace c2 := hide c2
      replace c3 := hide c3
      have wk : IntKind.i64.wrap (8 + (K : Int)) = 8 + (K : Int) := IntWalk.i64_in _ (by omega)
      go_wp2_with fail
      go_region_law (first | (refine step_append_grows rfl (.tmp 43) (.tmp 44) 22 rfl 5 i0 (.int .u8 0) 1 1 Try.underlying22 hi hz0 hz1 hz2 rfl (by omega) (some ⟨g2, 0, none⟩) (8 + K) (8 + K) ((o.take (8 + K)).map bv) (by simp [Act.eval, Act.put]) (fun h => by cases h) c3.out (fun b hb => by injection hb with hb; subst hb; exact holds.out) ⟨g8, 0, none⟩ 8 8 (W8.map bv) (by simp [Act.eval, Act.put]) (by rw [List.length_map, hW8l]) (hnews8.out _ HB.out.drew) (bv_one _) (Nat.lt_add_of_pos_right (by decide)) c1.out c2.out ?_; intro v5 w5 hown5 hgrow5) | fail)
      all_goals
        clear wk tn c1 c2 c3 t1 t2 t3
        obtain ⟨l, hl⟩ : ∃ l, o.take (8 + K) ++ W8 = l := ⟨_, rfl⟩
        have hll : l.length = 8 + K + 8 := by rw [← hl, List.length_append, hlen8.out, hW8l]
        have hO5 : Owns w5 wr.heap.size v5 l := by
          unfold Owns
          rw [hll, ← hl, List.map_append]
          exact hown5
        have hB5 : Below w.heap.size w w5 := (hBW.mono hle1).trans (((HB.out.drew).grown hgrow5 (by show W.heap.size ≤ wr.heap.size; omega) (fun k hk => by cases hk)).mono (by omega))
        replace hB5 := hide hB5
        obtain ⟨A0, c0, hv5, hc0, hr0⟩ := hO5.shape
        subst hv5
        obtain ⟨p, hp⟩ : ∃ p, l.length = p := ⟨_, rfl⟩
        have hp3 : p ≤ 3000 := by omega
        rw [hp] at hc0 ⊢
        replace hp := hide hp.symm
        replace hr0 := hide hr0
        replace hl := hide hl
        replace hlen8 := hlen8
        have hs5 := hB5.out.size
        clear hO5 hown5 hgrow5 hll hlt hiK hqK hqi hqc HQ HO HB holds hsr hnews8 hblk hg8W hBW hcap8 hlen8
        go_wp2_with fail
        refine (comp_c A0 p c0 hp hc0 (by omega) _ hr0).mono ?_
        rintro e w1 ⟨v1, rfl, HO1, hb1⟩
        obtain ⟨A1, c1, rfl, hc1, hr1⟩ := HO1.out.shape
        obtain ⟨q', hq'⟩ : ∃ q, (comp l 0 0).length = q := ⟨_, rfl⟩
        have hqn : q' ≤ 400000 := by have := comp_bound l; have := hp.out; omega
        rw [hq'] at hc1 ⊢
        replace hq' := hide hq'.symm
        replace hr1 := hide hr1
        have hs1 := hb1.size
        clear HO1
        go_wp2_with fail
        refine (dec_c A1 q' c1 hq' hc1 hqn _ hr1).mono ?_
        rintro e w2 ⟨v2, rfl, HO2, hb2⟩
        obtain ⟨e1, e2⟩ := trip_out l (by rw [← hp.out]; omega)
        rw [e1] at HO2
        rw [e2]
        clear e1 e2
        obtain ⟨A2, c2, rfl, hc2, hr2⟩ := HO2.out.shape
        rw [← hp.out] at hc2 ⊢
        replace hr2 := hide hr2
        have hs2 := hb2.size
        clear HO2
        go_wp2_with fail
        refine (eqb_c A2 p c2 A0 p c0 hp hp _ hr2 (hide (hr0.out.to (hb1.trans (hb2.mono hs1))))).mono ?_
        rintro e w3 ⟨rfl, rfl⟩
        go_wp2_with fail
        refine (rcomp_c A0 p c0 hp hc0 (by omega) _ (hide (hr0.out.to (hb1.trans (hb2.mono hs1))))).mono ?_
        rintro e w3 ⟨v3, rfl, HO3, hb3⟩
        obtain ⟨A3, c3, rfl, hc3, hr3⟩ := HO3.out.shape
        rw [← hq'.out] at hc3 ⊢
        replace hr3 := hide hr3
        have hs3 := hb3.size
        clear HO3
        go_wp2_with fail
        refine (eqb_c A1 q' c1 A3 q' c3 hq' hq' _ (hide (hr1.out.to (hb2.trans (hb3.mono hs2)))) hr3).mono ?_
        rintro e w4 ⟨rfl, rfl⟩
        go_wp2_with fail
        refine (awake9_c _).mono ?_
        rintro e w5 ⟨rfl, hb5⟩
        have hfin : Below w.heap.size w w5 := (((hB5.out.trans (hb1.mono (by omega))).trans (hb2.mono (by omega))).trans (hb3.mono (by omega))).trans (hb5.mono (by omega))
        replace hfin := hide hfin
        go_wp2
        go_ret
        exact ⟨rfl, hfin.out⟩
end Go.Proofs.Ytkdbgkjckoklcaa
