/- Chapter 9: runs, and chains of matches, walked. -/
import Derived.WalkKit
import Derived.KernelRfl
import Derived.RowKit3
import Derived.Deep.LoopGhost
import Derived.Deep.QuietTactic
import Derived.BigQuiet
import Derived.WideLaws
import Derived.Laws.Rows
import Derived.Below
import Derived.Deep.Draws
import Derived.Outline
import Derived.LoopN
import Derived.Handy
import Derived.Laws.Externs
import Derived.Laws.BitsAllLaws
import Derived.Laws.BitsLemmas
import Derived.Deep.DeepCutAuto
import Derived.Deep.CutBlock
import Derived.Deep.RegionHeld3
import Derived.Test.YtkdbgkjckoklcaaZ10
import Derived.Test.YtkdbgkjckoklcaaMD
import Derived.Maps.AppendAt
import Derived.Deep.AppendLies
import Derived.Deep.QuietTactic
import Derived.BigQuiet
import Derived.Laws.OwnMore
import Derived.OwnWalk
namespace Go.Proofs.Ytkdbgkjckoklcaa
open Go.RowKit
set_option linter.unusedVariables false
set_option linter.unusedSimpArgs false
theorem made_zero (n : Nat) : (madeCells (Value.int .u8 0).cells (n * 1)).toList = (List.replicate n (0 : UInt8)).map bv := by
  rw [Nat.mul_one]
  exact (toList_madeCells_one _ n).trans (by rw [List.map_replicate]; rfl)
theorem u8_of {x : Int} (wx : (Lit.int .u8 x).wf = true) : ∃ X : UInt8, (X.toNat : Int) = x := by
  have hx8 : 0 ≤ x ∧ x < 256 := by
    simp [Lit.wf, IntKind.min, IntKind.max] at wx
    simp [IntKind.bits, IntKind.signed] at wx
    omega
  exact ⟨UInt8.ofNat x.toNat, by rw [toNat_of (by omega)]; omega⟩
def runL (K i : Nat) (X : UInt8) : List UInt8 := List.replicate i X ++ List.replicate (K - i) 0
theorem runL_len {K i : Nat} (X : UInt8) (h : i ≤ K) : (runL K i X).length = K := by unfold runL; simp; omega
theorem runL_set {K i : Nat} (X : UInt8) (h : i < K) : (runL K i X).set i X = runL K (i + 1) X := by
  unfold runL
  rw [List.set_append_right _ _ (by simp), List.length_replicate, Nat.sub_self, show K - i = (K - (i + 1)) + 1 by omega, List.replicate_succ, List.set_cons_zero, List.replicate_succ', List.append_assoc]
  rfl
theorem owns_set {w : World} {B g n cap i : Nat} {o o' : List UInt8} {X : UInt8} (hn : o.length = n) (h : Owns w B (.slice (some ⟨g, 0, none⟩) n cap) o) (ho : o.set i X = o') : Owns (w.setCell ⟨g, i, none⟩ (bv X)) B (.slice (some ⟨g, 0, none⟩) n cap) o' := by
  subst hn
  subst ho
  have h2 : w.ownsRow B 5 1 (.slice (some ⟨g, 0, none⟩) o.length cap) o.length (o.map bv) := h
  unfold Owns
  rw [List.map_set, List.length_set]
  exact (h2.stored i (bv X)).1
theorem owns_free {w : World} {B g n cap : Nat} {o : List UInt8} (hn : o.length = n) (h : Owns w B (.slice (some ⟨g, 0, none⟩) n cap) o) (i : Nat) : w.frozen? ⟨g, i, none⟩ = false := by
  subst hn
  have h2 : w.ownsRow B 5 1 (.slice (some ⟨g, 0, none⟩) o.length cap) o.length (o.map bv) := h
  exact h2.frozenAt i
set_option maxRecDepth 20000 in
set_option maxHeartbeats 8000000 in
theorem LZRunLength_walk (x nn : Int) (wx : (Lit.int .u8 x).wf = true) (wn : (Lit.int .i64 nn).wf = true) (w : World) :
    Calls Try.prog 7 #[.int .u8 x, .int .i64 nn] w fun e w' => e = .returned (.bool true) ∧ Below w.heap.size w w' := by
  obtain ⟨X, rfl⟩ := u8_of wx
  clear wx wn
  obtain ⟨XN, hXN⟩ : ∃ XN, X.toNat = XN := ⟨_, rfl⟩
  rw [hXN]
  replace hXN := hide hXN
  have HM := hide (fun w => mod_c (x := nn) (n := 3000) (by omega) (by omega) w)
  have hmv := modV_lt nn (n := 3000) (by omega)
  obtain ⟨K, hK⟩ : ∃ K : Nat, modV nn 3000 = (K : Int) - 1 := ⟨(modV nn 3000).toNat + 1, by omega⟩
  rw [hK] at HM hmv
  have hK1 : 1 ≤ K := by omega
  have hK2 : K ≤ 3000 := by omega
  have hKK : 1 + ((K : Int) - 1) = (K : Int) := by omega
  clear hK hmv
  obtain ⟨i0, hi, hz0, hz1, hz2⟩ := info_parts infoB
  go_enter Try.func7, Try.ntmps7
  go_wp2_with fail
  refine (HM.out _).mono ?_
  rintro e w0 ⟨rfl, rfl⟩
  go_wp2_with (at_make; refine wpList_make_full _ rfl (.tmp 15) (.tmp 15) 22 rfl w.heap.size 5 i0 (.int .u8 0) 1 Try.underlying22 hi hz0 hz1 .i64 .i64 _ _ K rfl rfl rfl rfl (by rw [hz2]; omega) (by unfold maxLen; omega) (Nat.le_refl _) ?_; intro w1 hown1 hgrow1; rw [made_zero] at hown1; have HB1 := hide (show Below w.heap.size w w1 from (Below.refl _ _).grown hgrow1 (Nat.le_refl _) (fun k hk => by cases hk)); clear hgrow1)
  have HO1 : Hid (Owns w1 w.heap.size (.slice (some ⟨w.heap.size, 0, none⟩) K K) (runL K 0 X)) := hide (by
    unfold Owns runL
    simpa using hown1)
  clear hown1
  go_loopw [7] (fun v7 wr => ∃ i : Nat, v7 = .int .i64 i ∧ i ≤ K ∧ Hid (Owns wr w.heap.size (.slice (some ⟨w.heap.size, 0, none⟩) K K) (runL K i X)) ∧ Hid (Below w.heap.size w wr)) (fun v7 _ => K - (intOf v7).toNat)
  case atStart => exact ⟨0, rfl, by omega, HO1, HB1⟩
  case round =>
    obtain ⟨i, rfl, hiK, HO, HB⟩ := hrel
    by_cases hlt : i < K
    · have hcl := own_cell HO.out (runL_len X hiK).symm hlt
      have hfr := owns_free (runL_len X hiK) HO.out i
      have hst := hide (owns_set (runL_len X hiK) HO.out (runL_set X hlt))
      obtain ⟨z, hz⟩ : ∃ z : Nat, (gb (runL K i X) i).toNat = z := ⟨_, rfl⟩
      rw [hz] at hcl
      clear hz HO1 HB1
      go_wp2
      go_roundw
      case rel =>
        have hb := HB.out
        refine ⟨i + 1, by go_num, by omega, hide ?_, hide ?_⟩
        · have := hst.out
          rw [bv, hXN.out] at this
          exact this
        · exact hb.setCell (Nat.le_refl _) _
      case measure => simp [intOf]; omega
    · obtain rfl : i = K := by omega
      have hrl : runL i i X = List.replicate i X := by unfold runL; simp
      rw [hrl] at HO
      clear hrl HO1 HB1
      obtain ⟨hwl, hw1⟩ := comp_whole (x := X) hK1
      have hn : Hid (i = (List.replicate i X).length) := hide (by simp)
      have hsr := HB.out.size
      go_wp2_with fail
      refine (comp_c (l := List.replicate i X) (some ⟨w.heap.size, 0, none⟩) i i hn (Nat.le_refl _) (by omega) _ (hide HO.out.row)).mono ?_
      rintro e w2 ⟨v2, rfl, HO2, hb2⟩
      have hbB2 := HB.out.trans (hb2.mono hsr)
      replace hbB2 := hide hbB2
      obtain ⟨p, hp⟩ : ∃ p, comp (List.replicate i X) 0 0 = p := ⟨_, rfl⟩
      rw [hp] at hwl hw1 HO2
      obtain ⟨W, hW⟩ : ∃ W : Nat, (i - 1) / 131 = W := ⟨_, rfl⟩
      obtain ⟨R, hR⟩ : ∃ R : Nat, (i - 1) % 131 = R := ⟨_, rfl⟩
      have tW : ((i : Int) - 1).tdiv 131 = (W : Int) := by rw [Int.tdiv_eq_ediv_of_nonneg (by omega)]; omega
      have tR : ((i : Int) - 1).tmod 131 = (R : Int) := by rw [Int.tmod_eq_emod_of_nonneg (by omega)]; omega
      unfold wantLen at hwl
      rw [hW, hR] at hwl
      have hW100 : W ≤ 100 := by omega
      have hR131 : R < 131 := by omega
      have hp2 : 2 ≤ p.length := by rw [hwl]; omega
      obtain ⟨g, c2, rfl, hg, _⟩ := World.ownsRow.form HO2.out (by omega)
      have hx1 := own_cell HO2.out rfl (i := 1) (by omega)
      rw [hw1, hXN.out] at hx1
      obtain ⟨q, hq⟩ : ∃ q, p.length = q := ⟨_, rfl⟩
      have hq2 : (2 : Int) ≤ (q : Int) := by omega
      rw [hq] at hwl ⊢
      clear hw1 HO2 hp hg hq hW hR hp2 hn HO HB
      replace hb2 := hide hb2
      by_cases h4 : 4 ≤ R
      · rw [if_pos h4] at hwl
        subst hwl
        have t4 : (4 : Int) ≤ (R : Int) := by omega
        go_wp2_with fail
        refine (awake9_c _).mono ?_
        rintro e w9 ⟨rfl, hb9⟩
        go_wp2
        go_ret
        exact ⟨rfl, hbB2.out.trans (hb9.mono hbB2.out.size)⟩
      · rw [if_neg h4] at hwl
        have t4 : (R : Int) < 4 := by omega
        by_cases h5 : 0 < R ∧ 0 < W
        · rw [if_pos h5] at hwl
          subst hwl
          have t5 : (0 : Int) < (R : Int) := by omega
          have t6 : (0 : Int) < (W : Int) := by omega
          clear h5 h4
          go_wp2_with fail
          refine (awake9_c _).mono ?_
          rintro e w9 ⟨rfl, hb9⟩
          go_wp2
          go_ret
          exact ⟨rfl, hbB2.out.trans (hb9.mono hbB2.out.size)⟩
        · rw [if_neg h5] at hwl
          subst hwl
          by_cases h6 : 0 < R
          · have t5 : (0 : Int) < (R : Int) := by omega
            have t6 : (W : Int) ≤ 0 := by omega
            clear h5 h4 h6
            go_wp2_with fail
            refine (awake9_c _).mono ?_
            rintro e w9 ⟨rfl, hb9⟩
            go_wp2
            go_ret
            exact ⟨rfl, hbB2.out.trans (hb9.mono hbB2.out.size)⟩
          · have t5 : (R : Int) ≤ 0 := by omega
            clear h5 h4 h6
            go_wp2_with fail
            refine (awake9_c _).mono ?_
            rintro e w9 ⟨rfl, hb9⟩
            go_wp2
            go_ret
            exact ⟨rfl, hbB2.out.trans (hb9.mono hbB2.out.size)⟩
end Go.Proofs.Ytkdbgkjckoklcaa
