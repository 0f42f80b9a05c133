/- chapter 12: ParamsRanges, walked. -/
import Derived.WalkKit
import Derived.KernelRfl
import Derived.RowKit3
import Derived.Deep.LoopGhost
import Derived.Deep.QuietTactic
import Derived.BigQuiet
import Derived.WideLaws
import Derived.Laws.Rows
import Derived.Below
import Derived.Deep.Draws
import Derived.Outline
import Derived.LoopN
import Derived.Handy
import Derived.Laws.Externs
import Derived.Laws.BitsAllLaws
import Derived.Laws.BitsLemmas
import Derived.Deep.DeepCutAuto
import Derived.Deep.CutBlock
import Derived.Deep.RegionHeld3
import Derived.Test.YtbnpgecpanfpiaaPC
namespace Go.Proofs.Ytbnpgecpanfpiaa
open Go.RowKit
set_option linter.unusedVariables false
set_option linter.unusedSimpArgs false
def rlN (K : Nat) : Nat := [1, 0, 1, 1, 1, 0, 0, 0, 1, 1, 0, 16].getD K 0
def rmN (K : Nat) : Nat := [1099511627776, 1048576, 1048576, 18446744073709551615, 1099511627776, 18446744073709551615, 10000, 18446744073709551615, 1099511627776, 1048576, 65536, 16777216].getD K 0
def limN (A : Nat) : Nat → Int := fun j => lim A j
theorem rl_ok : ∀ K : Nat, K < 12 → setE Gen ((K : Int) + 1) (oneN (rlN K)) = 0 := by decide
theorem rm_ok : ∀ K : Nat, K < 12 → setE Gen ((K : Int) + 1) (oneN (rmN K)) = 0 := by decide
theorem rl_bad : ∀ K : Nat, K < 12 → 0 < rlN K → setE Gen ((K : Int) + 1) (oneN ((rlN K : Int) - 1)) = 15 := by decide
theorem rm_bad : ∀ K : Nat, K < 12 → ∀ E : Nat, E < 3 → setE Gen ((K : Int) + 1) (limN (rmN K + (1 + E))) = 15 := by decide
theorem rl_lt : ∀ K : Nat, K < 12 → rlN K < 17 := by decide
theorem rm_lt : ∀ K : Nat, K < 12 → rmN K < 18446744073709551616 := by decide
theorem rl_get (K : Nat) (h : K < 12) : (#[.int .u64 1, .int .u64 0, .int .u64 1, .int .u64 1, .int .u64 1, .int .u64 0, .int .u64 0, .int .u64 0, .int .u64 1, .int .u64 1, .int .u64 0, .int .u64 16] : Array Value)[K]? = some (.int .u64 (rlN K : Int)) := by
  obtain rfl | rfl | rfl | rfl | rfl | rfl | rfl | rfl | rfl | rfl | rfl | rfl : K = 0 ∨ K = 1 ∨ K = 2 ∨ K = 3 ∨ K = 4 ∨ K = 5 ∨ K = 6 ∨ K = 7 ∨ K = 8 ∨ K = 9 ∨ K = 10 ∨ K = 11 := by omega
  all_goals rfl
theorem rm_get (K : Nat) (h : K < 12) : (#[.int .u64 1099511627776, .int .u64 1048576, .int .u64 1048576, .int .u64 18446744073709551615, .int .u64 1099511627776, .int .u64 18446744073709551615, .int .u64 10000, .int .u64 18446744073709551615, .int .u64 1099511627776, .int .u64 1048576, .int .u64 65536, .int .u64 16777216] : Array Value)[K]? = some (.int .u64 (rmN K : Int)) := by
  obtain rfl | rfl | rfl | rfl | rfl | rfl | rfl | rfl | rfl | rfl | rfl | rfl : K = 0 ∨ K = 1 ∨ K = 2 ∨ K = 3 ∨ K = 4 ∨ K = 5 ∨ K = 6 ∨ K = 7 ∨ K = 8 ∨ K = 9 ∨ K = 10 ∨ K = 11 := by omega
  all_goals rfl
theorem limN_w (A : Nat) (j : Nat) : 0 ≤ limN A j ∧ limN A j < 18446744073709551616 := ⟨lim_nonneg A j, lim_lt A j⟩
/-- Set on the first parameters, accepted. -/
theorem set_yes {K x : Nat} (hK : K < 12) (hx : x < 18446744073709551616) (h : setE Gen ((K : Int) + 1) (oneN x) = 0) : ∃ R : Nat → Int, (∀ w, Calls Try.prog 18 #[.agg (pC Gen), .int .i64 ((K : Int) + 1), .agg #[.int .u64 ((x : Int)), .int .u64 (0), .int .u64 (0), .int .u64 (0)]] w fun e w' => e = .returned (.tuple #[.agg (pC R), .int .i64 0]) ∧ Below w.heap.size w w') ∧ ∀ w, Calls Try.prog 8 #[.agg (pC R), .int .i64 ((K : Int) + 1)] w fun e w' => e = .returned (.tuple #[.agg #[.int .u64 ((x : Int)), .int .u64 (0), .int .u64 (0), .int .u64 (0)], .int .i64 0]) ∧ Below w.heap.size w w' := by
  refine ⟨setP Gen ((K : Int) + 1) (oneN x), ?_, ?_⟩
  · have H := fun w => set_c Gen Gen_w (oneN x) (oneN_w (by omega) (by omega)) ((K : Int) + 1) w
    rw [h, setR_set h] at H
    exact H
  · have H := fun w => getP_c (setP Gen ((K : Int) + 1) (oneN x)) ((K : Int) + 1) w
    obtain ⟨s0, s1, s2, s3⟩ := get_same (P := Gen) (k := (K : Int) + 1) (n := oneN x) (by omega) (by omega) (fun _ => ⟨rfl, rfl, rfl⟩)
    have e1 : getE ((K : Int) + 1) = 0 := if_pos ⟨by omega, by omega⟩
    rw [s0, s1, s2, s3, e1] at H
    exact H
theorem set_no {K : Nat} {n : Nat → Int} (hn : ∀ j, 0 ≤ n j ∧ n j < 18446744073709551616) (h : setE Gen ((K : Int) + 1) n = 15) (w : World) : Calls Try.prog 18 #[.agg (pC Gen), .int .i64 ((K : Int) + 1), .agg #[.int .u64 (n 0), .int .u64 (n 1), .int .u64 (n 2), .int .u64 (n 3)]] w fun e w' => e = .returned (.tuple #[.agg (pC fun _ => 0), .int .i64 15]) ∧ Below w.heap.size w w' := by
  have H := set_c Gen Gen_w n hn ((K : Int) + 1) w
  rw [h, setR_zero (by rw [h]; decide)] at H
  exact H
theorem cutR {f : World → Prop} {W w : World} {b1 b2 : Nat} {c1 c2 : Array Value} {T1 T2 : TypeId} (hb : Below w.heap.size w W) (h : RBlk W b1 c1 T1) (z : RBlk W b2 c2 T2) (k : ∀ W', Hid (Below w.heap.size w W') → Hid (RBlk W' b1 c1 T1) → Hid (RBlk W' b2 c2 T2) → f W') : f W := k W hb h z
set_option maxRecDepth 20000 in
set_option maxHeartbeats 32000000 in
theorem Ranges_in (key edge : Int) (w : World) :
    Calls Try.prog 7 #[.int .i64 key, .int .i64 edge] w fun e w' => e = .returned (.bool true) ∧ Below w.heap.size w w' := by
  have HMK := fun w => mod_b (x := key) (n := 12) (by omega) (by omega) w
  have HME := fun w => mod_b (x := edge) (n := 3) (by omega) (by omega) w
  have k0 : 0 ≤ modV key 12 := Int.emod_nonneg _ (by omega)
  have k1 : modV key 12 < 12 := Int.emod_lt_of_pos _ (by omega)
  have e0 : 0 ≤ modV edge 3 := Int.emod_nonneg _ (by omega)
  have e1 : modV edge 3 < 3 := Int.emod_lt_of_pos _ (by omega)
  obtain ⟨K, eK⟩ := Int.eq_ofNat_of_zero_le k0
  obtain ⟨E, eE⟩ := Int.eq_ofNat_of_zero_le e0
  rw [eK] at HMK k0 k1
  rw [eE] at HME e0 e1
  clear eK eE
  replace HMK := hide HMK
  replace HME := hide HME
  have hK : K < 12 := by omega
  have hE : E < 3 := by omega
  have hrl := rl_lt K hK
  have hrm := rm_lt K hK
  obtain ⟨R1, HS1, HG1⟩ := set_yes hK (by omega) (rl_ok K hK)
  obtain ⟨R2, HS2, HG2⟩ := set_yes hK hrm (rm_ok K hK)
  have HS3 := hide (fun w => set_no (limN_w (rmN K + (1 + E))) (rm_bad K hK E hE) w)
  have HS4F := hide (fun h w => set_no (K := K) (n := oneN ((rlN K : Int) - 1)) (oneN_w (by have : 0 < rlN K := h; omega) (by omega)) (rl_bad K hK h) w)
  have HAdd := fun w => add_c (A := rmN K) (B := 1 + E) (show isU (rmN K) (rmN K : Int) 0 0 0 by constructor <;> omega) (show isU (1 + E) (1 + (E : Int)) 0 0 0 by constructor <;> omega) w
  have hsum : rmN K + (1 + E) < M256 := by unfold M256; omega
  rw [addV, addE, if_pos hsum, if_pos hsum] at HAdd
  replace HAdd := hide HAdd
  replace HS1 := hide HS1
  replace HS2 := hide HS2
  replace HG1 := hide HG1
  replace HG2 := hide HG2
  have hLA := rl_get K hK
  have hMA := rm_get K hK
  have wk : IntKind.i64.wrap ((K : Int) + 1) = (K : Int) + 1 := by rw [IntKind.wrap_i64]; omega
  have we : IntKind.u64.wrap (E : Int) = (E : Int) := by rw [IntKind.wrap_u64]; omega
  have we1 : IntKind.u64.wrap (1 + (E : Int)) = 1 + (E : Int) := by rw [IntKind.wrap_u64]; omega
  clear hsum
  have HLA := hide ((RBlk.new w #[.int .u64 1, .int .u64 0, .int .u64 1, .int .u64 1, .int .u64 1, .int .u64 0, .int .u64 0, .int .u64 0, .int .u64 1, .int .u64 1, .int .u64 0, .int .u64 16] 45).alloc (.cells #[.int .u64 1099511627776, .int .u64 1048576, .int .u64 1048576, .int .u64 18446744073709551615, .int .u64 1099511627776, .int .u64 18446744073709551615, .int .u64 10000, .int .u64 18446744073709551615, .int .u64 1099511627776, .int .u64 1048576, .int .u64 65536, .int .u64 16777216] 45))
  have HMA := hide (RBlk.new (w.alloc (.cells #[.int .u64 1, .int .u64 0, .int .u64 1, .int .u64 1, .int .u64 1, .int .u64 0, .int .u64 0, .int .u64 0, .int .u64 1, .int .u64 1, .int .u64 0, .int .u64 16] 45)) #[.int .u64 1099511627776, .int .u64 1048576, .int .u64 1048576, .int .u64 18446744073709551615, .int .u64 1099511627776, .int .u64 18446744073709551615, .int .u64 10000, .int .u64 18446744073709551615, .int .u64 1099511627776, .int .u64 1048576, .int .u64 65536, .int .u64 16777216] 45)
  simp only [World.size_alloc] at HMA
  have hB := hide (show Below w.heap.size w ((w.alloc (.cells #[.int .u64 1, .int .u64 0, .int .u64 1, .int .u64 1, .int .u64 1, .int .u64 0, .int .u64 0, .int .u64 0, .int .u64 1, .int .u64 1, .int .u64 0, .int .u64 16] 45)).alloc (.cells #[.int .u64 1099511627776, .int .u64 1048576, .int .u64 1048576, .int .u64 18446744073709551615, .int .u64 1099511627776, .int .u64 18446744073709551615, .int .u64 10000, .int .u64 18446744073709551615, .int .u64 1099511627776, .int .u64 1048576, .int .u64 65536, .int .u64 16777216] 45)) from ((Below.refl _ _).alloc (Nat.le_refl _) _).alloc (by simp) _)
  go_enter Try.func7, Try.ntmps7
  go_wp2_with fail
  refine (HMK.out _).mono ?_
  rintro e w3 ⟨rfl, hb⟩
  replace hB := hide (hB.out.trans (hb.mono hB.out.size))
  replace HLA := hide (HLA.out.below hb HLA.out.lt)
  replace HMA := hide (HMA.out.below hb HMA.out.lt)
  have q1 := HLA.out.lt
  have q2 := HMA.out.lt
  have q3 := hB.out.size
  clear hb HMK
  go_upto_region 4 with fail
  go_cut [8, 9] (fun s8 s9 wx => ∃ b8 b9 : Nat, s8 = .pointer (some ⟨b8, 0, none⟩) ∧ s9 = .pointer (some ⟨b9, 0, none⟩) ∧ Below w3.heap.size w3 wx ∧ RBlk wx b8 #[.int .u64 ((rlN K : Int)), .int .u64 (0), .int .u64 (0), .int .u64 (0)] 24 ∧ RBlk wx b9 #[.int .u64 ((rmN K : Int)), .int .u64 (0), .int .u64 (0), .int .u64 (0)] 24)
  case first =>
    have d1 := (HLA.out.cell K).trans hLA
    have d2 := (HMA.out.cell K).trans hMA
    go_region_held3 (fun w' => w'.cell? ⟨w.heap.size, K, none⟩ = some (.int .u64 (rlN K : Int)) ∧ w'.cell? ⟨w.heap.size + 1, K, none⟩ = some (.int .u64 (rmN K : Int))) (simp (maxDischargeDepth := 16) [go_sem, *, World.cell?_alloc_some, World.cell?_setCell_far]) (fail)
    · go_wp2_with fail
      go_meet
      refine ⟨_, _, rfl, rfl, (((Below.refl _ _).alloc (Nat.le_refl _) _).alloc (by simp) _).drew, ((RBlk.new w3 _ _).alloc _).drew, ?_⟩
      have z := (RBlk.new (w3.alloc (.cells #[.int .u64 ((rlN K : Int)), .int .u64 (0), .int .u64 (0), .int .u64 (0)] 24)) #[.int .u64 ((rmN K : Int)), .int .u64 (0), .int .u64 (0), .int .u64 (0)] 24).drew
      simp only [World.size_alloc] at z
      exact z
    · go_wp2_with fail
      go_meet
      refine ⟨_, _, rfl, rfl, (((Below.refl _ _).alloc (Nat.le_refl _) _).alloc (by simp) _).drew, ?_, ((RBlk.new w3 _ _).alloc _).drew⟩
      have z := (RBlk.new (w3.alloc (.cells #[.int .u64 ((rmN K : Int)), .int .u64 (0), .int .u64 (0), .int .u64 (0)] 24)) #[.int .u64 ((rlN K : Int)), .int .u64 (0), .int .u64 (0), .int .u64 (0)] 24).drew
      simp only [World.size_alloc] at z
      exact z
  case rest =>
    obtain ⟨b8, b9, rfl, rfl, hb, hz, hz9⟩ := hcut
    obtain ⟨w4, ew⟩ : ∃ W, W = wc := ⟨_, rfl⟩
    rw [← ew] at hb hz hz9 ⊢
    clear ew HMA hMA q2
    have HLo := hide hz
    have HHi := hide hz9
    replace hB := hide (hB.out.trans (hb.mono hB.out.size))
    replace HLA := hide (HLA.out.below hb HLA.out.lt)
    have q4 := HLA.out.lt
    have q5 := hz.lt
    have q6 := hz9.lt
    have q7 := hB.out.size
    clear hb hz hz9
    go_upto_region 5 with fail
    go_cut [10, 11] (fun s8 s9 wx => ∃ g : Nat, s8 = .pointer (some ⟨g, 0, none⟩) ∧ s9 = .int .i64 0 ∧ Below w4.heap.size w4 wx ∧ RBlk wx g (pC R1) 26)
    case first =>
      refine wp_region_held_drew (S := fun w' => Below w4.heap.size w4 w') (by kernel_rfl) ((Below.refl _ _).drew) (fun hHeld => ?_)
      (refine wpAnyH_take (i := 1) (v := .int .i64 K) rfl (by kernel_rfl) (by kernel_rfl) (by kernel_rfl) (fun _ _ _ h => h) (Or.inl ⟨by rfl, fun w _ => (by go_simp)⟩) (by assumption) ?_; (try simp only [Act.put, List.setIfInBounds_toArray, List.set_cons_zero, List.set_cons_succ, Array.toArray_toList, List.getElem_toArray, List.getElem_cons_succ, List.getElem_cons_zero]))
      (refine wpAnyH_take (i := 2) (v := .int .i64 ((K : Int) + 1)) rfl (by kernel_rfl) (by kernel_rfl) (by kernel_rfl) (fun _ _ _ h => h) (Or.inl ⟨by rfl, fun w _ => (by go_simp)⟩) (by assumption) ?_; (try simp only [Act.put, List.setIfInBounds_toArray, List.set_cons_zero, List.set_cons_succ, Array.toArray_toList, List.getElem_toArray, List.getElem_cons_succ, List.getElem_cons_zero]))
      (refine wpAnyH_take (i := 3) (v := _) rfl (by kernel_rfl) (by kernel_rfl) (by kernel_rfl) (fun _ _ _ h => h) (yieldsIf_load_mid (by rfl) 24 (.tmp 8) rfl (b8) 0 rfl (#[.int .u64 ((rlN K : Int)), .int .u64 (0), .int .u64 (0), .int .u64 (0)]).toList _ (fun w h => ((HLo.out).below h (HLo.out).lt).range) Try.underlying24 rfl (by rw [Array.length_toList]; exact sizeU4)) (by assumption) ?_; (try simp only [Act.put, List.setIfInBounds_toArray, List.set_cons_zero, List.set_cons_succ, Array.toArray_toList, List.getElem_toArray, List.getElem_cons_succ, List.getElem_cons_zero]))
      refine wpAnyH_ready (rs := [0, 8]) (by kernel_rfl) (by simp) ?_
      refine AllReadyH.cons rfl (fun Kc hK => ?_) (AllReadyH.cons rfl (fun Kc hK => ?_) (AllReadyH.nil))
      · rw [if_pos (by rfl)]
        go_simp
        (go_at_call 14; refine (genesis_c _).mono ?_; rintro e y0 ⟨rfl, hb_y0⟩)
        go_wp2_with fail
        refine hK.out _ _ (hHeld.trans (hb_y0.mono hHeld.size)) (fun hHeld => ?_)
        clear hK Kc
        (try simp only [Act.put, List.setIfInBounds_toArray, List.set_cons_zero, List.set_cons_succ, Array.toArray_toList, List.getElem_toArray, List.getElem_cons_succ, List.getElem_cons_zero])
        refine wpAnyH_ready (rs := [4, 8]) (by kernel_rfl) (by simp) ?_
        refine AllReadyH.cons rfl (fun Kc hK => ?_) (AllReadyH.cons rfl (fun Kc hK => ?_) (AllReadyH.nil))
        · rw [if_pos (by rfl)]
          go_simp
          (go_at_call 18; refine (HS1.out _).mono ?_; rintro e y4 ⟨rfl, hb_y4⟩)
          go_wp2_with fail
          refine hK.out _ _ (hHeld.trans (hb_y4.mono hHeld.size)) (fun hHeld => ?_)
          clear hK Kc
          (try simp only [Act.put, List.setIfInBounds_toArray, List.set_cons_zero, List.set_cons_succ, Array.toArray_toList, List.getElem_toArray, List.getElem_cons_succ, List.getElem_cons_zero])
          (refine wpAnyH_take (i := 5) (v := .tuple #[.agg (pC R1), .int .i64 0]) rfl (by kernel_rfl) (by kernel_rfl) (by kernel_rfl) (fun _ _ _ h => h) (Or.inl ⟨by rfl, fun w _ => (by go_simp)⟩) (by assumption) ?_; (try simp only [Act.put, List.setIfInBounds_toArray, List.set_cons_zero, List.set_cons_succ, Array.toArray_toList, List.getElem_toArray, List.getElem_cons_succ, List.getElem_cons_zero]))
          (refine wpAnyH_take (i := 6) (v := .agg (pC R1)) rfl (by kernel_rfl) (by kernel_rfl) (by kernel_rfl) (fun _ _ _ h => h) (Or.inl ⟨by rfl, fun w _ => (by go_simp)⟩) (by assumption) ?_; (try simp only [Act.put, List.setIfInBounds_toArray, List.set_cons_zero, List.set_cons_succ, Array.toArray_toList, List.getElem_toArray, List.getElem_cons_succ, List.getElem_cons_zero]))
          (refine wpAnyH_take (i := 7) (v := .int .i64 0) rfl (by kernel_rfl) (by kernel_rfl) (by kernel_rfl) (fun _ _ _ h => h) (Or.inl ⟨by rfl, fun w _ => (by go_simp)⟩) (by assumption) ?_; (try simp only [Act.put, List.setIfInBounds_toArray, List.set_cons_zero, List.set_cons_succ, Array.toArray_toList, List.getElem_toArray, List.getElem_cons_succ, List.getElem_cons_zero]))
          refine wpAnyH_ready (rs := [8]) (by kernel_rfl) (by simp) ?_
          refine AllReadyH.cons rfl (fun Kc hK => ?_) (AllReadyH.nil)
          · rw [if_pos (by rfl)]
            go_simp
            have z3 := RBlk.new (y4) (pC fun _ => 0) 26
            have hg3 := hHeld.size
            refine hK.out _ _ (hHeld.alloc hHeld.size _) (fun hHeld => ?_)
            clear hK Kc
            (try simp only [Act.put, List.setIfInBounds_toArray, List.set_cons_zero, List.set_cons_succ, Array.toArray_toList, List.getElem_toArray, List.getElem_cons_succ, List.getElem_cons_zero])
            refine wpAnyH_ready (rs := [9]) (by kernel_rfl) (by simp) ?_
            refine AllReadyH.cons rfl (fun Kc hK => ?_) (AllReadyH.nil)
            · rw [if_pos (by rfl)]
              refine wp_store_mid 26 _ _ rfl (y4.heap.size) 0 (pC R1) rfl rfl (z3).there sizeP (pC_one _) ?_
              have z4 := (z3).put (ds := (pC R1)) rfl
              refine hK.out _ _ (below_setCells hg3 _ _ _ hHeld) (fun hHeld => ?_)
              clear hK Kc
              (try simp only [Act.put, List.setIfInBounds_toArray, List.set_cons_zero, List.set_cons_succ, Array.toArray_toList, List.getElem_toArray, List.getElem_cons_succ, List.getElem_cons_zero])
              (refine wpAnyH_take (i := 10) (v := .int .i64 0) rfl (by kernel_rfl) (by kernel_rfl) (by kernel_rfl) (fun _ _ _ h => h) (Or.inl ⟨by rfl, fun w _ => (by go_simp)⟩) (by assumption) ?_; (try simp only [Act.put, List.setIfInBounds_toArray, List.set_cons_zero, List.set_cons_succ, Array.toArray_toList, List.getElem_toArray, List.getElem_cons_succ, List.getElem_cons_zero]))
              refine wpAnyH_done (by kernel_rfl) ?_ _
              go_wp2_with fail
              go_meet
              exact ⟨_, rfl, rfl, hHeld, z4⟩
        · rw [if_pos (by rfl)]
          go_simp
          have z2 := RBlk.new (y0) (pC fun _ => 0) 26
          have hg2 := hHeld.size
          refine hK.out _ _ (hHeld.alloc hHeld.size _) (fun hHeld => ?_)
          clear hK Kc
          (try simp only [Act.put, List.setIfInBounds_toArray, List.set_cons_zero, List.set_cons_succ, Array.toArray_toList, List.getElem_toArray, List.getElem_cons_succ, List.getElem_cons_zero])
          refine wpAnyH_ready (rs := [4]) (by kernel_rfl) (by simp) ?_
          refine AllReadyH.cons rfl (fun Kc hK => ?_) (AllReadyH.nil)
          · rw [if_pos (by rfl)]
            go_simp
            (go_at_call 18; refine (HS1.out _).mono ?_; rintro e y4 ⟨rfl, hb_y4⟩)
            go_wp2_with fail
            have z3 := (z2).below hb_y4 (z2).lt
            refine hK.out _ _ (hHeld.trans (hb_y4.mono hHeld.size)) (fun hHeld => ?_)
            clear hK Kc
            (try simp only [Act.put, List.setIfInBounds_toArray, List.set_cons_zero, List.set_cons_succ, Array.toArray_toList, List.getElem_toArray, List.getElem_cons_succ, List.getElem_cons_zero])
            (refine wpAnyH_take (i := 5) (v := .tuple #[.agg (pC R1), .int .i64 0]) rfl (by kernel_rfl) (by kernel_rfl) (by kernel_rfl) (fun _ _ _ h => h) (Or.inl ⟨by rfl, fun w _ => (by go_simp)⟩) (by assumption) ?_; (try simp only [Act.put, List.setIfInBounds_toArray, List.set_cons_zero, List.set_cons_succ, Array.toArray_toList, List.getElem_toArray, List.getElem_cons_succ, List.getElem_cons_zero]))
            (refine wpAnyH_take (i := 6) (v := .agg (pC R1)) rfl (by kernel_rfl) (by kernel_rfl) (by kernel_rfl) (fun _ _ _ h => h) (Or.inl ⟨by rfl, fun w _ => (by go_simp)⟩) (by assumption) ?_; (try simp only [Act.put, List.setIfInBounds_toArray, List.set_cons_zero, List.set_cons_succ, Array.toArray_toList, List.getElem_toArray, List.getElem_cons_succ, List.getElem_cons_zero]))
            (refine wpAnyH_take (i := 7) (v := .int .i64 0) rfl (by kernel_rfl) (by kernel_rfl) (by kernel_rfl) (fun _ _ _ h => h) (Or.inl ⟨by rfl, fun w _ => (by go_simp)⟩) (by assumption) ?_; (try simp only [Act.put, List.setIfInBounds_toArray, List.set_cons_zero, List.set_cons_succ, Array.toArray_toList, List.getElem_toArray, List.getElem_cons_succ, List.getElem_cons_zero]))
            refine wpAnyH_ready (rs := [9]) (by kernel_rfl) (by simp) ?_
            refine AllReadyH.cons rfl (fun Kc hK => ?_) (AllReadyH.nil)
            · rw [if_pos (by rfl)]
              refine wp_store_mid 26 _ _ rfl (y0.heap.size) 0 (pC R1) rfl rfl (z3).there sizeP (pC_one _) ?_
              have z4 := (z3).put (ds := (pC R1)) rfl
              refine hK.out _ _ (below_setCells hg2 _ _ _ hHeld) (fun hHeld => ?_)
              clear hK Kc
              (try simp only [Act.put, List.setIfInBounds_toArray, List.set_cons_zero, List.set_cons_succ, Array.toArray_toList, List.getElem_toArray, List.getElem_cons_succ, List.getElem_cons_zero])
              (refine wpAnyH_take (i := 10) (v := .int .i64 0) rfl (by kernel_rfl) (by kernel_rfl) (by kernel_rfl) (fun _ _ _ h => h) (Or.inl ⟨by rfl, fun w _ => (by go_simp)⟩) (by assumption) ?_; (try simp only [Act.put, List.setIfInBounds_toArray, List.set_cons_zero, List.set_cons_succ, Array.toArray_toList, List.getElem_toArray, List.getElem_cons_succ, List.getElem_cons_zero]))
              refine wpAnyH_done (by kernel_rfl) ?_ _
              go_wp2_with fail
              go_meet
              exact ⟨_, rfl, rfl, hHeld, z4⟩
      · rw [if_pos (by rfl)]
        go_simp
        have z1 := RBlk.new (w4.drew) (pC fun _ => 0) 26
        have hg1 := hHeld.size
        refine hK.out _ _ (hHeld.alloc hHeld.size _) (fun hHeld => ?_)
        clear hK Kc
        (try simp only [Act.put, List.setIfInBounds_toArray, List.set_cons_zero, List.set_cons_succ, Array.toArray_toList, List.getElem_toArray, List.getElem_cons_succ, List.getElem_cons_zero])
        refine wpAnyH_ready (rs := [0]) (by kernel_rfl) (by simp) ?_
        refine AllReadyH.cons rfl (fun Kc hK => ?_) (AllReadyH.nil)
        · rw [if_pos (by rfl)]
          go_simp
          (go_at_call 14; refine (genesis_c _).mono ?_; rintro e y0 ⟨rfl, hb_y0⟩)
          go_wp2_with fail
          have z2 := (z1).below hb_y0 (z1).lt
          refine hK.out _ _ (hHeld.trans (hb_y0.mono hHeld.size)) (fun hHeld => ?_)
          clear hK Kc
          (try simp only [Act.put, List.setIfInBounds_toArray, List.set_cons_zero, List.set_cons_succ, Array.toArray_toList, List.getElem_toArray, List.getElem_cons_succ, List.getElem_cons_zero])
          refine wpAnyH_ready (rs := [4]) (by kernel_rfl) (by simp) ?_
          refine AllReadyH.cons rfl (fun Kc hK => ?_) (AllReadyH.nil)
          · rw [if_pos (by rfl)]
            go_simp
            (go_at_call 18; refine (HS1.out _).mono ?_; rintro e y4 ⟨rfl, hb_y4⟩)
            go_wp2_with fail
            have z3 := (z2).below hb_y4 (z2).lt
            refine hK.out _ _ (hHeld.trans (hb_y4.mono hHeld.size)) (fun hHeld => ?_)
            clear hK Kc
            (try simp only [Act.put, List.setIfInBounds_toArray, List.set_cons_zero, List.set_cons_succ, Array.toArray_toList, List.getElem_toArray, List.getElem_cons_succ, List.getElem_cons_zero])
            (refine wpAnyH_take (i := 5) (v := .tuple #[.agg (pC R1), .int .i64 0]) rfl (by kernel_rfl) (by kernel_rfl) (by kernel_rfl) (fun _ _ _ h => h) (Or.inl ⟨by rfl, fun w _ => (by go_simp)⟩) (by assumption) ?_; (try simp only [Act.put, List.setIfInBounds_toArray, List.set_cons_zero, List.set_cons_succ, Array.toArray_toList, List.getElem_toArray, List.getElem_cons_succ, List.getElem_cons_zero]))
            (refine wpAnyH_take (i := 6) (v := .agg (pC R1)) rfl (by kernel_rfl) (by kernel_rfl) (by kernel_rfl) (fun _ _ _ h => h) (Or.inl ⟨by rfl, fun w _ => (by go_simp)⟩) (by assumption) ?_; (try simp only [Act.put, List.setIfInBounds_toArray, List.set_cons_zero, List.set_cons_succ, Array.toArray_toList, List.getElem_toArray, List.getElem_cons_succ, List.getElem_cons_zero]))
            (refine wpAnyH_take (i := 7) (v := .int .i64 0) rfl (by kernel_rfl) (by kernel_rfl) (by kernel_rfl) (fun _ _ _ h => h) (Or.inl ⟨by rfl, fun w _ => (by go_simp)⟩) (by assumption) ?_; (try simp only [Act.put, List.setIfInBounds_toArray, List.set_cons_zero, List.set_cons_succ, Array.toArray_toList, List.getElem_toArray, List.getElem_cons_succ, List.getElem_cons_zero]))
            refine wpAnyH_ready (rs := [9]) (by kernel_rfl) (by simp) ?_
            refine AllReadyH.cons rfl (fun Kc hK => ?_) (AllReadyH.nil)
            · rw [if_pos (by rfl)]
              refine wp_store_mid 26 _ _ rfl (w4.drew.heap.size) 0 (pC R1) rfl rfl (z3).there sizeP (pC_one _) ?_
              have z4 := (z3).put (ds := (pC R1)) rfl
              refine hK.out _ _ (below_setCells hg1 _ _ _ hHeld) (fun hHeld => ?_)
              clear hK Kc
              (try simp only [Act.put, List.setIfInBounds_toArray, List.set_cons_zero, List.set_cons_succ, Array.toArray_toList, List.getElem_toArray, List.getElem_cons_succ, List.getElem_cons_zero])
              (refine wpAnyH_take (i := 10) (v := .int .i64 0) rfl (by kernel_rfl) (by kernel_rfl) (by kernel_rfl) (fun _ _ _ h => h) (Or.inl ⟨by rfl, fun w _ => (by go_simp)⟩) (by assumption) ?_; (try simp only [Act.put, List.setIfInBounds_toArray, List.set_cons_zero, List.set_cons_succ, Array.toArray_toList, List.getElem_toArray, List.getElem_cons_succ, List.getElem_cons_zero]))
              refine wpAnyH_done (by kernel_rfl) ?_ _
              go_wp2_with fail
              go_meet
              exact ⟨_, rfl, rfl, hHeld, z4⟩
    case rest =>
      obtain ⟨gA, rfl, rfl, hb, hz⟩ := hcut
      obtain ⟨w5, ew⟩ : ∃ W, W = wc := ⟨_, rfl⟩
      rw [← ew] at hb hz ⊢
      clear ew
      have HA := hide hz
      replace hB := hide (hB.out.trans (hb.mono hB.out.size))
      replace HLA := hide (HLA.out.below hb HLA.out.lt)
      replace HLo := hide (HLo.out.below hb HLo.out.lt)
      replace HHi := hide (HHi.out.below hb HHi.out.lt)
      have hl_HLA_w5 := HLA.out.lt
      have hl_HLo_w5 := HLo.out.lt
      have hl_HHi_w5 := HHi.out.lt
      have hl_HA_w5 := HA.out.lt
      have hsz_w5 := hB.out.size
      clear hb hz
      go_upto_region 6 with fail
      go_cut [12, 13] (fun s8 s9 wx => ∃ g : Nat, s8 = .pointer (some ⟨g, 0, none⟩) ∧ s9 = .int .i64 0 ∧ Below w5.heap.size w5 wx ∧ RBlk wx g (pC R2) 26)
      case first =>
        refine wp_region_held_drew (S := fun w' => Below w5.heap.size w5 w') (by kernel_rfl) ((Below.refl _ _).drew) (fun hHeld => ?_)
        (refine wpAnyH_take (i := 1) (v := .int .i64 K) rfl (by kernel_rfl) (by kernel_rfl) (by kernel_rfl) (fun _ _ _ h => h) (Or.inl ⟨by rfl, fun w _ => (by go_simp)⟩) (by assumption) ?_; (try simp only [Act.put, List.setIfInBounds_toArray, List.set_cons_zero, List.set_cons_succ, Array.toArray_toList, List.getElem_toArray, List.getElem_cons_succ, List.getElem_cons_zero]))
        (refine wpAnyH_take (i := 2) (v := .int .i64 ((K : Int) + 1)) rfl (by kernel_rfl) (by kernel_rfl) (by kernel_rfl) (fun _ _ _ h => h) (Or.inl ⟨by rfl, fun w _ => (by go_simp)⟩) (by assumption) ?_; (try simp only [Act.put, List.setIfInBounds_toArray, List.set_cons_zero, List.set_cons_succ, Array.toArray_toList, List.getElem_toArray, List.getElem_cons_succ, List.getElem_cons_zero]))
        (refine wpAnyH_take (i := 3) (v := _) rfl (by kernel_rfl) (by kernel_rfl) (by kernel_rfl) (fun _ _ _ h => h) (yieldsIf_load_mid (by rfl) 24 (.tmp 9) rfl (b9) 0 rfl (#[.int .u64 ((rmN K : Int)), .int .u64 (0), .int .u64 (0), .int .u64 (0)]).toList _ (fun w h => ((HHi.out).below h (HHi.out).lt).range) Try.underlying24 rfl (by rw [Array.length_toList]; exact sizeU4)) (by assumption) ?_; (try simp only [Act.put, List.setIfInBounds_toArray, List.set_cons_zero, List.set_cons_succ, Array.toArray_toList, List.getElem_toArray, List.getElem_cons_succ, List.getElem_cons_zero]))
        refine wpAnyH_ready (rs := [0, 8]) (by kernel_rfl) (by simp) ?_
        refine AllReadyH.cons rfl (fun Kc hK => ?_) (AllReadyH.cons rfl (fun Kc hK => ?_) (AllReadyH.nil))
        · rw [if_pos (by rfl)]
          go_simp
          (go_at_call 14; refine (genesis_c _).mono ?_; rintro e y0 ⟨rfl, hb_y0⟩)
          go_wp2_with fail
          refine hK.out _ _ (hHeld.trans (hb_y0.mono hHeld.size)) (fun hHeld => ?_)
          clear hK Kc
          (try simp only [Act.put, List.setIfInBounds_toArray, List.set_cons_zero, List.set_cons_succ, Array.toArray_toList, List.getElem_toArray, List.getElem_cons_succ, List.getElem_cons_zero])
          refine wpAnyH_ready (rs := [4, 8]) (by kernel_rfl) (by simp) ?_
          refine AllReadyH.cons rfl (fun Kc hK => ?_) (AllReadyH.cons rfl (fun Kc hK => ?_) (AllReadyH.nil))
          · rw [if_pos (by rfl)]
            go_simp
            (go_at_call 18; refine (HS2.out _).mono ?_; rintro e y4 ⟨rfl, hb_y4⟩)
            go_wp2_with fail
            refine hK.out _ _ (hHeld.trans (hb_y4.mono hHeld.size)) (fun hHeld => ?_)
            clear hK Kc
            (try simp only [Act.put, List.setIfInBounds_toArray, List.set_cons_zero, List.set_cons_succ, Array.toArray_toList, List.getElem_toArray, List.getElem_cons_succ, List.getElem_cons_zero])
            (refine wpAnyH_take (i := 5) (v := .tuple #[.agg (pC R2), .int .i64 0]) rfl (by kernel_rfl) (by kernel_rfl) (by kernel_rfl) (fun _ _ _ h => h) (Or.inl ⟨by rfl, fun w _ => (by go_simp)⟩) (by assumption) ?_; (try simp only [Act.put, List.setIfInBounds_toArray, List.set_cons_zero, List.set_cons_succ, Array.toArray_toList, List.getElem_toArray, List.getElem_cons_succ, List.getElem_cons_zero]))
            (refine wpAnyH_take (i := 6) (v := .agg (pC R2)) rfl (by kernel_rfl) (by kernel_rfl) (by kernel_rfl) (fun _ _ _ h => h) (Or.inl ⟨by rfl, fun w _ => (by go_simp)⟩) (by assumption) ?_; (try simp only [Act.put, List.setIfInBounds_toArray, List.set_cons_zero, List.set_cons_succ, Array.toArray_toList, List.getElem_toArray, List.getElem_cons_succ, List.getElem_cons_zero]))
            (refine wpAnyH_take (i := 7) (v := .int .i64 0) rfl (by kernel_rfl) (by kernel_rfl) (by kernel_rfl) (fun _ _ _ h => h) (Or.inl ⟨by rfl, fun w _ => (by go_simp)⟩) (by assumption) ?_; (try simp only [Act.put, List.setIfInBounds_toArray, List.set_cons_zero, List.set_cons_succ, Array.toArray_toList, List.getElem_toArray, List.getElem_cons_succ, List.getElem_cons_zero]))
            refine wpAnyH_ready (rs := [8]) (by kernel_rfl) (by simp) ?_
            refine AllReadyH.cons rfl (fun Kc hK => ?_) (AllReadyH.nil)
            · rw [if_pos (by rfl)]
              go_simp
              have z3 := RBlk.new (y4) (pC fun _ => 0) 26
              have hg3 := hHeld.size
              refine hK.out _ _ (hHeld.alloc hHeld.size _) (fun hHeld => ?_)
              clear hK Kc
              (try simp only [Act.put, List.setIfInBounds_toArray, List.set_cons_zero, List.set_cons_succ, Array.toArray_toList, List.getElem_toArray, List.getElem_cons_succ, List.getElem_cons_zero])
              refine wpAnyH_ready (rs := [9]) (by kernel_rfl) (by simp) ?_
              refine AllReadyH.cons rfl (fun Kc hK => ?_) (AllReadyH.nil)
              · rw [if_pos (by rfl)]
                refine wp_store_mid 26 _ _ rfl (y4.heap.size) 0 (pC R2) rfl rfl (z3).there sizeP (pC_one _) ?_
                have z4 := (z3).put (ds := (pC R2)) rfl
                refine hK.out _ _ (below_setCells hg3 _ _ _ hHeld) (fun hHeld => ?_)
                clear hK Kc
                (try simp only [Act.put, List.setIfInBounds_toArray, List.set_cons_zero, List.set_cons_succ, Array.toArray_toList, List.getElem_toArray, List.getElem_cons_succ, List.getElem_cons_zero])
                (refine wpAnyH_take (i := 10) (v := .int .i64 0) rfl (by kernel_rfl) (by kernel_rfl) (by kernel_rfl) (fun _ _ _ h => h) (Or.inl ⟨by rfl, fun w _ => (by go_simp)⟩) (by assumption) ?_; (try simp only [Act.put, List.setIfInBounds_toArray, List.set_cons_zero, List.set_cons_succ, Array.toArray_toList, List.getElem_toArray, List.getElem_cons_succ, List.getElem_cons_zero]))
                refine wpAnyH_done (by kernel_rfl) ?_ _
                go_wp2_with fail
                go_meet
                exact ⟨_, rfl, rfl, hHeld, z4⟩
          · rw [if_pos (by rfl)]
            go_simp
            have z2 := RBlk.new (y0) (pC fun _ => 0) 26
            have hg2 := hHeld.size
            refine hK.out _ _ (hHeld.alloc hHeld.size _) (fun hHeld => ?_)
            clear hK Kc
            (try simp only [Act.put, List.setIfInBounds_toArray, List.set_cons_zero, List.set_cons_succ, Array.toArray_toList, List.getElem_toArray, List.getElem_cons_succ, List.getElem_cons_zero])
            refine wpAnyH_ready (rs := [4]) (by kernel_rfl) (by simp) ?_
            refine AllReadyH.cons rfl (fun Kc hK => ?_) (AllReadyH.nil)
            · rw [if_pos (by rfl)]
              go_simp
              (go_at_call 18; refine (HS2.out _).mono ?_; rintro e y4 ⟨rfl, hb_y4⟩)
              go_wp2_with fail
              have z3 := (z2).below hb_y4 (z2).lt
              refine hK.out _ _ (hHeld.trans (hb_y4.mono hHeld.size)) (fun hHeld => ?_)
              clear hK Kc
              (try simp only [Act.put, List.setIfInBounds_toArray, List.set_cons_zero, List.set_cons_succ, Array.toArray_toList, List.getElem_toArray, List.getElem_cons_succ, List.getElem_cons_zero])
              (refine wpAnyH_take (i := 5) (v := .tuple #[.agg (pC R2), .int .i64 0]) rfl (by kernel_rfl) (by kernel_rfl) (by kernel_rfl) (fun _ _ _ h => h) (Or.inl ⟨by rfl, fun w _ => (by go_simp)⟩) (by assumption) ?_; (try simp only [Act.put, List.setIfInBounds_toArray, List.set_cons_zero, List.set_cons_succ, Array.toArray_toList, List.getElem_toArray, List.getElem_cons_succ, List.getElem_cons_zero]))
              (refine wpAnyH_take (i := 6) (v := .agg (pC R2)) rfl (by kernel_rfl) (by kernel_rfl) (by kernel_rfl) (fun _ _ _ h => h) (Or.inl ⟨by rfl, fun w _ => (by go_simp)⟩) (by assumption) ?_; (try simp only [Act.put, List.setIfInBounds_toArray, List.set_cons_zero, List.set_cons_succ, Array.toArray_toList, List.getElem_toArray, List.getElem_cons_succ, List.getElem_cons_zero]))
              (refine wpAnyH_take (i := 7) (v := .int .i64 0) rfl (by kernel_rfl) (by kernel_rfl) (by kernel_rfl) (fun _ _ _ h => h) (Or.inl ⟨by rfl, fun w _ => (by go_simp)⟩) (by assumption) ?_; (try simp only [Act.put, List.setIfInBounds_toArray, List.set_cons_zero, List.set_cons_succ, Array.toArray_toList, List.getElem_toArray, List.getElem_cons_succ, List.getElem_cons_zero]))
              refine wpAnyH_ready (rs := [9]) (by kernel_rfl) (by simp) ?_
              refine AllReadyH.cons rfl (fun Kc hK => ?_) (AllReadyH.nil)
              · rw [if_pos (by rfl)]
                refine wp_store_mid 26 _ _ rfl (y0.heap.size) 0 (pC R2) rfl rfl (z3).there sizeP (pC_one _) ?_
                have z4 := (z3).put (ds := (pC R2)) rfl
                refine hK.out _ _ (below_setCells hg2 _ _ _ hHeld) (fun hHeld => ?_)
                clear hK Kc
                (try simp only [Act.put, List.setIfInBounds_toArray, List.set_cons_zero, List.set_cons_succ, Array.toArray_toList, List.getElem_toArray, List.getElem_cons_succ, List.getElem_cons_zero])
                (refine wpAnyH_take (i := 10) (v := .int .i64 0) rfl (by kernel_rfl) (by kernel_rfl) (by kernel_rfl) (fun _ _ _ h => h) (Or.inl ⟨by rfl, fun w _ => (by go_simp)⟩) (by assumption) ?_; (try simp only [Act.put, List.setIfInBounds_toArray, List.set_cons_zero, List.set_cons_succ, Array.toArray_toList, List.getElem_toArray, List.getElem_cons_succ, List.getElem_cons_zero]))
                refine wpAnyH_done (by kernel_rfl) ?_ _
                go_wp2_with fail
                go_meet
                exact ⟨_, rfl, rfl, hHeld, z4⟩
        · rw [if_pos (by rfl)]
          go_simp
          have z1 := RBlk.new (w5.drew) (pC fun _ => 0) 26
          have hg1 := hHeld.size
          refine hK.out _ _ (hHeld.alloc hHeld.size _) (fun hHeld => ?_)
          clear hK Kc
          (try simp only [Act.put, List.setIfInBounds_toArray, List.set_cons_zero, List.set_cons_succ, Array.toArray_toList, List.getElem_toArray, List.getElem_cons_succ, List.getElem_cons_zero])
          refine wpAnyH_ready (rs := [0]) (by kernel_rfl) (by simp) ?_
          refine AllReadyH.cons rfl (fun Kc hK => ?_) (AllReadyH.nil)
          · rw [if_pos (by rfl)]
            go_simp
            (go_at_call 14; refine (genesis_c _).mono ?_; rintro e y0 ⟨rfl, hb_y0⟩)
            go_wp2_with fail
            have z2 := (z1).below hb_y0 (z1).lt
            refine hK.out _ _ (hHeld.trans (hb_y0.mono hHeld.size)) (fun hHeld => ?_)
            clear hK Kc
            (try simp only [Act.put, List.setIfInBounds_toArray, List.set_cons_zero, List.set_cons_succ, Array.toArray_toList, List.getElem_toArray, List.getElem_cons_succ, List.getElem_cons_zero])
            refine wpAnyH_ready (rs := [4]) (by kernel_rfl) (by simp) ?_
            refine AllReadyH.cons rfl (fun Kc hK => ?_) (AllReadyH.nil)
            · rw [if_pos (by rfl)]
              go_simp
              (go_at_call 18; refine (HS2.out _).mono ?_; rintro e y4 ⟨rfl, hb_y4⟩)
              go_wp2_with fail
              have z3 := (z2).below hb_y4 (z2).lt
              refine hK.out _ _ (hHeld.trans (hb_y4.mono hHeld.size)) (fun hHeld => ?_)
              clear hK Kc
              (try simp only [Act.put, List.setIfInBounds_toArray, List.set_cons_zero, List.set_cons_succ, Array.toArray_toList, List.getElem_toArray, List.getElem_cons_succ, List.getElem_cons_zero])
              (refine wpAnyH_take (i := 5) (v := .tuple #[.agg (pC R2), .int .i64 0]) rfl (by kernel_rfl) (by kernel_rfl) (by kernel_rfl) (fun _ _ _ h => h) (Or.inl ⟨by rfl, fun w _ => (by go_simp)⟩) (by assumption) ?_; (try simp only [Act.put, List.setIfInBounds_toArray, List.set_cons_zero, List.set_cons_succ, Array.toArray_toList, List.getElem_toArray, List.getElem_cons_succ, List.getElem_cons_zero]))
              (refine wpAnyH_take (i := 6) (v := .agg (pC R2)) rfl (by kernel_rfl) (by kernel_rfl) (by kernel_rfl) (fun _ _ _ h => h) (Or.inl ⟨by rfl, fun w _ => (by go_simp)⟩) (by assumption) ?_; (try simp only [Act.put, List.setIfInBounds_toArray, List.set_cons_zero, List.set_cons_succ, Array.toArray_toList, List.getElem_toArray, List.getElem_cons_succ, List.getElem_cons_zero]))
              (refine wpAnyH_take (i := 7) (v := .int .i64 0) rfl (by kernel_rfl) (by kernel_rfl) (by kernel_rfl) (fun _ _ _ h => h) (Or.inl ⟨by rfl, fun w _ => (by go_simp)⟩) (by assumption) ?_; (try simp only [Act.put, List.setIfInBounds_toArray, List.set_cons_zero, List.set_cons_succ, Array.toArray_toList, List.getElem_toArray, List.getElem_cons_succ, List.getElem_cons_zero]))
              refine wpAnyH_ready (rs := [9]) (by kernel_rfl) (by simp) ?_
              refine AllReadyH.cons rfl (fun Kc hK => ?_) (AllReadyH.nil)
              · rw [if_pos (by rfl)]
                refine wp_store_mid 26 _ _ rfl (w5.drew.heap.size) 0 (pC R2) rfl rfl (z3).there sizeP (pC_one _) ?_
                have z4 := (z3).put (ds := (pC R2)) rfl
                refine hK.out _ _ (below_setCells hg1 _ _ _ hHeld) (fun hHeld => ?_)
                clear hK Kc
                (try simp only [Act.put, List.setIfInBounds_toArray, List.set_cons_zero, List.set_cons_succ, Array.toArray_toList, List.getElem_toArray, List.getElem_cons_succ, List.getElem_cons_zero])
                (refine wpAnyH_take (i := 10) (v := .int .i64 0) rfl (by kernel_rfl) (by kernel_rfl) (by kernel_rfl) (fun _ _ _ h => h) (Or.inl ⟨by rfl, fun w _ => (by go_simp)⟩) (by assumption) ?_; (try simp only [Act.put, List.setIfInBounds_toArray, List.set_cons_zero, List.set_cons_succ, Array.toArray_toList, List.getElem_toArray, List.getElem_cons_succ, List.getElem_cons_zero]))
                refine wpAnyH_done (by kernel_rfl) ?_ _
                go_wp2_with fail
                go_meet
                exact ⟨_, rfl, rfl, hHeld, z4⟩
      case rest =>
        obtain ⟨gC, rfl, rfl, hb, hz⟩ := hcut
        obtain ⟨w6, ew⟩ : ∃ W, W = wc := ⟨_, rfl⟩
        rw [← ew] at hb hz ⊢
        clear ew
        have HC := hide hz
        replace hB := hide (hB.out.trans (hb.mono hB.out.size))
        replace HLA := hide (HLA.out.below hb HLA.out.lt)
        replace HLo := hide (HLo.out.below hb HLo.out.lt)
        replace HHi := hide (HHi.out.below hb HHi.out.lt)
        replace HA := hide (HA.out.below hb HA.out.lt)
        have hl_HLA_w6 := HLA.out.lt
        have hl_HLo_w6 := HLo.out.lt
        have hl_HHi_w6 := HHi.out.lt
        have hl_HA_w6 := HA.out.lt
        have hl_HC_w6 := HC.out.lt
        have hsz_w6 := hB.out.size
        clear hb hz
        go_wp2_with (first | (refine wpList_load_rowR (by rfl) (.tmp 10) rfl (g := gA) rfl HA.out Try.underlying26 rfl sizeP ?_))
        refine (HG1.out _).mono ?_
        rintro e w7 ⟨rfl, hb⟩
        replace hB := hide (hB.out.trans (hb.mono hB.out.size))
        replace HLA := hide (HLA.out.below hb HLA.out.lt)
        have hlHLA7 := HLA.out.lt
        replace HLo := hide (HLo.out.below hb HLo.out.lt)
        have hlHLo7 := HLo.out.lt
        replace HHi := hide (HHi.out.below hb HHi.out.lt)
        have hlHHi7 := HHi.out.lt
        replace HA := hide (HA.out.below hb HA.out.lt)
        have hlHA7 := HA.out.lt
        replace HC := hide (HC.out.below hb HC.out.lt)
        have hlHC7 := HC.out.lt
        have hsz7 := hB.out.size
        clear hb
        have HZ := hide (RBlk.new w7 #[.int .u64 (0), .int .u64 (0), .int .u64 (0), .int .u64 (0)] 24)
        go_wp2_with (first | (refine wpList_store_rowR (by rfl) (.tmp 14) (.tmp 57) rfl rfl rfl HZ.out rfl sizeU4 (one4 _ _ _ _) ?_; intro w8 HX1 hS; replace HX1 := hide HX1; replace hB := hide (hS.1 w.heap.size w (by omega) (hB.out.alloc (by omega) _)); replace HLA := hide (hS.row (HLA.out.alloc _) (by omega)); replace HLo := hide (hS.row (HLo.out.alloc _) (by omega)); replace HHi := hide (hS.row (HHi.out.alloc _) (by omega)); replace HC := hide (hS.row (HC.out.alloc _) (by omega)); clear hS HZ) | (refine wpList_load_rowR (by rfl) (.tmp 12) rfl (g := gC) rfl HC.out Try.underlying26 rfl sizeP ?_))
        refine (HG2.out _).mono ?_
        rintro e w9 ⟨rfl, hb⟩
        replace hB := hide (hB.out.trans (hb.mono hB.out.size))
        replace HLA := hide (HLA.out.below hb HLA.out.lt)
        have hlHLA9 := HLA.out.lt
        replace HLo := hide (HLo.out.below hb HLo.out.lt)
        have hlHLo9 := HLo.out.lt
        replace HHi := hide (HHi.out.below hb HHi.out.lt)
        have hlHHi9 := HHi.out.lt
        replace HX1 := hide (HX1.out.below hb HX1.out.lt)
        have hlHX19 := HX1.out.lt
        have hsz9 := hB.out.size
        clear hb
        have HZ := hide (RBlk.new w9 #[.int .u64 (0), .int .u64 (0), .int .u64 (0), .int .u64 (0)] 24)
        go_upto_region 11 with (first | (refine wpList_store_rowR (by rfl) (.tmp 16) (.tmp 64) rfl rfl rfl HZ.out rfl sizeU4 (one4 _ _ _ _) ?_; intro w10 HX2 hS; replace HX2 := hide HX2; replace hB := hide (hS.1 w.heap.size w (by omega) (hB.out.alloc (by omega) _)); replace HLA := hide (hS.row (HLA.out.alloc _) (by omega)); replace HLo := hide (hS.row (HLo.out.alloc _) (by omega)); replace HHi := hide (hS.row (HHi.out.alloc _) (by omega)); replace HX1 := hide (hS.row (HX1.out.alloc _) (by omega)); clear hS HZ) | (refine wpList_load_rowR (by rfl) (.tmp 14) rfl (g := w7.heap.size) rfl HX1.out Try.underlying24 rfl sizeU4 ?_) | (refine wpList_load_rowR (by rfl) (.tmp 8) rfl (g := b8) rfl HLo.out Try.underlying24 rfl sizeU4 ?_) | (refine wpList_load_rowR (by rfl) (.tmp 16) rfl (g := w9.heap.size) rfl HX2.out Try.underlying24 rfl sizeU4 ?_) | (refine wpList_load_rowR (by rfl) (.tmp 9) rfl (g := b9) rfl HHi.out Try.underlying24 rfl sizeU4 ?_))
        go_cut [18] (fun s18 wx => ∃ g : Nat, s18 = .pointer (some ⟨g, 0, none⟩) ∧ Below w10.heap.size w10 wx ∧ RBlk wx g #[.int .u64 (lim (rmN K + (1 + E)) 0), .int .u64 (lim (rmN K + (1 + E)) 1), .int .u64 (lim (rmN K + (1 + E)) 2), .int .u64 (lim (rmN K + (1 + E)) 3)] 24)
        case first =>
          refine wp_region_held_drew (S := fun w' => Below w10.heap.size w10 w') (by kernel_rfl) ((Below.refl _ _).drew) (fun hHeld => ?_)
          (refine wpAnyH_take (i := 0) (v := _) rfl (by kernel_rfl) (by kernel_rfl) (by kernel_rfl) (fun _ _ _ h => h) (yieldsIf_load_mid (by rfl) 24 (.tmp 9) rfl (b9) 0 rfl (#[.int .u64 ((rmN K : Int)), .int .u64 (0), .int .u64 (0), .int .u64 (0)]).toList _ (fun w h => ((HHi.out).below h (HHi.out).lt).range) Try.underlying24 rfl (by rw [Array.length_toList]; exact sizeU4)) (by assumption) ?_; (try simp only [Act.put, List.setIfInBounds_toArray, List.set_cons_zero, List.set_cons_succ, Array.toArray_toList, List.getElem_toArray, List.getElem_cons_succ, List.getElem_cons_zero]))
          (refine wpAnyH_take (i := 1) (v := .int .i64 edge) rfl (by kernel_rfl) (by kernel_rfl) (by kernel_rfl) (fun _ _ _ h => h) (Or.inl ⟨by rfl, fun w _ => (by go_simp)⟩) (by assumption) ?_; (try simp only [Act.put, List.setIfInBounds_toArray, List.set_cons_zero, List.set_cons_succ, Array.toArray_toList, List.getElem_toArray, List.getElem_cons_succ, List.getElem_cons_zero]))
          refine wpAnyH_ready (rs := [2, 10]) (by kernel_rfl) (by simp) ?_
          refine AllReadyH.cons rfl (fun Kc hK => ?_) (AllReadyH.cons rfl (fun Kc hK => ?_) (AllReadyH.nil))
          · rw [if_pos (by rfl)]
            go_simp
            (go_at_call 17; refine (HME.out _).mono ?_; rintro e y2 ⟨rfl, hb_y2⟩)
            go_wp2_with fail
            refine hK.out _ _ (hHeld.trans (hb_y2.mono hHeld.size)) (fun hHeld => ?_)
            clear hK Kc
            (try simp only [Act.put, List.setIfInBounds_toArray, List.set_cons_zero, List.set_cons_succ, Array.toArray_toList, List.getElem_toArray, List.getElem_cons_succ, List.getElem_cons_zero])
            (refine wpAnyH_take (i := 3) (v := .int .u64 E) rfl (by kernel_rfl) (by kernel_rfl) (by kernel_rfl) (fun _ _ _ h => h) (Or.inl ⟨by rfl, fun w _ => (by go_simp)⟩) (by assumption) ?_; (try simp only [Act.put, List.setIfInBounds_toArray, List.set_cons_zero, List.set_cons_succ, Array.toArray_toList, List.getElem_toArray, List.getElem_cons_succ, List.getElem_cons_zero]))
            (refine wpAnyH_take (i := 4) (v := .int .u64 (1 + E)) rfl (by kernel_rfl) (by kernel_rfl) (by kernel_rfl) (fun _ _ _ h => h) (Or.inl ⟨by rfl, fun w _ => (by go_simp)⟩) (by assumption) ?_; (try simp only [Act.put, List.setIfInBounds_toArray, List.set_cons_zero, List.set_cons_succ, Array.toArray_toList, List.getElem_toArray, List.getElem_cons_succ, List.getElem_cons_zero]))
            (refine wpAnyH_take (i := 5) (v := .agg #[.int .u64 (1 + E), .int .u64 (0), .int .u64 (0), .int .u64 (0)]) rfl (by kernel_rfl) (by kernel_rfl) (by kernel_rfl) (fun _ _ _ h => h) (Or.inl ⟨by rfl, fun w _ => (by go_simp)⟩) (by assumption) ?_; (try simp only [Act.put, List.setIfInBounds_toArray, List.set_cons_zero, List.set_cons_succ, Array.toArray_toList, List.getElem_toArray, List.getElem_cons_succ, List.getElem_cons_zero]))
            refine wpAnyH_ready (rs := [6, 10]) (by kernel_rfl) (by simp) ?_
            refine AllReadyH.cons rfl (fun Kc hK => ?_) (AllReadyH.cons rfl (fun Kc hK => ?_) (AllReadyH.nil))
            · rw [if_pos (by rfl)]
              go_simp
              (go_at_call 21; refine (HAdd.out _).mono ?_; rintro e y6 ⟨rfl, hb_y6⟩)
              go_wp2_with fail
              refine hK.out _ _ (hHeld.trans (hb_y6.mono hHeld.size)) (fun hHeld => ?_)
              clear hK Kc
              (try simp only [Act.put, List.setIfInBounds_toArray, List.set_cons_zero, List.set_cons_succ, Array.toArray_toList, List.getElem_toArray, List.getElem_cons_succ, List.getElem_cons_zero])
              (refine wpAnyH_take (i := 7) (v := .tuple #[.agg #[.int .u64 (lim (rmN K + (1 + E)) 0), .int .u64 (lim (rmN K + (1 + E)) 1), .int .u64 (lim (rmN K + (1 + E)) 2), .int .u64 (lim (rmN K + (1 + E)) 3)], .int .i64 0]) rfl (by kernel_rfl) (by kernel_rfl) (by kernel_rfl) (fun _ _ _ h => h) (Or.inl ⟨by rfl, fun w _ => (by go_simp)⟩) (by assumption) ?_; (try simp only [Act.put, List.setIfInBounds_toArray, List.set_cons_zero, List.set_cons_succ, Array.toArray_toList, List.getElem_toArray, List.getElem_cons_succ, List.getElem_cons_zero]))
              (refine wpAnyH_take (i := 8) (v := .agg #[.int .u64 (lim (rmN K + (1 + E)) 0), .int .u64 (lim (rmN K + (1 + E)) 1), .int .u64 (lim (rmN K + (1 + E)) 2), .int .u64 (lim (rmN K + (1 + E)) 3)]) rfl (by kernel_rfl) (by kernel_rfl) (by kernel_rfl) (fun _ _ _ h => h) (Or.inl ⟨by rfl, fun w _ => (by go_simp)⟩) (by assumption) ?_; (try simp only [Act.put, List.setIfInBounds_toArray, List.set_cons_zero, List.set_cons_succ, Array.toArray_toList, List.getElem_toArray, List.getElem_cons_succ, List.getElem_cons_zero]))
              (refine wpAnyH_take (i := 9) (v := .int .i64 0) rfl (by kernel_rfl) (by kernel_rfl) (by kernel_rfl) (fun _ _ _ h => h) (Or.inl ⟨by rfl, fun w _ => (by go_simp)⟩) (by assumption) ?_; (try simp only [Act.put, List.setIfInBounds_toArray, List.set_cons_zero, List.set_cons_succ, Array.toArray_toList, List.getElem_toArray, List.getElem_cons_succ, List.getElem_cons_zero]))
              refine wpAnyH_ready (rs := [10]) (by kernel_rfl) (by simp) ?_
              refine AllReadyH.cons rfl (fun Kc hK => ?_) (AllReadyH.nil)
              · rw [if_pos (by rfl)]
                go_simp
                have z3 := RBlk.new (y6) #[.int .u64 (0), .int .u64 (0), .int .u64 (0), .int .u64 (0)] 24
                have hg3 := hHeld.size
                refine hK.out _ _ (hHeld.alloc hHeld.size _) (fun hHeld => ?_)
                clear hK Kc
                (try simp only [Act.put, List.setIfInBounds_toArray, List.set_cons_zero, List.set_cons_succ, Array.toArray_toList, List.getElem_toArray, List.getElem_cons_succ, List.getElem_cons_zero])
                refine wpAnyH_ready (rs := [11]) (by kernel_rfl) (by simp) ?_
                refine AllReadyH.cons rfl (fun Kc hK => ?_) (AllReadyH.nil)
                · rw [if_pos (by rfl)]
                  refine wp_store_mid 24 _ _ rfl (y6.heap.size) 0 #[.int .u64 (lim (rmN K + (1 + E)) 0), .int .u64 (lim (rmN K + (1 + E)) 1), .int .u64 (lim (rmN K + (1 + E)) 2), .int .u64 (lim (rmN K + (1 + E)) 3)] rfl rfl (z3).there sizeU4 (one4 _ _ _ _) ?_
                  have z4 := (z3).put (ds := #[.int .u64 (lim (rmN K + (1 + E)) 0), .int .u64 (lim (rmN K + (1 + E)) 1), .int .u64 (lim (rmN K + (1 + E)) 2), .int .u64 (lim (rmN K + (1 + E)) 3)]) rfl
                  refine hK.out _ _ (below_setCells hg3 _ _ _ hHeld) (fun hHeld => ?_)
                  clear hK Kc
                  (try simp only [Act.put, List.setIfInBounds_toArray, List.set_cons_zero, List.set_cons_succ, Array.toArray_toList, List.getElem_toArray, List.getElem_cons_succ, List.getElem_cons_zero])
                  (refine wpAnyH_take (i := 12) (v := .int .i64 0) rfl (by kernel_rfl) (by kernel_rfl) (by kernel_rfl) (fun _ _ _ h => h) (Or.inl ⟨by rfl, fun w _ => (by go_simp)⟩) (by assumption) ?_; (try simp only [Act.put, List.setIfInBounds_toArray, List.set_cons_zero, List.set_cons_succ, Array.toArray_toList, List.getElem_toArray, List.getElem_cons_succ, List.getElem_cons_zero]))
                  refine wpAnyH_done (by kernel_rfl) ?_ _
                  go_wp2_with fail
                  go_meet
                  exact ⟨_, rfl, hHeld, z4⟩
            · rw [if_pos (by rfl)]
              go_simp
              have z2 := RBlk.new (y2) #[.int .u64 (0), .int .u64 (0), .int .u64 (0), .int .u64 (0)] 24
              have hg2 := hHeld.size
              refine hK.out _ _ (hHeld.alloc hHeld.size _) (fun hHeld => ?_)
              clear hK Kc
              (try simp only [Act.put, List.setIfInBounds_toArray, List.set_cons_zero, List.set_cons_succ, Array.toArray_toList, List.getElem_toArray, List.getElem_cons_succ, List.getElem_cons_zero])
              refine wpAnyH_ready (rs := [6]) (by kernel_rfl) (by simp) ?_
              refine AllReadyH.cons rfl (fun Kc hK => ?_) (AllReadyH.nil)
              · rw [if_pos (by rfl)]
                go_simp
                (go_at_call 21; refine (HAdd.out _).mono ?_; rintro e y6 ⟨rfl, hb_y6⟩)
                go_wp2_with fail
                have z3 := (z2).below hb_y6 (z2).lt
                refine hK.out _ _ (hHeld.trans (hb_y6.mono hHeld.size)) (fun hHeld => ?_)
                clear hK Kc
                (try simp only [Act.put, List.setIfInBounds_toArray, List.set_cons_zero, List.set_cons_succ, Array.toArray_toList, List.getElem_toArray, List.getElem_cons_succ, List.getElem_cons_zero])
                (refine wpAnyH_take (i := 7) (v := .tuple #[.agg #[.int .u64 (lim (rmN K + (1 + E)) 0), .int .u64 (lim (rmN K + (1 + E)) 1), .int .u64 (lim (rmN K + (1 + E)) 2), .int .u64 (lim (rmN K + (1 + E)) 3)], .int .i64 0]) rfl (by kernel_rfl) (by kernel_rfl) (by kernel_rfl) (fun _ _ _ h => h) (Or.inl ⟨by rfl, fun w _ => (by go_simp)⟩) (by assumption) ?_; (try simp only [Act.put, List.setIfInBounds_toArray, List.set_cons_zero, List.set_cons_succ, Array.toArray_toList, List.getElem_toArray, List.getElem_cons_succ, List.getElem_cons_zero]))
                (refine wpAnyH_take (i := 8) (v := .agg #[.int .u64 (lim (rmN K + (1 + E)) 0), .int .u64 (lim (rmN K + (1 + E)) 1), .int .u64 (lim (rmN K + (1 + E)) 2), .int .u64 (lim (rmN K + (1 + E)) 3)]) rfl (by kernel_rfl) (by kernel_rfl) (by kernel_rfl) (fun _ _ _ h => h) (Or.inl ⟨by rfl, fun w _ => (by go_simp)⟩) (by assumption) ?_; (try simp only [Act.put, List.setIfInBounds_toArray, List.set_cons_zero, List.set_cons_succ, Array.toArray_toList, List.getElem_toArray, List.getElem_cons_succ, List.getElem_cons_zero]))
                (refine wpAnyH_take (i := 9) (v := .int .i64 0) rfl (by kernel_rfl) (by kernel_rfl) (by kernel_rfl) (fun _ _ _ h => h) (Or.inl ⟨by rfl, fun w _ => (by go_simp)⟩) (by assumption) ?_; (try simp only [Act.put, List.setIfInBounds_toArray, List.set_cons_zero, List.set_cons_succ, Array.toArray_toList, List.getElem_toArray, List.getElem_cons_succ, List.getElem_cons_zero]))
                refine wpAnyH_ready (rs := [11]) (by kernel_rfl) (by simp) ?_
                refine AllReadyH.cons rfl (fun Kc hK => ?_) (AllReadyH.nil)
                · rw [if_pos (by rfl)]
                  refine wp_store_mid 24 _ _ rfl (y2.heap.size) 0 #[.int .u64 (lim (rmN K + (1 + E)) 0), .int .u64 (lim (rmN K + (1 + E)) 1), .int .u64 (lim (rmN K + (1 + E)) 2), .int .u64 (lim (rmN K + (1 + E)) 3)] rfl rfl (z3).there sizeU4 (one4 _ _ _ _) ?_
                  have z4 := (z3).put (ds := #[.int .u64 (lim (rmN K + (1 + E)) 0), .int .u64 (lim (rmN K + (1 + E)) 1), .int .u64 (lim (rmN K + (1 + E)) 2), .int .u64 (lim (rmN K + (1 + E)) 3)]) rfl
                  refine hK.out _ _ (below_setCells hg2 _ _ _ hHeld) (fun hHeld => ?_)
                  clear hK Kc
                  (try simp only [Act.put, List.setIfInBounds_toArray, List.set_cons_zero, List.set_cons_succ, Array.toArray_toList, List.getElem_toArray, List.getElem_cons_succ, List.getElem_cons_zero])
                  (refine wpAnyH_take (i := 12) (v := .int .i64 0) rfl (by kernel_rfl) (by kernel_rfl) (by kernel_rfl) (fun _ _ _ h => h) (Or.inl ⟨by rfl, fun w _ => (by go_simp)⟩) (by assumption) ?_; (try simp only [Act.put, List.setIfInBounds_toArray, List.set_cons_zero, List.set_cons_succ, Array.toArray_toList, List.getElem_toArray, List.getElem_cons_succ, List.getElem_cons_zero]))
                  refine wpAnyH_done (by kernel_rfl) ?_ _
                  go_wp2_with fail
                  go_meet
                  exact ⟨_, rfl, hHeld, z4⟩
          · rw [if_pos (by rfl)]
            go_simp
            have z1 := RBlk.new (w10.drew) #[.int .u64 (0), .int .u64 (0), .int .u64 (0), .int .u64 (0)] 24
            have hg1 := hHeld.size
            refine hK.out _ _ (hHeld.alloc hHeld.size _) (fun hHeld => ?_)
            clear hK Kc
            (try simp only [Act.put, List.setIfInBounds_toArray, List.set_cons_zero, List.set_cons_succ, Array.toArray_toList, List.getElem_toArray, List.getElem_cons_succ, List.getElem_cons_zero])
            refine wpAnyH_ready (rs := [2]) (by kernel_rfl) (by simp) ?_
            refine AllReadyH.cons rfl (fun Kc hK => ?_) (AllReadyH.nil)
            · rw [if_pos (by rfl)]
              go_simp
              (go_at_call 17; refine (HME.out _).mono ?_; rintro e y2 ⟨rfl, hb_y2⟩)
              go_wp2_with fail
              have z2 := (z1).below hb_y2 (z1).lt
              refine hK.out _ _ (hHeld.trans (hb_y2.mono hHeld.size)) (fun hHeld => ?_)
              clear hK Kc
              (try simp only [Act.put, List.setIfInBounds_toArray, List.set_cons_zero, List.set_cons_succ, Array.toArray_toList, List.getElem_toArray, List.getElem_cons_succ, List.getElem_cons_zero])
              (refine wpAnyH_take (i := 3) (v := .int .u64 E) rfl (by kernel_rfl) (by kernel_rfl) (by kernel_rfl) (fun _ _ _ h => h) (Or.inl ⟨by rfl, fun w _ => (by go_simp)⟩) (by assumption) ?_; (try simp only [Act.put, List.setIfInBounds_toArray, List.set_cons_zero, List.set_cons_succ, Array.toArray_toList, List.getElem_toArray, List.getElem_cons_succ, List.getElem_cons_zero]))
              (refine wpAnyH_take (i := 4) (v := .int .u64 (1 + E)) rfl (by kernel_rfl) (by kernel_rfl) (by kernel_rfl) (fun _ _ _ h => h) (Or.inl ⟨by rfl, fun w _ => (by go_simp)⟩) (by assumption) ?_; (try simp only [Act.put, List.setIfInBounds_toArray, List.set_cons_zero, List.set_cons_succ, Array.toArray_toList, List.getElem_toArray, List.getElem_cons_succ, List.getElem_cons_zero]))
              (refine wpAnyH_take (i := 5) (v := .agg #[.int .u64 (1 + E), .int .u64 (0), .int .u64 (0), .int .u64 (0)]) rfl (by kernel_rfl) (by kernel_rfl) (by kernel_rfl) (fun _ _ _ h => h) (Or.inl ⟨by rfl, fun w _ => (by go_simp)⟩) (by assumption) ?_; (try simp only [Act.put, List.setIfInBounds_toArray, List.set_cons_zero, List.set_cons_succ, Array.toArray_toList, List.getElem_toArray, List.getElem_cons_succ, List.getElem_cons_zero]))
              refine wpAnyH_ready (rs := [6]) (by kernel_rfl) (by simp) ?_
              refine AllReadyH.cons rfl (fun Kc hK => ?_) (AllReadyH.nil)
              · rw [if_pos (by rfl)]
                go_simp
                (go_at_call 21; refine (HAdd.out _).mono ?_; rintro e y6 ⟨rfl, hb_y6⟩)
                go_wp2_with fail
                have z3 := (z2).below hb_y6 (z2).lt
                refine hK.out _ _ (hHeld.trans (hb_y6.mono hHeld.size)) (fun hHeld => ?_)
                clear hK Kc
                (try simp only [Act.put, List.setIfInBounds_toArray, List.set_cons_zero, List.set_cons_succ, Array.toArray_toList, List.getElem_toArray, List.getElem_cons_succ, List.getElem_cons_zero])
                (refine wpAnyH_take (i := 7) (v := .tuple #[.agg #[.int .u64 (lim (rmN K + (1 + E)) 0), .int .u64 (lim (rmN K + (1 + E)) 1), .int .u64 (lim (rmN K + (1 + E)) 2), .int .u64 (lim (rmN K + (1 + E)) 3)], .int .i64 0]) rfl (by kernel_rfl) (by kernel_rfl) (by kernel_rfl) (fun _ _ _ h => h) (Or.inl ⟨by rfl, fun w _ => (by go_simp)⟩) (by assumption) ?_; (try simp only [Act.put, List.setIfInBounds_toArray, List.set_cons_zero, List.set_cons_succ, Array.toArray_toList, List.getElem_toArray, List.getElem_cons_succ, List.getElem_cons_zero]))
                (refine wpAnyH_take (i := 8) (v := .agg #[.int .u64 (lim (rmN K + (1 + E)) 0), .int .u64 (lim (rmN K + (1 + E)) 1), .int .u64 (lim (rmN K + (1 + E)) 2), .int .u64 (lim (rmN K + (1 + E)) 3)]) rfl (by kernel_rfl) (by kernel_rfl) (by kernel_rfl) (fun _ _ _ h => h) (Or.inl ⟨by rfl, fun w _ => (by go_simp)⟩) (by assumption) ?_; (try simp only [Act.put, List.setIfInBounds_toArray, List.set_cons_zero, List.set_cons_succ, Array.toArray_toList, List.getElem_toArray, List.getElem_cons_succ, List.getElem_cons_zero]))
                (refine wpAnyH_take (i := 9) (v := .int .i64 0) rfl (by kernel_rfl) (by kernel_rfl) (by kernel_rfl) (fun _ _ _ h => h) (Or.inl ⟨by rfl, fun w _ => (by go_simp)⟩) (by assumption) ?_; (try simp only [Act.put, List.setIfInBounds_toArray, List.set_cons_zero, List.set_cons_succ, Array.toArray_toList, List.getElem_toArray, List.getElem_cons_succ, List.getElem_cons_zero]))
                refine wpAnyH_ready (rs := [11]) (by kernel_rfl) (by simp) ?_
                refine AllReadyH.cons rfl (fun Kc hK => ?_) (AllReadyH.nil)
                · rw [if_pos (by rfl)]
                  refine wp_store_mid 24 _ _ rfl (w10.drew.heap.size) 0 #[.int .u64 (lim (rmN K + (1 + E)) 0), .int .u64 (lim (rmN K + (1 + E)) 1), .int .u64 (lim (rmN K + (1 + E)) 2), .int .u64 (lim (rmN K + (1 + E)) 3)] rfl rfl (z3).there sizeU4 (one4 _ _ _ _) ?_
                  have z4 := (z3).put (ds := #[.int .u64 (lim (rmN K + (1 + E)) 0), .int .u64 (lim (rmN K + (1 + E)) 1), .int .u64 (lim (rmN K + (1 + E)) 2), .int .u64 (lim (rmN K + (1 + E)) 3)]) rfl
                  refine hK.out _ _ (below_setCells hg1 _ _ _ hHeld) (fun hHeld => ?_)
                  clear hK Kc
                  (try simp only [Act.put, List.setIfInBounds_toArray, List.set_cons_zero, List.set_cons_succ, Array.toArray_toList, List.getElem_toArray, List.getElem_cons_succ, List.getElem_cons_zero])
                  (refine wpAnyH_take (i := 12) (v := .int .i64 0) rfl (by kernel_rfl) (by kernel_rfl) (by kernel_rfl) (fun _ _ _ h => h) (Or.inl ⟨by rfl, fun w _ => (by go_simp)⟩) (by assumption) ?_; (try simp only [Act.put, List.setIfInBounds_toArray, List.set_cons_zero, List.set_cons_succ, Array.toArray_toList, List.getElem_toArray, List.getElem_cons_succ, List.getElem_cons_zero]))
                  refine wpAnyH_done (by kernel_rfl) ?_ _
                  go_wp2_with fail
                  go_meet
                  exact ⟨_, rfl, hHeld, z4⟩
        case rest =>
          obtain ⟨gU, rfl, hb, hz⟩ := hcut
          obtain ⟨w11, ew⟩ : ∃ W, W = wc := ⟨_, rfl⟩
          rw [← ew] at hb hz ⊢
          clear ew
          have HU := hide hz
          replace hB := hide (hB.out.trans (hb.mono hB.out.size))
          replace HLA := hide (HLA.out.below hb HLA.out.lt)
          have hl_HLA_w11 := HLA.out.lt
          have hl_HU_w11 := HU.out.lt
          have hsz_w11 := hB.out.size
          clear hb hz
          go_upto_region 12 with fail
          go_cut [21] (fun s21 wx => s21 = .int .i64 15 ∧ Below w11.heap.size w11 wx)
          case first =>
            refine wp_region_held_drew (S := fun w' => Below w11.heap.size w11 w') (by kernel_rfl) ((Below.refl _ _).drew) (fun hHeld => ?_)
            (refine wpAnyH_take (i := 1) (v := .int .i64 K) rfl (by kernel_rfl) (by kernel_rfl) (by kernel_rfl) (fun _ _ _ h => h) (Or.inl ⟨by rfl, fun w _ => (by go_simp)⟩) (by assumption) ?_; (try simp only [Act.put, List.setIfInBounds_toArray, List.set_cons_zero, List.set_cons_succ, Array.toArray_toList, List.getElem_toArray, List.getElem_cons_succ, List.getElem_cons_zero]))
            (refine wpAnyH_take (i := 2) (v := .int .i64 ((K : Int) + 1)) rfl (by kernel_rfl) (by kernel_rfl) (by kernel_rfl) (fun _ _ _ h => h) (Or.inl ⟨by rfl, fun w _ => (by go_simp)⟩) (by assumption) ?_; (try simp only [Act.put, List.setIfInBounds_toArray, List.set_cons_zero, List.set_cons_succ, Array.toArray_toList, List.getElem_toArray, List.getElem_cons_succ, List.getElem_cons_zero]))
            (refine wpAnyH_take (i := 3) (v := _) rfl (by kernel_rfl) (by kernel_rfl) (by kernel_rfl) (fun _ _ _ h => h) (yieldsIf_load_mid (by rfl) 24 (.tmp 18) rfl (gU) 0 rfl (#[.int .u64 (lim (rmN K + (1 + E)) 0), .int .u64 (lim (rmN K + (1 + E)) 1), .int .u64 (lim (rmN K + (1 + E)) 2), .int .u64 (lim (rmN K + (1 + E)) 3)]).toList _ (fun w h => ((HU.out).below h (HU.out).lt).range) Try.underlying24 rfl (by rw [Array.length_toList]; exact sizeU4)) (by assumption) ?_; (try simp only [Act.put, List.setIfInBounds_toArray, List.set_cons_zero, List.set_cons_succ, Array.toArray_toList, List.getElem_toArray, List.getElem_cons_succ, List.getElem_cons_zero]))
            refine wpAnyH_ready (rs := [0, 8]) (by kernel_rfl) (by simp) ?_
            refine AllReadyH.cons rfl (fun Kc hK => ?_) (AllReadyH.cons rfl (fun Kc hK => ?_) (AllReadyH.nil))
            · rw [if_pos (by rfl)]
              go_simp
              (go_at_call 14; refine (genesis_c _).mono ?_; rintro e y0 ⟨rfl, hb_y0⟩)
              go_wp2_with fail
              refine hK.out _ _ (hHeld.trans (hb_y0.mono hHeld.size)) (fun hHeld => ?_)
              clear hK Kc
              (try simp only [Act.put, List.setIfInBounds_toArray, List.set_cons_zero, List.set_cons_succ, Array.toArray_toList, List.getElem_toArray, List.getElem_cons_succ, List.getElem_cons_zero])
              refine wpAnyH_ready (rs := [4, 8]) (by kernel_rfl) (by simp) ?_
              refine AllReadyH.cons rfl (fun Kc hK => ?_) (AllReadyH.cons rfl (fun Kc hK => ?_) (AllReadyH.nil))
              · rw [if_pos (by rfl)]
                go_simp
                (go_at_call 18; refine (HS3.out _).mono ?_; rintro e y4 ⟨rfl, hb_y4⟩)
                go_wp2_with fail
                refine hK.out _ _ (hHeld.trans (hb_y4.mono hHeld.size)) (fun hHeld => ?_)
                clear hK Kc
                (try simp only [Act.put, List.setIfInBounds_toArray, List.set_cons_zero, List.set_cons_succ, Array.toArray_toList, List.getElem_toArray, List.getElem_cons_succ, List.getElem_cons_zero])
                (refine wpAnyH_take (i := 5) (v := .tuple #[.agg (pC (fun _ => 0)), .int .i64 15]) rfl (by kernel_rfl) (by kernel_rfl) (by kernel_rfl) (fun _ _ _ h => h) (Or.inl ⟨by rfl, fun w _ => (by go_simp)⟩) (by assumption) ?_; (try simp only [Act.put, List.setIfInBounds_toArray, List.set_cons_zero, List.set_cons_succ, Array.toArray_toList, List.getElem_toArray, List.getElem_cons_succ, List.getElem_cons_zero]))
                (refine wpAnyH_take (i := 6) (v := .agg (pC (fun _ => 0))) rfl (by kernel_rfl) (by kernel_rfl) (by kernel_rfl) (fun _ _ _ h => h) (Or.inl ⟨by rfl, fun w _ => (by go_simp)⟩) (by assumption) ?_; (try simp only [Act.put, List.setIfInBounds_toArray, List.set_cons_zero, List.set_cons_succ, Array.toArray_toList, List.getElem_toArray, List.getElem_cons_succ, List.getElem_cons_zero]))
                (refine wpAnyH_take (i := 7) (v := .int .i64 15) rfl (by kernel_rfl) (by kernel_rfl) (by kernel_rfl) (fun _ _ _ h => h) (Or.inl ⟨by rfl, fun w _ => (by go_simp)⟩) (by assumption) ?_; (try simp only [Act.put, List.setIfInBounds_toArray, List.set_cons_zero, List.set_cons_succ, Array.toArray_toList, List.getElem_toArray, List.getElem_cons_succ, List.getElem_cons_zero]))
                refine wpAnyH_ready (rs := [8]) (by kernel_rfl) (by simp) ?_
                refine AllReadyH.cons rfl (fun Kc hK => ?_) (AllReadyH.nil)
                · rw [if_pos (by rfl)]
                  go_simp
                  have z3 := RBlk.new (y4) (pC fun _ => 0) 26
                  have hg3 := hHeld.size
                  refine hK.out _ _ (hHeld.alloc hHeld.size _) (fun hHeld => ?_)
                  clear hK Kc
                  (try simp only [Act.put, List.setIfInBounds_toArray, List.set_cons_zero, List.set_cons_succ, Array.toArray_toList, List.getElem_toArray, List.getElem_cons_succ, List.getElem_cons_zero])
                  refine wpAnyH_ready (rs := [9]) (by kernel_rfl) (by simp) ?_
                  refine AllReadyH.cons rfl (fun Kc hK => ?_) (AllReadyH.nil)
                  · rw [if_pos (by rfl)]
                    refine wp_store_mid 26 _ _ rfl (y4.heap.size) 0 (pC (fun _ => 0)) rfl rfl (z3).there sizeP (pC_one _) ?_
                    have z4 := (z3).put (ds := (pC (fun _ => 0))) rfl
                    refine hK.out _ _ (below_setCells hg3 _ _ _ hHeld) (fun hHeld => ?_)
                    clear hK Kc
                    (try simp only [Act.put, List.setIfInBounds_toArray, List.set_cons_zero, List.set_cons_succ, Array.toArray_toList, List.getElem_toArray, List.getElem_cons_succ, List.getElem_cons_zero])
                    (refine wpAnyH_take (i := 10) (v := .int .i64 15) rfl (by kernel_rfl) (by kernel_rfl) (by kernel_rfl) (fun _ _ _ h => h) (Or.inl ⟨by rfl, fun w _ => (by go_simp)⟩) (by assumption) ?_; (try simp only [Act.put, List.setIfInBounds_toArray, List.set_cons_zero, List.set_cons_succ, Array.toArray_toList, List.getElem_toArray, List.getElem_cons_succ, List.getElem_cons_zero]))
                    refine wpAnyH_done (by kernel_rfl) ?_ _
                    go_wp2_with fail
                    go_meet
                    exact ⟨rfl, hHeld⟩ -- z4⟩
              · rw [if_pos (by rfl)]
                go_simp
                have z2 := RBlk.new (y0) (pC fun _ => 0) 26
                have hg2 := hHeld.size
                refine hK.out _ _ (hHeld.alloc hHeld.size _) (fun hHeld => ?_)
                clear hK Kc
                (try simp only [Act.put, List.setIfInBounds_toArray, List.set_cons_zero, List.set_cons_succ, Array.toArray_toList, List.getElem_toArray, List.getElem_cons_succ, List.getElem_cons_zero])
                refine wpAnyH_ready (rs := [4]) (by kernel_rfl) (by simp) ?_
                refine AllReadyH.cons rfl (fun Kc hK => ?_) (AllReadyH.nil)
                · rw [if_pos (by rfl)]
                  go_simp
                  (go_at_call 18; refine (HS3.out _).mono ?_; rintro e y4 ⟨rfl, hb_y4⟩)
                  go_wp2_with fail
                  have z3 := (z2).below hb_y4 (z2).lt
                  refine hK.out _ _ (hHeld.trans (hb_y4.mono hHeld.size)) (fun hHeld => ?_)
                  clear hK Kc
                  (try simp only [Act.put, List.setIfInBounds_toArray, List.set_cons_zero, List.set_cons_succ, Array.toArray_toList, List.getElem_toArray, List.getElem_cons_succ, List.getElem_cons_zero])
                  (refine wpAnyH_take (i := 5) (v := .tuple #[.agg (pC (fun _ => 0)), .int .i64 15]) rfl (by kernel_rfl) (by kernel_rfl) (by kernel_rfl) (fun _ _ _ h => h) (Or.inl ⟨by rfl, fun w _ => (by go_simp)⟩) (by assumption) ?_; (try simp only [Act.put, List.setIfInBounds_toArray, List.set_cons_zero, List.set_cons_succ, Array.toArray_toList, List.getElem_toArray, List.getElem_cons_succ, List.getElem_cons_zero]))
                  (refine wpAnyH_take (i := 6) (v := .agg (pC (fun _ => 0))) rfl (by kernel_rfl) (by kernel_rfl) (by kernel_rfl) (fun _ _ _ h => h) (Or.inl ⟨by rfl, fun w _ => (by go_simp)⟩) (by assumption) ?_; (try simp only [Act.put, List.setIfInBounds_toArray, List.set_cons_zero, List.set_cons_succ, Array.toArray_toList, List.getElem_toArray, List.getElem_cons_succ, List.getElem_cons_zero]))
                  (refine wpAnyH_take (i := 7) (v := .int .i64 15) rfl (by kernel_rfl) (by kernel_rfl) (by kernel_rfl) (fun _ _ _ h => h) (Or.inl ⟨by rfl, fun w _ => (by go_simp)⟩) (by assumption) ?_; (try simp only [Act.put, List.setIfInBounds_toArray, List.set_cons_zero, List.set_cons_succ, Array.toArray_toList, List.getElem_toArray, List.getElem_cons_succ, List.getElem_cons_zero]))
                  refine wpAnyH_ready (rs := [9]) (by kernel_rfl) (by simp) ?_
                  refine AllReadyH.cons rfl (fun Kc hK => ?_) (AllReadyH.nil)
                  · rw [if_pos (by rfl)]
                    refine wp_store_mid 26 _ _ rfl (y0.heap.size) 0 (pC (fun _ => 0)) rfl rfl (z3).there sizeP (pC_one _) ?_
                    have z4 := (z3).put (ds := (pC (fun _ => 0))) rfl
                    refine hK.out _ _ (below_setCells hg2 _ _ _ hHeld) (fun hHeld => ?_)
                    clear hK Kc
                    (try simp only [Act.put, List.setIfInBounds_toArray, List.set_cons_zero, List.set_cons_succ, Array.toArray_toList, List.getElem_toArray, List.getElem_cons_succ, List.getElem_cons_zero])
                    (refine wpAnyH_take (i := 10) (v := .int .i64 15) rfl (by kernel_rfl) (by kernel_rfl) (by kernel_rfl) (fun _ _ _ h => h) (Or.inl ⟨by rfl, fun w _ => (by go_simp)⟩) (by assumption) ?_; (try simp only [Act.put, List.setIfInBounds_toArray, List.set_cons_zero, List.set_cons_succ, Array.toArray_toList, List.getElem_toArray, List.getElem_cons_succ, List.getElem_cons_zero]))
                    refine wpAnyH_done (by kernel_rfl) ?_ _
                    go_wp2_with fail
                    go_meet
                    exact ⟨rfl, hHeld⟩ -- z4⟩
            · rw [if_pos (by rfl)]
              go_simp
              have z1 := RBlk.new (w11.drew) (pC fun _ => 0) 26
              have hg1 := hHeld.size
              refine hK.out _ _ (hHeld.alloc hHeld.size _) (fun hHeld => ?_)
              clear hK Kc
              (try simp only [Act.put, List.setIfInBounds_toArray, List.set_cons_zero, List.set_cons_succ, Array.toArray_toList, List.getElem_toArray, List.getElem_cons_succ, List.getElem_cons_zero])
              refine wpAnyH_ready (rs := [0]) (by kernel_rfl) (by simp) ?_
              refine AllReadyH.cons rfl (fun Kc hK => ?_) (AllReadyH.nil)
              · rw [if_pos (by rfl)]
                go_simp
                (go_at_call 14; refine (genesis_c _).mono ?_; rintro e y0 ⟨rfl, hb_y0⟩)
                go_wp2_with fail
                have z2 := (z1).below hb_y0 (z1).lt
                refine hK.out _ _ (hHeld.trans (hb_y0.mono hHeld.size)) (fun hHeld => ?_)
                clear hK Kc
                (try simp only [Act.put, List.setIfInBounds_toArray, List.set_cons_zero, List.set_cons_succ, Array.toArray_toList, List.getElem_toArray, List.getElem_cons_succ, List.getElem_cons_zero])
                refine wpAnyH_ready (rs := [4]) (by kernel_rfl) (by simp) ?_
                refine AllReadyH.cons rfl (fun Kc hK => ?_) (AllReadyH.nil)
                · rw [if_pos (by rfl)]
                  go_simp
                  (go_at_call 18; refine (HS3.out _).mono ?_; rintro e y4 ⟨rfl, hb_y4⟩)
                  go_wp2_with fail
                  have z3 := (z2).below hb_y4 (z2).lt
                  refine hK.out _ _ (hHeld.trans (hb_y4.mono hHeld.size)) (fun hHeld => ?_)
                  clear hK Kc
                  (try simp only [Act.put, List.setIfInBounds_toArray, List.set_cons_zero, List.set_cons_succ, Array.toArray_toList, List.getElem_toArray, List.getElem_cons_succ, List.getElem_cons_zero])
                  (refine wpAnyH_take (i := 5) (v := .tuple #[.agg (pC (fun _ => 0)), .int .i64 15]) rfl (by kernel_rfl) (by kernel_rfl) (by kernel_rfl) (fun _ _ _ h => h) (Or.inl ⟨by rfl, fun w _ => (by go_simp)⟩) (by assumption) ?_; (try simp only [Act.put, List.setIfInBounds_toArray, List.set_cons_zero, List.set_cons_succ, Array.toArray_toList, List.getElem_toArray, List.getElem_cons_succ, List.getElem_cons_zero]))
                  (refine wpAnyH_take (i := 6) (v := .agg (pC (fun _ => 0))) rfl (by kernel_rfl) (by kernel_rfl) (by kernel_rfl) (fun _ _ _ h => h) (Or.inl ⟨by rfl, fun w _ => (by go_simp)⟩) (by assumption) ?_; (try simp only [Act.put, List.setIfInBounds_toArray, List.set_cons_zero, List.set_cons_succ, Array.toArray_toList, List.getElem_toArray, List.getElem_cons_succ, List.getElem_cons_zero]))
                  (refine wpAnyH_take (i := 7) (v := .int .i64 15) rfl (by kernel_rfl) (by kernel_rfl) (by kernel_rfl) (fun _ _ _ h => h) (Or.inl ⟨by rfl, fun w _ => (by go_simp)⟩) (by assumption) ?_; (try simp only [Act.put, List.setIfInBounds_toArray, List.set_cons_zero, List.set_cons_succ, Array.toArray_toList, List.getElem_toArray, List.getElem_cons_succ, List.getElem_cons_zero]))
                  refine wpAnyH_ready (rs := [9]) (by kernel_rfl) (by simp) ?_
                  refine AllReadyH.cons rfl (fun Kc hK => ?_) (AllReadyH.nil)
                  · rw [if_pos (by rfl)]
                    refine wp_store_mid 26 _ _ rfl (w11.drew.heap.size) 0 (pC (fun _ => 0)) rfl rfl (z3).there sizeP (pC_one _) ?_
                    have z4 := (z3).put (ds := (pC (fun _ => 0))) rfl
                    refine hK.out _ _ (below_setCells hg1 _ _ _ hHeld) (fun hHeld => ?_)
                    clear hK Kc
                    (try simp only [Act.put, List.setIfInBounds_toArray, List.set_cons_zero, List.set_cons_succ, Array.toArray_toList, List.getElem_toArray, List.getElem_cons_succ, List.getElem_cons_zero])
                    (refine wpAnyH_take (i := 10) (v := .int .i64 15) rfl (by kernel_rfl) (by kernel_rfl) (by kernel_rfl) (fun _ _ _ h => h) (Or.inl ⟨by rfl, fun w _ => (by go_simp)⟩) (by assumption) ?_; (try simp only [Act.put, List.setIfInBounds_toArray, List.set_cons_zero, List.set_cons_succ, Array.toArray_toList, List.getElem_toArray, List.getElem_cons_succ, List.getElem_cons_zero]))
                    refine wpAnyH_done (by kernel_rfl) ?_ _
                    go_wp2_with fail
                    go_meet
                    exact ⟨rfl, hHeld⟩ -- z4⟩
          case rest =>
            obtain ⟨rfl, hb⟩ := hcut
            obtain ⟨w12, ew⟩ : ∃ W, W = wc := ⟨_, rfl⟩
            rw [← ew] at hb ⊢
            clear ew
            replace hB := hide (hB.out.trans (hb.mono hB.out.size))
            replace HLA := hide (HLA.out.below hb HLA.out.lt)
            have hl_HLA_w12 := HLA.out.lt
            have hsz_w12 := hB.out.size
            clear hb
            have hc := (HLA.out.cell K).trans hLA
            by_cases hl : 0 < rlN K
            · have hli : 0 < (rlN K : Int) := by omega
              have HS4 := hide (HS4F.out hl)
              have wl : IntKind.u64.wrap ((rlN K : Int) - 1) = (rlN K : Int) - 1 := by rw [IntKind.wrap_u64]; omega
              go_upto_region 14 with fail
              go_cut [23] (fun s23 wx => s23 = .int .i64 15 ∧ Below w12.heap.size w12 wx)
              case first =>
                clear hc
                refine wp_region_held_drew (S := fun w' => Below w12.heap.size w12 w') (by kernel_rfl) ((Below.refl _ _).drew) (fun hHeld => ?_)
                (refine wpAnyH_take (i := 1) (v := .int .i64 K) rfl (by kernel_rfl) (by kernel_rfl) (by kernel_rfl) (fun _ _ _ h => h) (Or.inl ⟨by rfl, fun w _ => (by go_simp)⟩) (by assumption) ?_; (try simp only [Act.put, List.setIfInBounds_toArray, List.set_cons_zero, List.set_cons_succ, Array.toArray_toList, List.getElem_toArray, List.getElem_cons_succ, List.getElem_cons_zero]))
                (refine wpAnyH_take (i := 2) (v := .int .i64 ((K : Int) + 1)) rfl (by kernel_rfl) (by kernel_rfl) (by kernel_rfl) (fun _ _ _ h => h) (Or.inl ⟨by rfl, fun w _ => (by go_simp)⟩) (by assumption) ?_; (try simp only [Act.put, List.setIfInBounds_toArray, List.set_cons_zero, List.set_cons_succ, Array.toArray_toList, List.getElem_toArray, List.getElem_cons_succ, List.getElem_cons_zero]))
                (refine wpAnyH_take (i := 3) (v := .int .i64 K) rfl (by kernel_rfl) (by kernel_rfl) (by kernel_rfl) (fun _ _ _ h => h) (Or.inl ⟨by rfl, fun w _ => (by go_simp)⟩) (by assumption) ?_; (try simp only [Act.put, List.setIfInBounds_toArray, List.set_cons_zero, List.set_cons_succ, Array.toArray_toList, List.getElem_toArray, List.getElem_cons_succ, List.getElem_cons_zero]))
                (refine wpAnyH_take (i := 4) (v := .pointer (some ⟨w.heap.size, K, none⟩)) rfl (by kernel_rfl) (by kernel_rfl) (by kernel_rfl) (fun _ _ _ h => h) (Or.inl ⟨by rfl, fun w _ => (by go_simp)⟩) (by assumption) ?_; (try simp only [Act.put, List.setIfInBounds_toArray, List.set_cons_zero, List.set_cons_succ, Array.toArray_toList, List.getElem_toArray, List.getElem_cons_succ, List.getElem_cons_zero]))
                (refine wpAnyH_take (i := 5) (v := .int .u64 (rlN K : Int)) rfl (by kernel_rfl) (by kernel_rfl) (by kernel_rfl) (fun _ _ _ h => h) (Or.inl ⟨by rfl, fun w' h => (by have hc := ((HLA.out.below h HLA.out.lt).cell K).trans hLA; clear h; go_simp)⟩) (by assumption) ?_; (try simp only [Act.put, List.setIfInBounds_toArray, List.set_cons_zero, List.set_cons_succ, Array.toArray_toList, List.getElem_toArray, List.getElem_cons_succ, List.getElem_cons_zero]))
                (refine wpAnyH_take (i := 6) (v := .int .u64 ((rlN K : Int) - 1)) rfl (by kernel_rfl) (by kernel_rfl) (by kernel_rfl) (fun _ _ _ h => h) (Or.inl ⟨by rfl, fun w _ => (by go_simp)⟩) (by assumption) ?_; (try simp only [Act.put, List.setIfInBounds_toArray, List.set_cons_zero, List.set_cons_succ, Array.toArray_toList, List.getElem_toArray, List.getElem_cons_succ, List.getElem_cons_zero]))
                (refine wpAnyH_take (i := 7) (v := .agg #[.int .u64 ((rlN K : Int) - 1), .int .u64 (0), .int .u64 (0), .int .u64 (0)]) rfl (by kernel_rfl) (by kernel_rfl) (by kernel_rfl) (fun _ _ _ h => h) (Or.inl ⟨by rfl, fun w _ => (by go_simp)⟩) (by assumption) ?_; (try simp only [Act.put, List.setIfInBounds_toArray, List.set_cons_zero, List.set_cons_succ, Array.toArray_toList, List.getElem_toArray, List.getElem_cons_succ, List.getElem_cons_zero]))
                refine wpAnyH_ready (rs := [0, 12]) (by kernel_rfl) (by simp) ?_
                refine AllReadyH.cons rfl (fun Kc hK => ?_) (AllReadyH.cons rfl (fun Kc hK => ?_) (AllReadyH.nil))
                · rw [if_pos (by rfl)]
                  go_simp
                  (go_at_call 14; refine (genesis_c _).mono ?_; rintro e y0 ⟨rfl, hb_y0⟩)
                  go_wp2_with fail
                  refine hK.out _ _ (hHeld.trans (hb_y0.mono hHeld.size)) (fun hHeld => ?_)
                  clear hK Kc
                  (try simp only [Act.put, List.setIfInBounds_toArray, List.set_cons_zero, List.set_cons_succ, Array.toArray_toList, List.getElem_toArray, List.getElem_cons_succ, List.getElem_cons_zero])
                  refine wpAnyH_ready (rs := [8, 12]) (by kernel_rfl) (by simp) ?_
                  refine AllReadyH.cons rfl (fun Kc hK => ?_) (AllReadyH.cons rfl (fun Kc hK => ?_) (AllReadyH.nil))
                  · rw [if_pos (by rfl)]
                    go_simp
                    (go_at_call 18; refine (HS4.out _).mono ?_; rintro e y8 ⟨rfl, hb_y8⟩)
                    go_wp2_with fail
                    refine hK.out _ _ (hHeld.trans (hb_y8.mono hHeld.size)) (fun hHeld => ?_)
                    clear hK Kc
                    (try simp only [Act.put, List.setIfInBounds_toArray, List.set_cons_zero, List.set_cons_succ, Array.toArray_toList, List.getElem_toArray, List.getElem_cons_succ, List.getElem_cons_zero])
                    (refine wpAnyH_take (i := 9) (v := .tuple #[.agg (pC fun _ => 0), .int .i64 15]) rfl (by kernel_rfl) (by kernel_rfl) (by kernel_rfl) (fun _ _ _ h => h) (Or.inl ⟨by rfl, fun w _ => (by go_simp)⟩) (by assumption) ?_; (try simp only [Act.put, List.setIfInBounds_toArray, List.set_cons_zero, List.set_cons_succ, Array.toArray_toList, List.getElem_toArray, List.getElem_cons_succ, List.getElem_cons_zero]))
                    (refine wpAnyH_take (i := 10) (v := .agg (pC fun _ => 0)) rfl (by kernel_rfl) (by kernel_rfl) (by kernel_rfl) (fun _ _ _ h => h) (Or.inl ⟨by rfl, fun w _ => (by go_simp)⟩) (by assumption) ?_; (try simp only [Act.put, List.setIfInBounds_toArray, List.set_cons_zero, List.set_cons_succ, Array.toArray_toList, List.getElem_toArray, List.getElem_cons_succ, List.getElem_cons_zero]))
                    (refine wpAnyH_take (i := 11) (v := .int .i64 15) rfl (by kernel_rfl) (by kernel_rfl) (by kernel_rfl) (fun _ _ _ h => h) (Or.inl ⟨by rfl, fun w _ => (by go_simp)⟩) (by assumption) ?_; (try simp only [Act.put, List.setIfInBounds_toArray, List.set_cons_zero, List.set_cons_succ, Array.toArray_toList, List.getElem_toArray, List.getElem_cons_succ, List.getElem_cons_zero]))
                    refine wpAnyH_ready (rs := [12]) (by kernel_rfl) (by simp) ?_
                    refine AllReadyH.cons rfl (fun Kc hK => ?_) (AllReadyH.nil)
                    · rw [if_pos (by rfl)]
                      go_simp
                      have z3 := RBlk.new (y8) (pC fun _ => 0) 26
                      have hg3 := hHeld.size
                      refine hK.out _ _ (hHeld.alloc hHeld.size _) (fun hHeld => ?_)
                      clear hK Kc
                      (try simp only [Act.put, List.setIfInBounds_toArray, List.set_cons_zero, List.set_cons_succ, Array.toArray_toList, List.getElem_toArray, List.getElem_cons_succ, List.getElem_cons_zero])
                      refine wpAnyH_ready (rs := [13]) (by kernel_rfl) (by simp) ?_
                      refine AllReadyH.cons rfl (fun Kc hK => ?_) (AllReadyH.nil)
                      · rw [if_pos (by rfl)]
                        refine wp_store_mid 26 _ _ rfl (y8.heap.size) 0 (pC fun _ => 0) rfl rfl (z3).there sizeP (pC_one _) ?_
                        have z4 := (z3).put (ds := (pC fun _ => 0)) rfl
                        refine hK.out _ _ (below_setCells hg3 _ _ _ hHeld) (fun hHeld => ?_)
                        clear hK Kc
                        (try simp only [Act.put, List.setIfInBounds_toArray, List.set_cons_zero, List.set_cons_succ, Array.toArray_toList, List.getElem_toArray, List.getElem_cons_succ, List.getElem_cons_zero])
                        (refine wpAnyH_take (i := 14) (v := .int .i64 15) rfl (by kernel_rfl) (by kernel_rfl) (by kernel_rfl) (fun _ _ _ h => h) (Or.inl ⟨by rfl, fun w _ => (by go_simp)⟩) (by assumption) ?_; (try simp only [Act.put, List.setIfInBounds_toArray, List.set_cons_zero, List.set_cons_succ, Array.toArray_toList, List.getElem_toArray, List.getElem_cons_succ, List.getElem_cons_zero]))
                        refine wpAnyH_done (by kernel_rfl) ?_ _
                        go_wp2_with fail
                        go_meet
                        exact ⟨rfl, hHeld⟩
                  · rw [if_pos (by rfl)]
                    go_simp
                    have z2 := RBlk.new (y0) (pC fun _ => 0) 26
                    have hg2 := hHeld.size
                    refine hK.out _ _ (hHeld.alloc hHeld.size _) (fun hHeld => ?_)
                    clear hK Kc
                    (try simp only [Act.put, List.setIfInBounds_toArray, List.set_cons_zero, List.set_cons_succ, Array.toArray_toList, List.getElem_toArray, List.getElem_cons_succ, List.getElem_cons_zero])
                    refine wpAnyH_ready (rs := [8]) (by kernel_rfl) (by simp) ?_
                    refine AllReadyH.cons rfl (fun Kc hK => ?_) (AllReadyH.nil)
                    · rw [if_pos (by rfl)]
                      go_simp
                      (go_at_call 18; refine (HS4.out _).mono ?_; rintro e y8 ⟨rfl, hb_y8⟩)
                      go_wp2_with fail
                      have z3 := (z2).below hb_y8 (z2).lt
                      refine hK.out _ _ (hHeld.trans (hb_y8.mono hHeld.size)) (fun hHeld => ?_)
                      clear hK Kc
                      (try simp only [Act.put, List.setIfInBounds_toArray, List.set_cons_zero, List.set_cons_succ, Array.toArray_toList, List.getElem_toArray, List.getElem_cons_succ, List.getElem_cons_zero])
                      (refine wpAnyH_take (i := 9) (v := .tuple #[.agg (pC fun _ => 0), .int .i64 15]) rfl (by kernel_rfl) (by kernel_rfl) (by kernel_rfl) (fun _ _ _ h => h) (Or.inl ⟨by rfl, fun w _ => (by go_simp)⟩) (by assumption) ?_; (try simp only [Act.put, List.setIfInBounds_toArray, List.set_cons_zero, List.set_cons_succ, Array.toArray_toList, List.getElem_toArray, List.getElem_cons_succ, List.getElem_cons_zero]))
                      (refine wpAnyH_take (i := 10) (v := .agg (pC fun _ => 0)) rfl (by kernel_rfl) (by kernel_rfl) (by kernel_rfl) (fun _ _ _ h => h) (Or.inl ⟨by rfl, fun w _ => (by go_simp)⟩) (by assumption) ?_; (try simp only [Act.put, List.setIfInBounds_toArray, List.set_cons_zero, List.set_cons_succ, Array.toArray_toList, List.getElem_toArray, List.getElem_cons_succ, List.getElem_cons_zero]))
                      (refine wpAnyH_take (i := 11) (v := .int .i64 15) rfl (by kernel_rfl) (by kernel_rfl) (by kernel_rfl) (fun _ _ _ h => h) (Or.inl ⟨by rfl, fun w _ => (by go_simp)⟩) (by assumption) ?_; (try simp only [Act.put, List.setIfInBounds_toArray, List.set_cons_zero, List.set_cons_succ, Array.toArray_toList, List.getElem_toArray, List.getElem_cons_succ, List.getElem_cons_zero]))
                      refine wpAnyH_ready (rs := [13]) (by kernel_rfl) (by simp) ?_
                      refine AllReadyH.cons rfl (fun Kc hK => ?_) (AllReadyH.nil)
                      · rw [if_pos (by rfl)]
                        refine wp_store_mid 26 _ _ rfl (y0.heap.size) 0 (pC fun _ => 0) rfl rfl (z3).there sizeP (pC_one _) ?_
                        have z4 := (z3).put (ds := (pC fun _ => 0)) rfl
                        refine hK.out _ _ (below_setCells hg2 _ _ _ hHeld) (fun hHeld => ?_)
                        clear hK Kc
                        (try simp only [Act.put, List.setIfInBounds_toArray, List.set_cons_zero, List.set_cons_succ, Array.toArray_toList, List.getElem_toArray, List.getElem_cons_succ, List.getElem_cons_zero])
                        (refine wpAnyH_take (i := 14) (v := .int .i64 15) rfl (by kernel_rfl) (by kernel_rfl) (by kernel_rfl) (fun _ _ _ h => h) (Or.inl ⟨by rfl, fun w _ => (by go_simp)⟩) (by assumption) ?_; (try simp only [Act.put, List.setIfInBounds_toArray, List.set_cons_zero, List.set_cons_succ, Array.toArray_toList, List.getElem_toArray, List.getElem_cons_succ, List.getElem_cons_zero]))
                        refine wpAnyH_done (by kernel_rfl) ?_ _
                        go_wp2_with fail
                        go_meet
                        exact ⟨rfl, hHeld⟩
                · rw [if_pos (by rfl)]
                  go_simp
                  have z1 := RBlk.new (w12.drew) (pC fun _ => 0) 26
                  have hg1 := hHeld.size
                  refine hK.out _ _ (hHeld.alloc hHeld.size _) (fun hHeld => ?_)
                  clear hK Kc
                  (try simp only [Act.put, List.setIfInBounds_toArray, List.set_cons_zero, List.set_cons_succ, Array.toArray_toList, List.getElem_toArray, List.getElem_cons_succ, List.getElem_cons_zero])
                  refine wpAnyH_ready (rs := [0]) (by kernel_rfl) (by simp) ?_
                  refine AllReadyH.cons rfl (fun Kc hK => ?_) (AllReadyH.nil)
                  · rw [if_pos (by rfl)]
                    go_simp
                    (go_at_call 14; refine (genesis_c _).mono ?_; rintro e y0 ⟨rfl, hb_y0⟩)
                    go_wp2_with fail
                    have z2 := (z1).below hb_y0 (z1).lt
                    refine hK.out _ _ (hHeld.trans (hb_y0.mono hHeld.size)) (fun hHeld => ?_)
                    clear hK Kc
                    (try simp only [Act.put, List.setIfInBounds_toArray, List.set_cons_zero, List.set_cons_succ, Array.toArray_toList, List.getElem_toArray, List.getElem_cons_succ, List.getElem_cons_zero])
                    refine wpAnyH_ready (rs := [8]) (by kernel_rfl) (by simp) ?_
                    refine AllReadyH.cons rfl (fun Kc hK => ?_) (AllReadyH.nil)
                    · rw [if_pos (by rfl)]
                      go_simp
                      (go_at_call 18; refine (HS4.out _).mono ?_; rintro e y8 ⟨rfl, hb_y8⟩)
                      go_wp2_with fail
                      have z3 := (z2).below hb_y8 (z2).lt
                      refine hK.out _ _ (hHeld.trans (hb_y8.mono hHeld.size)) (fun hHeld => ?_)
                      clear hK Kc
                      (try simp only [Act.put, List.setIfInBounds_toArray, List.set_cons_zero, List.set_cons_succ, Array.toArray_toList, List.getElem_toArray, List.getElem_cons_succ, List.getElem_cons_zero])
                      (refine wpAnyH_take (i := 9) (v := .tuple #[.agg (pC fun _ => 0), .int .i64 15]) rfl (by kernel_rfl) (by kernel_rfl) (by kernel_rfl) (fun _ _ _ h => h) (Or.inl ⟨by rfl, fun w _ => (by go_simp)⟩) (by assumption) ?_; (try simp only [Act.put, List.setIfInBounds_toArray, List.set_cons_zero, List.set_cons_succ, Array.toArray_toList, List.getElem_toArray, List.getElem_cons_succ, List.getElem_cons_zero]))
                      (refine wpAnyH_take (i := 10) (v := .agg (pC fun _ => 0)) rfl (by kernel_rfl) (by kernel_rfl) (by kernel_rfl) (fun _ _ _ h => h) (Or.inl ⟨by rfl, fun w _ => (by go_simp)⟩) (by assumption) ?_; (try simp only [Act.put, List.setIfInBounds_toArray, List.set_cons_zero, List.set_cons_succ, Array.toArray_toList, List.getElem_toArray, List.getElem_cons_succ, List.getElem_cons_zero]))
                      (refine wpAnyH_take (i := 11) (v := .int .i64 15) rfl (by kernel_rfl) (by kernel_rfl) (by kernel_rfl) (fun _ _ _ h => h) (Or.inl ⟨by rfl, fun w _ => (by go_simp)⟩) (by assumption) ?_; (try simp only [Act.put, List.setIfInBounds_toArray, List.set_cons_zero, List.set_cons_succ, Array.toArray_toList, List.getElem_toArray, List.getElem_cons_succ, List.getElem_cons_zero]))
                      refine wpAnyH_ready (rs := [13]) (by kernel_rfl) (by simp) ?_
                      refine AllReadyH.cons rfl (fun Kc hK => ?_) (AllReadyH.nil)
                      · rw [if_pos (by rfl)]
                        refine wp_store_mid 26 _ _ rfl (w12.drew.heap.size) 0 (pC fun _ => 0) rfl rfl (z3).there sizeP (pC_one _) ?_
                        have z4 := (z3).put (ds := (pC fun _ => 0)) rfl
                        refine hK.out _ _ (below_setCells hg1 _ _ _ hHeld) (fun hHeld => ?_)
                        clear hK Kc
                        (try simp only [Act.put, List.setIfInBounds_toArray, List.set_cons_zero, List.set_cons_succ, Array.toArray_toList, List.getElem_toArray, List.getElem_cons_succ, List.getElem_cons_zero])
                        (refine wpAnyH_take (i := 14) (v := .int .i64 15) rfl (by kernel_rfl) (by kernel_rfl) (by kernel_rfl) (fun _ _ _ h => h) (Or.inl ⟨by rfl, fun w _ => (by go_simp)⟩) (by assumption) ?_; (try simp only [Act.put, List.setIfInBounds_toArray, List.set_cons_zero, List.set_cons_succ, Array.toArray_toList, List.getElem_toArray, List.getElem_cons_succ, List.getElem_cons_zero]))
                        refine wpAnyH_done (by kernel_rfl) ?_ _
                        go_wp2_with fail
                        go_meet
                        exact ⟨rfl, hHeld⟩
              case rest =>
                obtain ⟨rfl, hb⟩ := hcut
                clear hc
                obtain ⟨w13, ew⟩ : ∃ W, W = wc := ⟨_, rfl⟩
                rw [← ew] at hb ⊢
                clear ew
                replace hB := hide (hB.out.trans (hb.mono hB.out.size))
                replace HLA := hide (HLA.out.below hb HLA.out.lt)
                have hl_HLA_w13 := HLA.out.lt
                have hsz_w13 := hB.out.size
                clear hb
                go_wp2_with fail
                refine (awake12_c _).mono ?_
                rintro e wz ⟨rfl, hbz⟩
                have hBf := hB.out.trans (hbz.mono hB.out.size)
                clear hbz
                go_wp2
                go_ret
                exact ⟨rfl, hBf⟩
            · have hl0 : rlN K = 0 := by omega
              have hli : ¬ (0 < (rlN K : Int)) := by omega
              go_wp2_with fail
              refine (awake12_c _).mono ?_
              rintro e wz ⟨rfl, hbz⟩
              have hBf := hB.out.trans (hbz.mono hB.out.size)
              clear hbz
              go_wp2
              go_ret
              exact ⟨rfl, hBf⟩
theorem ParamsRanges_walk (key edge : Int) (w0 : (Lit.int .i64 key).wf = true) (w1 : (Lit.int .i64 edge).wf = true) (w : World) :
    Calls Try.prog 7 #[.int .i64 key, .int .i64 edge] w fun e w' => e = .returned (.bool true) ∧ Below w.heap.size w w' := Ranges_in key edge w
end Go.Proofs.Ytbnpgecpanfpiaa
