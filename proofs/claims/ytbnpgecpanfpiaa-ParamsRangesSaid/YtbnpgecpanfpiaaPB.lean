/- chapter 12: ParamsSetGet. -/
import Derived.WalkKit
import Derived.KernelRfl
import Derived.RowKit3
import Derived.Deep.LoopGhost
import Derived.Deep.QuietTactic
import Derived.BigQuiet
import Derived.WideLaws
import Derived.Laws.Rows
import Derived.Below
import Derived.Deep.Draws
import Derived.Outline
import Derived.LoopN
import Derived.Handy
import Derived.Laws.Externs
import Derived.Laws.BitsAllLaws
import Derived.Laws.BitsLemmas
import Derived.Deep.DeepCutAuto
import Derived.Deep.CutBlock
import Derived.Deep.RegionHeld3
import Derived.Test.YtbnpgecpanfpiaaPA
import Derived.Test.YtbnpgecpanfpiaaRB
namespace Go.Proofs.Ytbnpgecpanfpiaa
open Go.RowKit
set_option linter.unusedVariables false
set_option linter.unusedSimpArgs false
/-- block g holds this update -/
def UBlk (w : World) (g : Nat) (key n0 n1 n2 n3 few how : Int) : Prop := w.heap[g]? = some (.cells #[.int .i64 key, .int .u64 n0, .int .u64 n1, .int .u64 n2, .int .u64 n3, .int .u64 few, .int .u8 how] 37 (0, 0))
theorem UBlk.lt {w : World} {g : Nat} {key n0 n1 n2 n3 few how : Int} (h : UBlk w g key n0 n1 n2 n3 few how) : g < w.heap.size := (Array.getElem?_eq_some_iff.1 h).1
theorem UBlk.below {w w' : World} {g B : Nat} {key n0 n1 n2 n3 few how : Int} (h : UBlk w g key n0 n1 n2 n3 few how) (hb : Below B w w') (hg : g < B) : UBlk w' g key n0 n1 n2 n3 few how := (hb.block g hg).trans h
theorem UBlk.alloc {w : World} {g : Nat} {key n0 n1 n2 n3 few how : Int} (h : UBlk w g key n0 n1 n2 n3 few how) (o : Obj) : UBlk (w.alloc o) g key n0 n1 n2 n3 few how := (Below.heap_alloc w o g h.lt).trans h
theorem UBlk.drew {w : World} {g : Nat} {key n0 n1 n2 n3 few how : Int} (h : UBlk w g key n0 n1 n2 n3 few how) : UBlk w.drew g key n0 n1 n2 n3 few how := h
theorem UBlk.cells {w : World} {g : Nat} {key n0 n1 n2 n3 few how : Int} (h : UBlk w g key n0 n1 n2 n3 few how) : w.cell? ⟨g, 0, none⟩ = some (.int .i64 key) ∧ w.cell? ⟨g, 1, none⟩ = some (.int .u64 n0) ∧ w.cell? ⟨g, 2, none⟩ = some (.int .u64 n1) ∧ w.cell? ⟨g, 3, none⟩ = some (.int .u64 n2) ∧ w.cell? ⟨g, 4, none⟩ = some (.int .u64 n3) ∧ w.cell? ⟨g, 5, none⟩ = some (.int .u64 few) ∧ w.cell? ⟨g, 6, none⟩ = some (.int .u8 how) := by
  unfold UBlk at h
  refine ⟨?_, ?_, ?_, ?_, ?_, ?_, ?_⟩ <;> simp [World.cell?, h]
theorem UBlk.new (w : World) (key n0 n1 n2 n3 few how : Int) : UBlk (w.alloc (.cells #[.int .i64 key, .int .u64 n0, .int .u64 n1, .int .u64 n2, .int .u64 n3, .int .u64 few, .int .u8 how] 37)) w.heap.size key n0 n1 n2 n3 few how := heap_alloc_new w _
/-- what a region that calls Set keeps: the old memory, the parameters in block g1, the update in block g0 -/
def KS (w0 w : World) (g1 : Nat) (P : Nat → Int) (g0 : Nat) (key n0 n1 n2 n3 few how : Int) : Prop := Below w0.heap.size w0 w ∧ PBlk w g1 P ∧ UBlk w g0 key n0 n1 n2 n3 few how
section
variable {w0 w w' : World} {g1 g0 g : Nat} {P : Nat → Int} {key n0 n1 n2 n3 few how : Int}
theorem KS.alloc (h : KS w0 w g1 P g0 key n0 n1 n2 n3 few how) (o : Obj) : KS w0 (w.alloc o) g1 P g0 key n0 n1 n2 n3 few how := ⟨h.1.alloc h.1.size o, h.2.1.alloc o, h.2.2.alloc o⟩
theorem KS.drew (h : KS w0 w g1 P g0 key n0 n1 n2 n3 few how) : KS w0 w.drew g1 P g0 key n0 n1 n2 n3 few how := ⟨h.1.drew, h.2.1.drew, h.2.2.drew⟩
theorem KS.below (hb : Below w.heap.size w w') (h : KS w0 w g1 P g0 key n0 n1 n2 n3 few how) : KS w0 w' g1 P g0 key n0 n1 n2 n3 few how := ⟨h.1.trans (hb.mono h.1.size), h.2.1.below hb h.2.1.lt, h.2.2.below hb h.2.2.lt⟩
theorem KS.below' (h : KS w0 w g1 P g0 key n0 n1 n2 n3 few how) (hb : Below w.heap.size w w') : KS w0 w' g1 P g0 key n0 n1 n2 n3 few how := KS.below hb h
theorem PBlk.below' (hb : Below w.heap.size w w') (h : PBlk w g P) : PBlk w' g P := h.below hb h.lt
theorem pC_ne {P : Nat → Int} (h : P 0 ≠ 0) : pC P ≠ pC fun _ => 0 := fun e => by
  have h0 := pC_get P 0 (by omega)
  rw [e, pC_get _ 0 (by omega)] at h0
  injection h0 with h0
  injection h0 with _ h0
  exact h h0.symm
theorem PBlk.ne (h : PBlk w g1 P) (hz : PBlk w g fun _ => 0) (hP : P 0 ≠ 0) : g ≠ g1 := fun e => by
  subst e
  unfold PBlk at h hz
  rw [h] at hz
  injection hz with hz
  injection hz with hz
  exact pC_ne hP hz
theorem UBlk.ne (h : UBlk w g0 key n0 n1 n2 n3 few how) (hz : PBlk w g P) : g ≠ g0 := fun e => by
  subst e
  unfold PBlk at hz
  unfold UBlk at h
  rw [h] at hz
  injection hz with hz
  injection hz with _ hz
  exact absurd hz (by decide)
theorem UBlk.putFar (h : UBlk w g0 key n0 n1 n2 n3 few how) (hn : g ≠ g0) (vs : List Value) : UBlk (w.setCells g 0 vs) g0 key n0 n1 n2 n3 few how := heap_setCells_far hn vs 0 w h
theorem KS.put (h : KS w0 w g1 P g0 key n0 n1 n2 n3 few how) (hP : P 0 ≠ 0) (hz : PBlk w g fun _ => 0) (hg : w0.heap.size ≤ g) (Q : Nat → Int) : KS w0 (w.setCells g 0 (pC Q).toList) g1 P g0 key n0 n1 n2 n3 few how :=
  ⟨below_setCells hg _ _ _ h.1, h.2.1.putFar (h.2.1.ne hz hP) _, h.2.2.putFar (h.2.2.ne hz) _⟩
theorem size37 : (Try.prog.info? 37).map (·.size) = some 7 := by kernel_rfl
theorem UBlk.range (h : UBlk w g0 key n0 n1 n2 n3 few how) : w.rangeAt g0 0 [.int .i64 key, .int .u64 n0, .int .u64 n1, .int .u64 n2, .int .u64 n3, .int .u64 few, .int .u8 how] := by
  obtain ⟨c0, c1, c2, c3, c4, c5, c6⟩ := h.cells
  intro j v hj
  match j, hj with
  | 0, hj => simp at hj; subst hj; exact c0
  | 1, hj => simp at hj; subst hj; exact c1
  | 2, hj => simp at hj; subst hj; exact c2
  | 3, hj => simp at hj; subst hj; exact c3
  | 4, hj => simp at hj; subst hj; exact c4
  | 5, hj => simp at hj; subst hj; exact c5
  | 6, hj => simp at hj; subst hj; exact c6
  | _ + 7, hj => simp at hj
theorem UBlk.row (h : UBlk w g key n0 n1 n2 n3 few how) : RBlk w g #[.int .i64 key, .int .u64 n0, .int .u64 n1, .int .u64 n2, .int .u64 n3, .int .u64 few, .int .u8 how] 37 := h
theorem size37' : (Try.prog.info? 37).map (·.size) = some 7 := size37
theorem one4 (a b c d : Int) : (#[Value.int .u64 a, .int .u64 b, .int .u64 c, .int .u64 d] : Array Value).all (·.oneCell') = true := by simp [Value.oneCell']
theorem z_new (w' : World) : PBlk (w'.alloc (.cells #[.int .u64 0, .int .u64 0, .int .u64 0, .int .u64 0, .int .u64 0, .int .u64 0, .int .u64 0, .int .u64 0, .int .u64 0, .int .u64 0, .int .u64 0, .int .u64 0, .int .u64 0, .int .u64 0, .int .u64 0, .int .u64 0, .int .u64 0, .int .u64 0, .int .u64 0, .int .u64 0, .int .u64 0] 26)) w'.heap.size fun _ => 0 := by
  have := PBlk.new w' (fun _ => 0)
  exact this
end
set_option maxRecDepth 20000 in
set_option maxHeartbeats 1000000 in
theorem SetGet_in (N : Nat → Int) (hN : ∀ j, 0 ≤ N j ∧ N j < 18446744073709551616) (key few how other : Int) (f0 : 0 ≤ few) (f1 : few < 18446744073709551616) (h0 : 0 ≤ how) (w : World) :
    Calls Try.prog 5 #[.agg #[.int .i64 key, .int .u64 (N 0), .int .u64 (N 1), .int .u64 (N 2), .int .u64 (N 3), .int .u64 few, .int .u8 how], .int .i64 other] w fun e w' => e = .returned (.bool true) ∧ Below w.heap.size w w' := by
  have HVal := fun w => value_c (N := N) (how := how) key f0 f1 h0 w
  have hVw := vL_w hN f0 f1 how
  obtain ⟨V, hV⟩ : ∃ V, vL N few how = V := ⟨_, rfl⟩
  rw [hV] at HVal hVw
  replace HVal := hide HVal
  clear hV hN f0 f1 h0
  have HMk := hide (fun w => mod_c (x := key) (n := 12) (by omega) (by omega) w)
  have HMo := hide (fun w => mod_c (x := other) (n := 12) (by omega) (by omega) w)
  have mk0 : 0 ≤ modV key 12 := Int.emod_nonneg _ (by omega)
  have mk1 : modV key 12 < 12 := Int.emod_lt_of_pos _ (by omega)
  have mo0 : 0 ≤ modV other 12 := Int.emod_nonneg _ (by omega)
  have mo1 : modV other 12 < 12 := Int.emod_lt_of_pos _ (by omega)
  obtain ⟨m, hm⟩ : ∃ m, modV key 12 = m := ⟨_, rfl⟩
  obtain ⟨o, ho⟩ : ∃ o, modV other 12 = o := ⟨_, rfl⟩
  rw [hm] at HMk mk0 mk1
  rw [ho] at HMo mo0 mo1
  clear hm ho
  have HS := fun w => set_c Gen Gen_w V hVw (1 + m) w
  replace HS := hide HS
  have huP := Try.underlying26
  have hiP : (Try.prog.info? 26).map (·.size) = some (pC Gen).toList.length := by rw [pC_len]; exact sizeP
  go_enter Try.func5, Try.ntmps5
  go_wp2_with fail
  refine (genesis_c _).mono ?_
  rintro e w1 ⟨rfl, hb1⟩
  have HU1 := hide ((UBlk.new w key (N 0) (N 1) (N 2) (N 3) few how).below hb1 (by simp))
  have hs1 : w.heap.size + 1 ≤ w1.heap.size := by have := hb1.size; simpa using this
  have hB1 := hide (show Below w.heap.size w w1 from ((Below.refl _ _).alloc (Nat.le_refl _) _).trans (hb1.mono (by simp)))
  clear hb1
  have HZ := hide (PBlk.new w1 (fun _ => 0))
  have HU1' := hide (HU1.out.alloc (.cells (pC fun _ => 0) 26))
  have hB1' := hide (hB1.out.alloc (by omega) (.cells (pC fun _ => 0) 26))
  have huc := HU1'.out.cells
  go_wp2_with (refine wpList_store_row26 rfl (.tmp 5) (.tmp 16) rfl (g := w1.heap.size) Gen rfl rfl HZ.out ?_; intro w3 HP3 hB3 _; replace HP3 := hide HP3; have HB3 := hide (hB3 w.heap.size w (by omega) hB1'.out); have HU3 := hide ((HU1'.out).below (hB3 w1.heap.size _ (Nat.le_refl _) (Below.refl _ _)) (by omega)); clear hB3 HZ huc; have huc := HU3.out.cells)
  refine (HMk.out _).mono ?_
  rintro e w3' ⟨rfl, rfl⟩
  go_wp2_with fail
  refine (HMo.out _).mono ?_
  rintro e w3' ⟨rfl, rfl⟩
  have hs3 := HU3.out.lt
  have hlt3 := HP3.out.lt
  have HK3 := hide (show KS w w3 w1.heap.size Gen w.heap.size key (N 0) (N 1) (N 2) (N 3) few how from ⟨HB3.out, HP3.out, HU3.out⟩)
  clear HB3 HP3 HU3 HU1 hB1 HU1' hB1' huc huP hiP
  obtain ⟨E, hE⟩ : ∃ E, setE Gen (1 + m) V = E := ⟨_, rfl⟩
  rw [hE] at HS
  replace hE := hide hE
  go_upto_region 3 with fail
  go_cut [8, 9] (fun s8 s9 wx => ∃ g : Nat, s8 = .pointer (some ⟨g, 0, none⟩) ∧ s9 = .int .i64 E ∧ KS w wx w1.heap.size Gen w.heap.size key (N 0) (N 1) (N 2) (N 3) few how ∧ PBlk wx g (setR Gen (1 + m) V))
  case first =>
    have hK3 := HK3.out.drew
    refine wp_region_held_drew (S := fun w' => KS w w' w1.heap.size Gen w.heap.size key (N 0) (N 1) (N 2) (N 3) few how) (by kernel_rfl) hK3 (fun hHeld => ?_)
    (refine wpAnyH_take (i := 0) (v := _) rfl (by kernel_rfl) (by kernel_rfl) (by kernel_rfl) (fun _ _ _ h => h) (yieldsIf_load_mid (by rfl) 26 (.tmp 5) rfl w1.heap.size 0 rfl (pC Gen).toList _ (fun w h => h.2.1.range) Try.underlying26 rfl (by rw [pC_len]; exact sizeP)) (by assumption) ?_; (try simp only [Act.put, List.setIfInBounds_toArray, List.set_cons_zero, List.set_cons_succ, Array.toArray_toList, List.getElem_toArray, List.getElem_cons_succ, List.getElem_cons_zero]))
    (refine wpAnyH_take (i := 2) (v := _) rfl (by kernel_rfl) (by kernel_rfl) (by kernel_rfl) (fun _ _ _ h => h) (yieldsIf_load_mid (by rfl) 37 (.tmp 2) rfl w.heap.size 0 rfl [.int .i64 key, .int .u64 (N 0), .int .u64 (N 1), .int .u64 (N 2), .int .u64 (N 3), .int .u64 few, .int .u8 how] _ (fun w h => h.2.2.range) Try.underlying37 rfl size37) (by assumption) ?_; (try simp only [Act.put, List.setIfInBounds_toArray, List.set_cons_zero, List.set_cons_succ, Array.toArray_toList, List.getElem_toArray, List.getElem_cons_succ, List.getElem_cons_zero]))
    (refine wpAnyH_take (i := 1) (v := .int .i64 (1 + m)) rfl (by kernel_rfl) (by kernel_rfl) (by kernel_rfl) (fun _ _ _ h => h) (Or.inl ⟨by rfl, fun w _ => (by go_simp)⟩) (by assumption) ?_; (try simp only [Act.put, List.setIfInBounds_toArray, List.set_cons_zero, List.set_cons_succ, Array.toArray_toList, List.getElem_toArray, List.getElem_cons_succ, List.getElem_cons_zero]))
    refine wpAnyH_ready (rs := [3, 8]) (by kernel_rfl) (by simp) ?_
    refine AllReadyH.cons rfl (fun K hK => ?_) ?_
    · rw [if_pos (by rfl)]
      go_simp
      (go_at_call 19; refine (HVal.out _).mono ?_; rintro e w4 ⟨rfl, hb4⟩; have hs4 := hb4.size)
      go_wp2_with fail
      refine hK.out _ _ (hHeld.below' hb4) (fun hHeld => ?_)
      clear hK K
      (try simp only [Act.put, List.setIfInBounds_toArray, List.set_cons_zero, List.set_cons_succ, Array.toArray_toList, List.getElem_toArray, List.getElem_cons_succ, List.getElem_cons_zero])
      refine wpAnyH_ready (rs := [4, 8]) (by kernel_rfl) (by simp) ?_
      refine AllReadyH.cons rfl (fun K hK => ?_) ?_
      · rw [if_pos (by rfl)]
        go_simp
        (go_at_call 18; refine (HS.out _).mono ?_; rintro e w5 ⟨rfl, hb5⟩; have hs5 := hb5.size)
        go_wp2_with fail
        refine hK.out _ _ (hHeld.below' hb5) (fun hHeld => ?_)
        clear hK K
        (try simp only [Act.put, List.setIfInBounds_toArray, List.set_cons_zero, List.set_cons_succ, Array.toArray_toList, List.getElem_toArray, List.getElem_cons_succ, List.getElem_cons_zero])
        (refine wpAnyH_take (i := 5) (v := .tuple #[.agg (pC ((setR Gen (1 + m) V))), .int .i64 E]) rfl (by kernel_rfl) (by kernel_rfl) (by kernel_rfl) (fun _ _ _ h => h) (Or.inl ⟨by rfl, fun w _ => (by go_simp)⟩) (by assumption) ?_; (try simp only [Act.put, List.setIfInBounds_toArray, List.set_cons_zero, List.set_cons_succ, Array.toArray_toList, List.getElem_toArray, List.getElem_cons_succ, List.getElem_cons_zero]))
        (refine wpAnyH_take (i := 6) (v := .agg (pC ((setR Gen (1 + m) V)))) rfl (by kernel_rfl) (by kernel_rfl) (by kernel_rfl) (fun _ _ _ h => h) (Or.inl ⟨by rfl, fun w _ => (by go_simp)⟩) (by assumption) ?_; (try simp only [Act.put, List.setIfInBounds_toArray, List.set_cons_zero, List.set_cons_succ, Array.toArray_toList, List.getElem_toArray, List.getElem_cons_succ, List.getElem_cons_zero]))
        (refine wpAnyH_take (i := 7) (v := .int .i64 E) rfl (by kernel_rfl) (by kernel_rfl) (by kernel_rfl) (fun _ _ _ h => h) (Or.inl ⟨by rfl, fun w _ => (by go_simp)⟩) (by assumption) ?_; (try simp only [Act.put, List.setIfInBounds_toArray, List.set_cons_zero, List.set_cons_succ, Array.toArray_toList, List.getElem_toArray, List.getElem_cons_succ, List.getElem_cons_zero]))
        refine wpAnyH_ready (rs := [8]) (by kernel_rfl) (by simp) ?_
        refine AllReadyH.cons rfl (fun K hK => ?_) AllReadyH.nil
        have hzn := z_new w5
        have hzg := hHeld.1.size
        rw [if_pos (by rfl)]
        go_simp
        refine hK.out _ _ (hHeld.alloc _) (fun hHeld => ?_)
        clear hK K
        (try simp only [Act.put, List.setIfInBounds_toArray, List.set_cons_zero, List.set_cons_succ, Array.toArray_toList, List.getElem_toArray, List.getElem_cons_succ, List.getElem_cons_zero])
        refine wpAnyH_ready (rs := [9]) (by kernel_rfl) (by simp) ?_
        refine AllReadyH.cons rfl (fun K hK => ?_) AllReadyH.nil
        rw [if_pos (by rfl)]
        have hz := hide (hzn)
        refine wp_store_mid 26 _ _ rfl w5.heap.size 0 (pC (setR Gen (1 + m) V)) rfl rfl hz.out.there sizeP (pC_one _) ?_
        refine hK.out _ _ (hHeld.put (by decide) hz.out hzg _) (fun hHeld => ?_)
        clear hK K
        (try simp only [Act.put, List.setIfInBounds_toArray, List.set_cons_zero, List.set_cons_succ, Array.toArray_toList, List.getElem_toArray, List.getElem_cons_succ, List.getElem_cons_zero])
        (refine wpAnyH_take (i := 10) (v := .int .i64 E) rfl (by kernel_rfl) (by kernel_rfl) (by kernel_rfl) (fun _ _ _ h => h) (Or.inl ⟨by rfl, fun w _ => (by go_simp)⟩) (by assumption) ?_; (try simp only [Act.put, List.setIfInBounds_toArray, List.set_cons_zero, List.set_cons_succ, Array.toArray_toList, List.getElem_toArray, List.getElem_cons_succ, List.getElem_cons_zero]))
        refine wpAnyH_done (by kernel_rfl) ?_ _
        go_wp2_with fail
        go_meet
        exact ⟨w5.heap.size, rfl, rfl, hHeld, hz.out.put _⟩
      refine AllReadyH.cons rfl (fun K hK => ?_) AllReadyH.nil
      have hzn := z_new w4
      have hzg := hHeld.1.size
      rw [if_pos (by rfl)]
      go_simp
      refine hK.out _ _ (hHeld.alloc _) (fun hHeld => ?_)
      clear hK K
      (try simp only [Act.put, List.setIfInBounds_toArray, List.set_cons_zero, List.set_cons_succ, Array.toArray_toList, List.getElem_toArray, List.getElem_cons_succ, List.getElem_cons_zero])
      refine wpAnyH_ready (rs := [4]) (by kernel_rfl) (by simp) ?_
      refine AllReadyH.cons rfl (fun K hK => ?_) AllReadyH.nil
      rw [if_pos (by rfl)]
      go_simp
      (go_at_call 18; refine (HS.out _).mono ?_; rintro e w5 ⟨rfl, hb5⟩; have hs5 := hb5.size)
      go_wp2_with fail
      refine hK.out _ _ (hHeld.below' hb5) (fun hHeld => ?_)
      clear hK K
      (try simp only [Act.put, List.setIfInBounds_toArray, List.set_cons_zero, List.set_cons_succ, Array.toArray_toList, List.getElem_toArray, List.getElem_cons_succ, List.getElem_cons_zero])
      (refine wpAnyH_take (i := 5) (v := .tuple #[.agg (pC ((setR Gen (1 + m) V))), .int .i64 E]) rfl (by kernel_rfl) (by kernel_rfl) (by kernel_rfl) (fun _ _ _ h => h) (Or.inl ⟨by rfl, fun w _ => (by go_simp)⟩) (by assumption) ?_; (try simp only [Act.put, List.setIfInBounds_toArray, List.set_cons_zero, List.set_cons_succ, Array.toArray_toList, List.getElem_toArray, List.getElem_cons_succ, List.getElem_cons_zero]))
      (refine wpAnyH_take (i := 6) (v := .agg (pC ((setR Gen (1 + m) V)))) rfl (by kernel_rfl) (by kernel_rfl) (by kernel_rfl) (fun _ _ _ h => h) (Or.inl ⟨by rfl, fun w _ => (by go_simp)⟩) (by assumption) ?_; (try simp only [Act.put, List.setIfInBounds_toArray, List.set_cons_zero, List.set_cons_succ, Array.toArray_toList, List.getElem_toArray, List.getElem_cons_succ, List.getElem_cons_zero]))
      (refine wpAnyH_take (i := 7) (v := .int .i64 E) rfl (by kernel_rfl) (by kernel_rfl) (by kernel_rfl) (fun _ _ _ h => h) (Or.inl ⟨by rfl, fun w _ => (by go_simp)⟩) (by assumption) ?_; (try simp only [Act.put, List.setIfInBounds_toArray, List.set_cons_zero, List.set_cons_succ, Array.toArray_toList, List.getElem_toArray, List.getElem_cons_succ, List.getElem_cons_zero]))
      refine wpAnyH_ready (rs := [9]) (by kernel_rfl) (by simp) ?_
      refine AllReadyH.cons rfl (fun K hK => ?_) AllReadyH.nil
      rw [if_pos (by rfl)]
      have hz := hide (PBlk.below' hb5 (hzn))
      refine wp_store_mid 26 _ _ rfl w4.heap.size 0 (pC (setR Gen (1 + m) V)) rfl rfl hz.out.there sizeP (pC_one _) ?_
      refine hK.out _ _ (hHeld.put (by decide) hz.out hzg _) (fun hHeld => ?_)
      clear hK K
      (try simp only [Act.put, List.setIfInBounds_toArray, List.set_cons_zero, List.set_cons_succ, Array.toArray_toList, List.getElem_toArray, List.getElem_cons_succ, List.getElem_cons_zero])
      (refine wpAnyH_take (i := 10) (v := .int .i64 E) rfl (by kernel_rfl) (by kernel_rfl) (by kernel_rfl) (fun _ _ _ h => h) (Or.inl ⟨by rfl, fun w _ => (by go_simp)⟩) (by assumption) ?_; (try simp only [Act.put, List.setIfInBounds_toArray, List.set_cons_zero, List.set_cons_succ, Array.toArray_toList, List.getElem_toArray, List.getElem_cons_succ, List.getElem_cons_zero]))
      refine wpAnyH_done (by kernel_rfl) ?_ _
      go_wp2_with fail
      go_meet
      exact ⟨w4.heap.size, rfl, rfl, hHeld, hz.out.put _⟩
    refine AllReadyH.cons rfl (fun K hK => ?_) AllReadyH.nil
    have hzn := z_new w3.drew
    have hzg := hHeld.1.size
    rw [if_pos (by rfl)]
    go_simp
    refine hK.out _ _ (hHeld.alloc _) (fun hHeld => ?_)
    clear hK K
    (try simp only [Act.put, List.setIfInBounds_toArray, List.set_cons_zero, List.set_cons_succ, Array.toArray_toList, List.getElem_toArray, List.getElem_cons_succ, List.getElem_cons_zero])
    refine wpAnyH_ready (rs := [3]) (by kernel_rfl) (by simp) ?_
    refine AllReadyH.cons rfl (fun K hK => ?_) AllReadyH.nil
    rw [if_pos (by rfl)]
    go_simp
    (go_at_call 19; refine (HVal.out _).mono ?_; rintro e w4 ⟨rfl, hb4⟩; have hs4 := hb4.size)
    go_wp2_with fail
    refine hK.out _ _ (hHeld.below' hb4) (fun hHeld => ?_)
    clear hK K
    (try simp only [Act.put, List.setIfInBounds_toArray, List.set_cons_zero, List.set_cons_succ, Array.toArray_toList, List.getElem_toArray, List.getElem_cons_succ, List.getElem_cons_zero])
    refine wpAnyH_ready (rs := [4]) (by kernel_rfl) (by simp) ?_
    refine AllReadyH.cons rfl (fun K hK => ?_) AllReadyH.nil
    rw [if_pos (by rfl)]
    go_simp
    (go_at_call 18; refine (HS.out _).mono ?_; rintro e w5 ⟨rfl, hb5⟩; have hs5 := hb5.size)
    go_wp2_with fail
    refine hK.out _ _ (hHeld.below' hb5) (fun hHeld => ?_)
    clear hK K
    (try simp only [Act.put, List.setIfInBounds_toArray, List.set_cons_zero, List.set_cons_succ, Array.toArray_toList, List.getElem_toArray, List.getElem_cons_succ, List.getElem_cons_zero])
    (refine wpAnyH_take (i := 5) (v := .tuple #[.agg (pC ((setR Gen (1 + m) V))), .int .i64 E]) rfl (by kernel_rfl) (by kernel_rfl) (by kernel_rfl) (fun _ _ _ h => h) (Or.inl ⟨by rfl, fun w _ => (by go_simp)⟩) (by assumption) ?_; (try simp only [Act.put, List.setIfInBounds_toArray, List.set_cons_zero, List.set_cons_succ, Array.toArray_toList, List.getElem_toArray, List.getElem_cons_succ, List.getElem_cons_zero]))
    (refine wpAnyH_take (i := 6) (v := .agg (pC ((setR Gen (1 + m) V)))) rfl (by kernel_rfl) (by kernel_rfl) (by kernel_rfl) (fun _ _ _ h => h) (Or.inl ⟨by rfl, fun w _ => (by go_simp)⟩) (by assumption) ?_; (try simp only [Act.put, List.setIfInBounds_toArray, List.set_cons_zero, List.set_cons_succ, Array.toArray_toList, List.getElem_toArray, List.getElem_cons_succ, List.getElem_cons_zero]))
    (refine wpAnyH_take (i := 7) (v := .int .i64 E) rfl (by kernel_rfl) (by kernel_rfl) (by kernel_rfl) (fun _ _ _ h => h) (Or.inl ⟨by rfl, fun w _ => (by go_simp)⟩) (by assumption) ?_; (try simp only [Act.put, List.setIfInBounds_toArray, List.set_cons_zero, List.set_cons_succ, Array.toArray_toList, List.getElem_toArray, List.getElem_cons_succ, List.getElem_cons_zero]))
    refine wpAnyH_ready (rs := [9]) (by kernel_rfl) (by simp) ?_
    refine AllReadyH.cons rfl (fun K hK => ?_) AllReadyH.nil
    rw [if_pos (by rfl)]
    have hz := hide (PBlk.below' hb5 (PBlk.below' hb4 (hzn)))
    refine wp_store_mid 26 _ _ rfl w3.drew.heap.size 0 (pC (setR Gen (1 + m) V)) rfl rfl hz.out.there sizeP (pC_one _) ?_
    refine hK.out _ _ (hHeld.put (by decide) hz.out hzg _) (fun hHeld => ?_)
    clear hK K
    (try simp only [Act.put, List.setIfInBounds_toArray, List.set_cons_zero, List.set_cons_succ, Array.toArray_toList, List.getElem_toArray, List.getElem_cons_succ, List.getElem_cons_zero])
    (refine wpAnyH_take (i := 10) (v := .int .i64 E) rfl (by kernel_rfl) (by kernel_rfl) (by kernel_rfl) (fun _ _ _ h => h) (Or.inl ⟨by rfl, fun w _ => (by go_simp)⟩) (by assumption) ?_; (try simp only [Act.put, List.setIfInBounds_toArray, List.set_cons_zero, List.set_cons_succ, Array.toArray_toList, List.getElem_toArray, List.getElem_cons_succ, List.getElem_cons_zero]))
    refine wpAnyH_done (by kernel_rfl) ?_ _
    go_wp2_with fail
    go_meet
    exact ⟨w3.drew.heap.size, rfl, rfl, hHeld, hz.out.put _⟩
  case rest =>
    obtain ⟨g, rfl, rfl, hK, hz⟩ := hcut
    have H8 := hide hz
    have HP := hide hK.2.1
    have HU := hide hK.2.2
    have hB := hide hK.1
    have hl8 := hz.lt
    have hlP := hK.2.1.lt
    have hlU := hK.2.2.lt
    have hgP : g ≠ w1.heap.size ∨ True := .inr trivial
    clear hK hz HK3 hgP
    have k1 : 1 ≤ 1 + m := by omega
    have k2 : 1 + m ≤ 12 := by omega
    have q1 : 1 ≤ 1 + o := by omega
    have q2 : 1 + o ≤ 12 := by omega
    by_cases hE0 : E = 0
    · have hE' := hE.out
      rw [hE0] at hE'
      have hfit : f256 (1 + m) = none → V 1 = 0 ∧ V 2 = 0 ∧ V 3 = 0 := fun hf => valL_small hVw (((set_zero k1 k2 Gen_ok).1 hE').1 hf)
      obtain ⟨s0, s1, s2, s3⟩ := get_same (P := Gen) (n := V) k1 k2 hfit
      have hvR := set_valid hE'
      have hwR : PW (setP Gen (1 + m) V) := setP_w Gen_w hVw _
      rw [setR_set hE'] at H8
      have HG1 := hide (fun w => getP_c (setP Gen (1 + m) V) (1 + m) w)
      have HG2 := hide (fun w => getP_c (setP Gen (1 + m) V) (1 + o) w)
      have HG3 := hide (fun w => getP_c Gen (1 + o) w)
      have e1 : getE (1 + m) = 0 := if_pos ⟨k1, k2⟩
      have e2 : getE (1 + o) = 0 := if_pos ⟨q1, q2⟩
      rw [s0, s1, s2, s3, e1] at HG1
      rw [e2] at HG2 HG3
      have HV := hide (fun w => validP_c (setP Gen (1 + m) V) hwR w)
      rw [hvR] at HV
      obtain ⟨R, hR⟩ : ∃ R, setP Gen (1 + m) V = R := ⟨_, rfl⟩
      have hoth : o ≠ m → getL R (1 + o) 0 = getL Gen (1 + o) 0 ∧ getL R (1 + o) 1 = getL Gen (1 + o) 1 ∧ getL R (1 + o) 2 = getL Gen (1 + o) 2 ∧ getL R (1 + o) 3 = getL Gen (1 + o) 3 := fun hne => by rw [← hR]; exact get_other k1 k2 q1 q2 (by omega)
      rw [hR] at H8 HG1 HG2 HV
      subst hE0
      clear hE' hfit s0 s1 s2 s3 hvR hwR e1 e2 hR hE HS
      by_cases hom : o = m
      · subst hom
        obtain ⟨b0, hb0⟩ : ∃ b, getL R (1 + o) 0 = b := ⟨_, rfl⟩
        obtain ⟨b1, hb1⟩ : ∃ b, getL R (1 + o) 1 = b := ⟨_, rfl⟩
        obtain ⟨b2, hb2⟩ : ∃ b, getL R (1 + o) 2 = b := ⟨_, rfl⟩
        obtain ⟨b3, hb3⟩ : ∃ b, getL R (1 + o) 3 = b := ⟨_, rfl⟩
        rw [hb0, hb1, hb2, hb3] at HG2
        clear hoth hb0 hb1 hb2 hb3
        obtain ⟨c0, hc0⟩ : ∃ b, getL Gen (1 + o) 0 = b := ⟨_, rfl⟩
        obtain ⟨c1, hc1⟩ : ∃ b, getL Gen (1 + o) 1 = b := ⟨_, rfl⟩
        obtain ⟨c2, hc2⟩ : ∃ b, getL Gen (1 + o) 2 = b := ⟨_, rfl⟩
        obtain ⟨c3, hc3⟩ : ∃ b, getL Gen (1 + o) 3 = b := ⟨_, rfl⟩
        rw [hc0, hc1, hc2, hc3] at HG3
        clear hc0 hc1 hc2 hc3
        have hlU5 := HU.out.lt
        have hlP5 := HP.out.lt
        have hl85 := H8.out.lt
        have hsz5 := hB.out.size
        go_wp2_with (first | (refine wpList_load_row26 (P := R) rfl (.tmp 8) rfl (g := g) rfl H8.out ?_))
        refine (HG1.out _).mono ?_
        rintro e w6 ⟨rfl, hb⟩
        replace hB := hide (hB.out.trans (hb.mono hB.out.size))
        replace H8 := hide (H8.out.below hb H8.out.lt)
        have hlH86 := H8.out.lt
        replace HP := hide (HP.out.below hb HP.out.lt)
        have hlHP6 := HP.out.lt
        replace HU := hide (HU.out.below hb HU.out.lt)
        have hlHU6 := HU.out.lt
        have hsz6 := hB.out.size
        clear hb
        have HZ := hide (RBlk.new w6 #[.int .u64 0, .int .u64 0, .int .u64 0, .int .u64 0] 24)
        go_wp2_with (first | (refine wpList_store_rowR (by rfl) (.tmp 10) (.tmp 48) rfl rfl rfl HZ.out rfl sizeU4 (one4 _ _ _ _) ?_; intro w7 HX1 hS; replace HX1 := hide HX1; replace hB := hide (hS.1 w.heap.size w (by omega) (hB.out.alloc (by omega) _)); replace H8 := hide (show PBlk w7 g R from (hS.2.2 _ (by omega)).trans (H8.out.alloc _)); replace HP := hide (show PBlk w7 w1.heap.size Gen from (hS.2.2 _ (by omega)).trans (HP.out.alloc _)); replace HU := hide (show UBlk w7 w.heap.size key (N 0) (N 1) (N 2) (N 3) few how from (hS.2.2 _ (by omega)).trans (HU.out.alloc _)); clear hS HZ) | (refine wpList_load_row26 (P := R) rfl (.tmp 8) rfl (g := g) rfl H8.out ?_))
        refine (HG2.out _).mono ?_
        rintro e w8 ⟨rfl, hb⟩
        replace hB := hide (hB.out.trans (hb.mono hB.out.size))
        replace H8 := hide (H8.out.below hb H8.out.lt)
        have hlH88 := H8.out.lt
        replace HP := hide (HP.out.below hb HP.out.lt)
        have hlHP8 := HP.out.lt
        replace HU := hide (HU.out.below hb HU.out.lt)
        have hlHU8 := HU.out.lt
        replace HX1 := hide (HX1.out.below hb HX1.out.lt)
        have hlHX18 := HX1.out.lt
        have hsz8 := hB.out.size
        clear hb
        have HZ := hide (RBlk.new w8 #[.int .u64 0, .int .u64 0, .int .u64 0, .int .u64 0] 24)
        go_wp2_with (first | (refine wpList_store_rowR (by rfl) (.tmp 12) (.tmp 54) rfl rfl rfl HZ.out rfl sizeU4 (one4 _ _ _ _) ?_; intro w9 HX2 hS; replace HX2 := hide HX2; replace hB := hide (hS.1 w.heap.size w (by omega) (hB.out.alloc (by omega) _)); replace H8 := hide (show PBlk w9 g R from (hS.2.2 _ (by omega)).trans (H8.out.alloc _)); replace HP := hide (show PBlk w9 w1.heap.size Gen from (hS.2.2 _ (by omega)).trans (HP.out.alloc _)); replace HU := hide (show UBlk w9 w.heap.size key (N 0) (N 1) (N 2) (N 3) few how from (hS.2.2 _ (by omega)).trans (HU.out.alloc _)); replace HX1 := hide (hS.row (HX1.out.alloc _) (by omega)); clear hS HZ) | (refine wpList_load_row26 (P := Gen) rfl (.tmp 5) rfl (g := w1.heap.size) rfl HP.out ?_))
        refine (HG3.out _).mono ?_
        rintro e w10 ⟨rfl, hb⟩
        replace hB := hide (hB.out.trans (hb.mono hB.out.size))
        replace H8 := hide (H8.out.below hb H8.out.lt)
        have hlH810 := H8.out.lt
        replace HP := hide (HP.out.below hb HP.out.lt)
        have hlHP10 := HP.out.lt
        replace HU := hide (HU.out.below hb HU.out.lt)
        have hlHU10 := HU.out.lt
        replace HX1 := hide (HX1.out.below hb HX1.out.lt)
        have hlHX110 := HX1.out.lt
        replace HX2 := hide (HX2.out.below hb HX2.out.lt)
        have hlHX210 := HX2.out.lt
        have hsz10 := hB.out.size
        clear hb
        have HZ := hide (RBlk.new w10 #[.int .u64 0, .int .u64 0, .int .u64 0, .int .u64 0] 24)
        go_upto_region 9 with (refine wpList_store_rowR (by rfl) (.tmp 14) (.tmp 60) rfl rfl rfl HZ.out rfl sizeU4 (one4 _ _ _ _) ?_; intro w11 HX3 hS; replace HX3 := hide HX3; replace hB := hide (hS.1 w.heap.size w (by omega) (hB.out.alloc (by omega) _)); replace H8 := hide (show PBlk w11 g R from (hS.2.2 _ (by omega)).trans (H8.out.alloc _)); replace HP := hide (show PBlk w11 w1.heap.size Gen from (hS.2.2 _ (by omega)).trans (HP.out.alloc _)); replace HU := hide (show UBlk w11 w.heap.size key (N 0) (N 1) (N 2) (N 3) few how from (hS.2.2 _ (by omega)).trans (HU.out.alloc _)); replace HX1 := hide (hS.row (HX1.out.alloc _) (by omega)); replace HX2 := hide (hS.row (HX2.out.alloc _) (by omega)); clear hS HZ)
        (try simp only [Act.put, List.setIfInBounds_toArray, List.set_cons_succ, List.set_cons_zero])
        refine wp_region_held_drew (S := fun w' => Below w11.heap.size w11 w') (by kernel_rfl) ((Below.refl _ _).drew) (fun hHeld => ?_)
        (refine wpAnyH_take (i := 0) (v := _) rfl (by kernel_rfl) (by kernel_rfl) (by kernel_rfl) (fun _ _ _ h => h) (yieldsIf_load_mid (by rfl) 26 (.tmp 8) rfl (g) 0 rfl ((pC R)).toList _ (fun w h => ((H8.out.row).below h (H8.out.row).lt).range) Try.underlying26 rfl (by rw [Array.length_toList]; exact sizeP)) (by assumption) ?_; (try simp only [Act.put, List.setIfInBounds_toArray, List.set_cons_zero, List.set_cons_succ, Array.toArray_toList, List.getElem_toArray, List.getElem_cons_succ, List.getElem_cons_zero]))
        refine wpAnyH_ready (rs := [1]) (by kernel_rfl) (by simp) ?_
        refine AllReadyH.cons rfl (fun K hK => ?_) (AllReadyH.nil)
        · rw [if_pos (by rfl)]
          go_simp
          (go_at_call 12; refine (HV.out _).mono ?_; rintro e y1 ⟨rfl, hb_y1⟩)
          go_wp2_with fail
          refine hK.out _ _ (hHeld.trans (hb_y1.mono hHeld.size)) (fun hHeld => ?_)
          clear hK K
          (try simp only [Act.put, List.setIfInBounds_toArray, List.set_cons_zero, List.set_cons_succ, Array.toArray_toList, List.getElem_toArray, List.getElem_cons_succ, List.getElem_cons_zero])
          (refine wpAnyH_take (i := 2) (v := .bool true) rfl (by kernel_rfl) (by kernel_rfl) (by kernel_rfl) (fun _ _ _ h => h) (Or.inl ⟨by rfl, fun w _ => (by go_simp)⟩) (by assumption) ?_; (try simp only [Act.put, List.setIfInBounds_toArray, List.set_cons_zero, List.set_cons_succ, Array.toArray_toList, List.getElem_toArray, List.getElem_cons_succ, List.getElem_cons_zero]))
          (refine wpAnyH_take (i := 3) (v := .int .i64 0) rfl (by kernel_rfl) (by kernel_rfl) (by kernel_rfl) (fun _ _ _ h => h) (Or.inl ⟨by rfl, fun w _ => (by go_simp)⟩) (by assumption) ?_; (try simp only [Act.put, List.setIfInBounds_toArray, List.set_cons_zero, List.set_cons_succ, Array.toArray_toList, List.getElem_toArray, List.getElem_cons_succ, List.getElem_cons_zero]))
          (refine wpAnyH_take (i := 4) (v := .bool true) rfl (by kernel_rfl) (by kernel_rfl) (by kernel_rfl) (fun _ _ _ h => h) (Or.inl ⟨by rfl, fun w _ => (by go_simp)⟩) (by assumption) ?_; (try simp only [Act.put, List.setIfInBounds_toArray, List.set_cons_zero, List.set_cons_succ, Array.toArray_toList, List.getElem_toArray, List.getElem_cons_succ, List.getElem_cons_zero]))
          (refine wpAnyH_take (i := 5) (v := .bool true) rfl (by kernel_rfl) (by kernel_rfl) (by kernel_rfl) (fun _ _ _ h => h) (Or.inl ⟨by rfl, fun w _ => (by go_simp)⟩) (by assumption) ?_; (try simp only [Act.put, List.setIfInBounds_toArray, List.set_cons_zero, List.set_cons_succ, Array.toArray_toList, List.getElem_toArray, List.getElem_cons_succ, List.getElem_cons_zero]))
          (refine wpAnyH_take (i := 6) (v := .bool true) rfl (by kernel_rfl) (by kernel_rfl) (by kernel_rfl) (fun _ _ _ h => h) (Or.inl ⟨by rfl, fun w _ => (by go_simp)⟩) (by assumption) ?_; (try simp only [Act.put, List.setIfInBounds_toArray, List.set_cons_zero, List.set_cons_succ, Array.toArray_toList, List.getElem_toArray, List.getElem_cons_succ, List.getElem_cons_zero]))
          (refine wpAnyH_take (i := 7) (v := .int .i64 0) rfl (by kernel_rfl) (by kernel_rfl) (by kernel_rfl) (fun _ _ _ h => h) (Or.inl ⟨by rfl, fun w _ => (by go_simp)⟩) (by assumption) ?_; (try simp only [Act.put, List.setIfInBounds_toArray, List.set_cons_zero, List.set_cons_succ, Array.toArray_toList, List.getElem_toArray, List.getElem_cons_succ, List.getElem_cons_zero]))
          (refine wpAnyH_take (i := 8) (v := .bool true) rfl (by kernel_rfl) (by kernel_rfl) (by kernel_rfl) (fun _ _ _ h => h) (Or.inl ⟨by rfl, fun w _ => (by go_simp)⟩) (by assumption) ?_; (try simp only [Act.put, List.setIfInBounds_toArray, List.set_cons_zero, List.set_cons_succ, Array.toArray_toList, List.getElem_toArray, List.getElem_cons_succ, List.getElem_cons_zero]))
          (refine wpAnyH_take (i := 9) (v := .bool true) rfl (by kernel_rfl) (by kernel_rfl) (by kernel_rfl) (fun _ _ _ h => h) (Or.inl ⟨by rfl, fun w _ => (by go_simp)⟩) (by assumption) ?_; (try simp only [Act.put, List.setIfInBounds_toArray, List.set_cons_zero, List.set_cons_succ, Array.toArray_toList, List.getElem_toArray, List.getElem_cons_succ, List.getElem_cons_zero]))
          (refine wpAnyH_take (i := 10) (v := .bool true) rfl (by kernel_rfl) (by kernel_rfl) (by kernel_rfl) (fun _ _ _ h => h) (Or.inl ⟨by rfl, fun w _ => (by go_simp)⟩) (by assumption) ?_; (try simp only [Act.put, List.setIfInBounds_toArray, List.set_cons_zero, List.set_cons_succ, Array.toArray_toList, List.getElem_toArray, List.getElem_cons_succ, List.getElem_cons_zero]))
          (refine wpAnyH_take (i := 11) (v := .int .i64 0) rfl (by kernel_rfl) (by kernel_rfl) (by kernel_rfl) (fun _ _ _ h => h) (Or.inl ⟨by rfl, fun w _ => (by go_simp)⟩) (by assumption) ?_; (try simp only [Act.put, List.setIfInBounds_toArray, List.set_cons_zero, List.set_cons_succ, Array.toArray_toList, List.getElem_toArray, List.getElem_cons_succ, List.getElem_cons_zero]))
          (refine wpAnyH_take (i := 12) (v := .bool true) rfl (by kernel_rfl) (by kernel_rfl) (by kernel_rfl) (fun _ _ _ h => h) (Or.inl ⟨by rfl, fun w _ => (by go_simp)⟩) (by assumption) ?_; (try simp only [Act.put, List.setIfInBounds_toArray, List.set_cons_zero, List.set_cons_succ, Array.toArray_toList, List.getElem_toArray, List.getElem_cons_succ, List.getElem_cons_zero]))
          (refine wpAnyH_take (i := 13) (v := .bool true) rfl (by kernel_rfl) (by kernel_rfl) (by kernel_rfl) (fun _ _ _ h => h) (Or.inl ⟨by rfl, fun w _ => (by go_simp)⟩) (by assumption) ?_; (try simp only [Act.put, List.setIfInBounds_toArray, List.set_cons_zero, List.set_cons_succ, Array.toArray_toList, List.getElem_toArray, List.getElem_cons_succ, List.getElem_cons_zero]))
          (refine wpAnyH_take (i := 14) (v := .bool true) rfl (by kernel_rfl) (by kernel_rfl) (by kernel_rfl) (fun _ _ _ h => h) (Or.inl ⟨by rfl, fun w _ => (by go_simp)⟩) (by assumption) ?_; (try simp only [Act.put, List.setIfInBounds_toArray, List.set_cons_zero, List.set_cons_succ, Array.toArray_toList, List.getElem_toArray, List.getElem_cons_succ, List.getElem_cons_zero]))
          (refine wpAnyH_take (i := 15) (v := _) rfl (by kernel_rfl) (by kernel_rfl) (by kernel_rfl) (fun _ _ _ h => h) (yieldsIf_load_mid (by rfl) 24 (.tmp 10) rfl (w6.heap.size) 0 rfl (#[.int .u64 (V 0), .int .u64 (V 1), .int .u64 (V 2), .int .u64 (V 3)]).toList _ (fun w h => ((HX1.out).below h (HX1.out).lt).range) Try.underlying24 rfl (by rw [Array.length_toList]; exact sizeU4)) (by assumption) ?_; (try simp only [Act.put, List.setIfInBounds_toArray, List.set_cons_zero, List.set_cons_succ, Array.toArray_toList, List.getElem_toArray, List.getElem_cons_succ, List.getElem_cons_zero]))
          (refine wpAnyH_take (i := 16) (v := _) rfl (by kernel_rfl) (by kernel_rfl) (by kernel_rfl) (fun _ _ _ h => h) (yieldsIf_load_mid (by rfl) 37 (.tmp 2) rfl (w.heap.size) 0 rfl (#[.int .i64 key, .int .u64 (N 0), .int .u64 (N 1), .int .u64 (N 2), .int .u64 (N 3), .int .u64 few, .int .u8 how]).toList _ (fun w h => ((HU.out.row).below h (HU.out.row).lt).range) Try.underlying37 rfl (by rw [Array.length_toList]; exact size37')) (by assumption) ?_; (try simp only [Act.put, List.setIfInBounds_toArray, List.set_cons_zero, List.set_cons_succ, Array.toArray_toList, List.getElem_toArray, List.getElem_cons_succ, List.getElem_cons_zero]))
          refine wpAnyH_ready (rs := [17]) (by kernel_rfl) (by simp) ?_
          refine AllReadyH.cons rfl (fun K hK => ?_) (AllReadyH.nil)
          · rw [if_pos (by rfl)]
            go_simp
            (go_at_call 19; refine (HVal.out _).mono ?_; rintro e y2 ⟨rfl, hb_y2⟩)
            go_wp2_with fail
            refine hK.out _ _ (hHeld.trans (hb_y2.mono hHeld.size)) (fun hHeld => ?_)
            clear hK K
            (try simp only [Act.put, List.setIfInBounds_toArray, List.set_cons_zero, List.set_cons_succ, Array.toArray_toList, List.getElem_toArray, List.getElem_cons_succ, List.getElem_cons_zero])
            (refine wpAnyH_take (i := 18) (v := .bool true) rfl (by kernel_rfl) (by kernel_rfl) (by kernel_rfl) (fun _ _ _ h => h) (Or.inl ⟨by rfl, fun w _ => (by go_simp)⟩) (by assumption) ?_; (try simp only [Act.put, List.setIfInBounds_toArray, List.set_cons_zero, List.set_cons_succ, Array.toArray_toList, List.getElem_toArray, List.getElem_cons_succ, List.getElem_cons_zero]))
            (refine wpAnyH_take (i := 19) (v := .bool true) rfl (by kernel_rfl) (by kernel_rfl) (by kernel_rfl) (fun _ _ _ h => h) (Or.inl ⟨by rfl, fun w _ => (by go_simp)⟩) (by assumption) ?_; (try simp only [Act.put, List.setIfInBounds_toArray, List.set_cons_zero, List.set_cons_succ, Array.toArray_toList, List.getElem_toArray, List.getElem_cons_succ, List.getElem_cons_zero]))
            (refine wpAnyH_take (i := 20) (v := .bool true) rfl (by kernel_rfl) (by kernel_rfl) (by kernel_rfl) (fun _ _ _ h => h) (Or.inl ⟨by rfl, fun w _ => (by go_simp)⟩) (by assumption) ?_; (try simp only [Act.put, List.setIfInBounds_toArray, List.set_cons_zero, List.set_cons_succ, Array.toArray_toList, List.getElem_toArray, List.getElem_cons_succ, List.getElem_cons_zero]))
            (refine wpAnyH_take (i := 21) (v := .int .i64 (1 + o)) rfl (by kernel_rfl) (by kernel_rfl) (by kernel_rfl) (fun _ _ _ h => h) (Or.inl ⟨by rfl, fun w _ => (by go_simp)⟩) (by assumption) ?_; (try simp only [Act.put, List.setIfInBounds_toArray, List.set_cons_zero, List.set_cons_succ, Array.toArray_toList, List.getElem_toArray, List.getElem_cons_succ, List.getElem_cons_zero]))
            (refine wpAnyH_take (i := 22) (v := .int .i64 (1 + o)) rfl (by kernel_rfl) (by kernel_rfl) (by kernel_rfl) (fun _ _ _ h => h) (Or.inl ⟨by rfl, fun w _ => (by go_simp)⟩) (by assumption) ?_; (try simp only [Act.put, List.setIfInBounds_toArray, List.set_cons_zero, List.set_cons_succ, Array.toArray_toList, List.getElem_toArray, List.getElem_cons_succ, List.getElem_cons_zero]))
            (refine wpAnyH_take (i := 23) (v := .bool true) rfl (by kernel_rfl) (by kernel_rfl) (by kernel_rfl) (fun _ _ _ h => h) (Or.inl ⟨by rfl, fun w _ => (by go_simp)⟩) (by assumption) ?_; (try simp only [Act.put, List.setIfInBounds_toArray, List.set_cons_zero, List.set_cons_succ, Array.toArray_toList, List.getElem_toArray, List.getElem_cons_succ, List.getElem_cons_zero]))
            (refine wpAnyH_take (i := 24) (v := .bool true) rfl (by kernel_rfl) (by kernel_rfl) (by kernel_rfl) (fun _ _ _ h => h) (Or.inl ⟨by rfl, fun w _ => (by go_simp)⟩) (by assumption) ?_; (try simp only [Act.put, List.setIfInBounds_toArray, List.set_cons_zero, List.set_cons_succ, Array.toArray_toList, List.getElem_toArray, List.getElem_cons_succ, List.getElem_cons_zero]))
            (refine wpAnyH_take (i := 25) (v := undef) rfl (by kernel_rfl) (by kernel_rfl) (by kernel_rfl) (fun _ _ _ h => h) (Or.inr ⟨by rfl, rfl⟩) (by assumption) ?_; (try simp only [Act.put, List.setIfInBounds_toArray, List.set_cons_zero, List.set_cons_succ, Array.toArray_toList, List.getElem_toArray, List.getElem_cons_succ, List.getElem_cons_zero]))
            (refine wpAnyH_take (i := 26) (v := undef) rfl (by kernel_rfl) (by kernel_rfl) (by kernel_rfl) (fun _ _ _ h => h) (Or.inr ⟨by rfl, rfl⟩) (by assumption) ?_; (try simp only [Act.put, List.setIfInBounds_toArray, List.set_cons_zero, List.set_cons_succ, Array.toArray_toList, List.getElem_toArray, List.getElem_cons_succ, List.getElem_cons_zero]))
            (refine wpAnyH_take (i := 27) (v := undef) rfl (by kernel_rfl) (by kernel_rfl) (by kernel_rfl) (fun _ _ _ h => h) (Or.inr ⟨by rfl, rfl⟩) (by assumption) ?_; (try simp only [Act.put, List.setIfInBounds_toArray, List.set_cons_zero, List.set_cons_succ, Array.toArray_toList, List.getElem_toArray, List.getElem_cons_succ, List.getElem_cons_zero]))
            (refine wpAnyH_take (i := 28) (v := .bool true) rfl (by kernel_rfl) (by kernel_rfl) (by kernel_rfl) (fun _ _ _ h => h) (Or.inl ⟨by rfl, fun w _ => (by go_simp)⟩) (by assumption) ?_; (try simp only [Act.put, List.setIfInBounds_toArray, List.set_cons_zero, List.set_cons_succ, Array.toArray_toList, List.getElem_toArray, List.getElem_cons_succ, List.getElem_cons_zero]))
            (refine wpAnyH_take (i := 29) (v := .bool true) rfl (by kernel_rfl) (by kernel_rfl) (by kernel_rfl) (fun _ _ _ h => h) (Or.inl ⟨by rfl, fun w _ => (by go_simp)⟩) (by assumption) ?_; (try simp only [Act.put, List.setIfInBounds_toArray, List.set_cons_zero, List.set_cons_succ, Array.toArray_toList, List.getElem_toArray, List.getElem_cons_succ, List.getElem_cons_zero]))
            (refine wpAnyH_take (i := 30) (v := .bool true) rfl (by kernel_rfl) (by kernel_rfl) (by kernel_rfl) (fun _ _ _ h => h) (Or.inl ⟨by rfl, fun w _ => (by go_simp)⟩) (by assumption) ?_; (try simp only [Act.put, List.setIfInBounds_toArray, List.set_cons_zero, List.set_cons_succ, Array.toArray_toList, List.getElem_toArray, List.getElem_cons_succ, List.getElem_cons_zero]))
            refine wpAnyH_ready (rs := [31]) (by kernel_rfl) (by simp) ?_
            refine AllReadyH.cons rfl (fun K hK => ?_) (AllReadyH.nil)
            · rw [if_pos (by rfl)]
              go_simp
              (go_at_call 16; refine (awake12_c _).mono ?_; rintro e y3 ⟨rfl, hb_y3⟩)
              go_wp2_with fail
              refine hK.out _ _ (hHeld.trans (hb_y3.mono hHeld.size)) (fun hHeld => ?_)
              clear hK K
              (try simp only [Act.put, List.setIfInBounds_toArray, List.set_cons_zero, List.set_cons_succ, Array.toArray_toList, List.getElem_toArray, List.getElem_cons_succ, List.getElem_cons_zero])
              (refine wpAnyH_take (i := 32) (v := .bool true) rfl (by kernel_rfl) (by kernel_rfl) (by kernel_rfl) (fun _ _ _ h => h) (Or.inl ⟨by rfl, fun w _ => (by go_simp)⟩) (by assumption) ?_; (try simp only [Act.put, List.setIfInBounds_toArray, List.set_cons_zero, List.set_cons_succ, Array.toArray_toList, List.getElem_toArray, List.getElem_cons_succ, List.getElem_cons_zero]))
              (refine wpAnyH_take (i := 33) (v := .bool true) rfl (by kernel_rfl) (by kernel_rfl) (by kernel_rfl) (fun _ _ _ h => h) (Or.inl ⟨by rfl, fun w _ => (by go_simp)⟩) (by assumption) ?_; (try simp only [Act.put, List.setIfInBounds_toArray, List.set_cons_zero, List.set_cons_succ, Array.toArray_toList, List.getElem_toArray, List.getElem_cons_succ, List.getElem_cons_zero]))
              refine wpAnyH_done (by kernel_rfl) ?_ _
              have hBf := hB.out.trans (hHeld.mono hB.out.size)
              go_wp2
              go_ret
              exact ⟨rfl, hBf⟩
      · have hom' : (1 + o == 1 + m) = false := by simp; omega
        have hom2 : ¬ (1 + o = 1 + m) := by omega
        obtain ⟨t0, t1, t2, t3⟩ := hoth hom
        rw [t0, t1, t2, t3] at HG2
        clear hoth t0 t1 t2 t3
        obtain ⟨c0, hc0⟩ : ∃ b, getL Gen (1 + o) 0 = b := ⟨_, rfl⟩
        obtain ⟨c1, hc1⟩ : ∃ b, getL Gen (1 + o) 1 = b := ⟨_, rfl⟩
        obtain ⟨c2, hc2⟩ : ∃ b, getL Gen (1 + o) 2 = b := ⟨_, rfl⟩
        obtain ⟨c3, hc3⟩ : ∃ b, getL Gen (1 + o) 3 = b := ⟨_, rfl⟩
        rw [hc0, hc1, hc2, hc3] at HG3
        rw [hc0, hc1, hc2, hc3] at HG2
        clear hc0 hc1 hc2 hc3
        have hlU5 := HU.out.lt
        have hlP5 := HP.out.lt
        have hl85 := H8.out.lt
        have hsz5 := hB.out.size
        go_wp2_with (first | (refine wpList_load_row26 (P := R) rfl (.tmp 8) rfl (g := g) rfl H8.out ?_))
        refine (HG1.out _).mono ?_
        rintro e w6 ⟨rfl, hb⟩
        replace hB := hide (hB.out.trans (hb.mono hB.out.size))
        replace H8 := hide (H8.out.below hb H8.out.lt)
        have hlH86 := H8.out.lt
        replace HP := hide (HP.out.below hb HP.out.lt)
        have hlHP6 := HP.out.lt
        replace HU := hide (HU.out.below hb HU.out.lt)
        have hlHU6 := HU.out.lt
        have hsz6 := hB.out.size
        clear hb
        have HZ := hide (RBlk.new w6 #[.int .u64 0, .int .u64 0, .int .u64 0, .int .u64 0] 24)
        go_wp2_with (first | (refine wpList_store_rowR (by rfl) (.tmp 10) (.tmp 48) rfl rfl rfl HZ.out rfl sizeU4 (one4 _ _ _ _) ?_; intro w7 HX1 hS; replace HX1 := hide HX1; replace hB := hide (hS.1 w.heap.size w (by omega) (hB.out.alloc (by omega) _)); replace H8 := hide (show PBlk w7 g R from (hS.2.2 _ (by omega)).trans (H8.out.alloc _)); replace HP := hide (show PBlk w7 w1.heap.size Gen from (hS.2.2 _ (by omega)).trans (HP.out.alloc _)); replace HU := hide (show UBlk w7 w.heap.size key (N 0) (N 1) (N 2) (N 3) few how from (hS.2.2 _ (by omega)).trans (HU.out.alloc _)); clear hS HZ) | (refine wpList_load_row26 (P := R) rfl (.tmp 8) rfl (g := g) rfl H8.out ?_))
        refine (HG2.out _).mono ?_
        rintro e w8 ⟨rfl, hb⟩
        replace hB := hide (hB.out.trans (hb.mono hB.out.size))
        replace H8 := hide (H8.out.below hb H8.out.lt)
        have hlH88 := H8.out.lt
        replace HP := hide (HP.out.below hb HP.out.lt)
        have hlHP8 := HP.out.lt
        replace HU := hide (HU.out.below hb HU.out.lt)
        have hlHU8 := HU.out.lt
        replace HX1 := hide (HX1.out.below hb HX1.out.lt)
        have hlHX18 := HX1.out.lt
        have hsz8 := hB.out.size
        clear hb
        have HZ := hide (RBlk.new w8 #[.int .u64 0, .int .u64 0, .int .u64 0, .int .u64 0] 24)
        go_wp2_with (first | (refine wpList_store_rowR (by rfl) (.tmp 12) (.tmp 54) rfl rfl rfl HZ.out rfl sizeU4 (one4 _ _ _ _) ?_; intro w9 HX2 hS; replace HX2 := hide HX2; replace hB := hide (hS.1 w.heap.size w (by omega) (hB.out.alloc (by omega) _)); replace H8 := hide (show PBlk w9 g R from (hS.2.2 _ (by omega)).trans (H8.out.alloc _)); replace HP := hide (show PBlk w9 w1.heap.size Gen from (hS.2.2 _ (by omega)).trans (HP.out.alloc _)); replace HU := hide (show UBlk w9 w.heap.size key (N 0) (N 1) (N 2) (N 3) few how from (hS.2.2 _ (by omega)).trans (HU.out.alloc _)); replace HX1 := hide (hS.row (HX1.out.alloc _) (by omega)); clear hS HZ) | (refine wpList_load_row26 (P := Gen) rfl (.tmp 5) rfl (g := w1.heap.size) rfl HP.out ?_))
        refine (HG3.out _).mono ?_
        rintro e w10 ⟨rfl, hb⟩
        replace hB := hide (hB.out.trans (hb.mono hB.out.size))
        replace H8 := hide (H8.out.below hb H8.out.lt)
        have hlH810 := H8.out.lt
        replace HP := hide (HP.out.below hb HP.out.lt)
        have hlHP10 := HP.out.lt
        replace HU := hide (HU.out.below hb HU.out.lt)
        have hlHU10 := HU.out.lt
        replace HX1 := hide (HX1.out.below hb HX1.out.lt)
        have hlHX110 := HX1.out.lt
        replace HX2 := hide (HX2.out.below hb HX2.out.lt)
        have hlHX210 := HX2.out.lt
        have hsz10 := hB.out.size
        clear hb
        have HZ := hide (RBlk.new w10 #[.int .u64 0, .int .u64 0, .int .u64 0, .int .u64 0] 24)
        go_upto_region 9 with (refine wpList_store_rowR (by rfl) (.tmp 14) (.tmp 60) rfl rfl rfl HZ.out rfl sizeU4 (one4 _ _ _ _) ?_; intro w11 HX3 hS; replace HX3 := hide HX3; replace hB := hide (hS.1 w.heap.size w (by omega) (hB.out.alloc (by omega) _)); replace H8 := hide (show PBlk w11 g R from (hS.2.2 _ (by omega)).trans (H8.out.alloc _)); replace HP := hide (show PBlk w11 w1.heap.size Gen from (hS.2.2 _ (by omega)).trans (HP.out.alloc _)); replace HU := hide (show UBlk w11 w.heap.size key (N 0) (N 1) (N 2) (N 3) few how from (hS.2.2 _ (by omega)).trans (HU.out.alloc _)); replace HX1 := hide (hS.row (HX1.out.alloc _) (by omega)); replace HX2 := hide (hS.row (HX2.out.alloc _) (by omega)); clear hS HZ)
        (try simp only [Act.put, List.setIfInBounds_toArray, List.set_cons_succ, List.set_cons_zero])
        refine wp_region_held_drew (S := fun w' => Below w11.heap.size w11 w') (by kernel_rfl) ((Below.refl _ _).drew) (fun hHeld => ?_)
        (refine wpAnyH_take (i := 0) (v := _) rfl (by kernel_rfl) (by kernel_rfl) (by kernel_rfl) (fun _ _ _ h => h) (yieldsIf_load_mid (by rfl) 26 (.tmp 8) rfl (g) 0 rfl ((pC R)).toList _ (fun w h => ((H8.out.row).below h (H8.out.row).lt).range) Try.underlying26 rfl (by rw [Array.length_toList]; exact sizeP)) (by assumption) ?_; (try simp only [Act.put, List.setIfInBounds_toArray, List.set_cons_zero, List.set_cons_succ, Array.toArray_toList, List.getElem_toArray, List.getElem_cons_succ, List.getElem_cons_zero]))
        refine wpAnyH_ready (rs := [1]) (by kernel_rfl) (by simp) ?_
        refine AllReadyH.cons rfl (fun K hK => ?_) (AllReadyH.nil)
        · rw [if_pos (by rfl)]
          go_simp
          (go_at_call 12; refine (HV.out _).mono ?_; rintro e y1 ⟨rfl, hb_y1⟩)
          go_wp2_with fail
          refine hK.out _ _ (hHeld.trans (hb_y1.mono hHeld.size)) (fun hHeld => ?_)
          clear hK K
          (try simp only [Act.put, List.setIfInBounds_toArray, List.set_cons_zero, List.set_cons_succ, Array.toArray_toList, List.getElem_toArray, List.getElem_cons_succ, List.getElem_cons_zero])
          (refine wpAnyH_take (i := 2) (v := .bool true) rfl (by kernel_rfl) (by kernel_rfl) (by kernel_rfl) (fun _ _ _ h => h) (Or.inl ⟨by rfl, fun w _ => (by go_simp)⟩) (by assumption) ?_; (try simp only [Act.put, List.setIfInBounds_toArray, List.set_cons_zero, List.set_cons_succ, Array.toArray_toList, List.getElem_toArray, List.getElem_cons_succ, List.getElem_cons_zero]))
          (refine wpAnyH_take (i := 3) (v := .int .i64 0) rfl (by kernel_rfl) (by kernel_rfl) (by kernel_rfl) (fun _ _ _ h => h) (Or.inl ⟨by rfl, fun w _ => (by go_simp)⟩) (by assumption) ?_; (try simp only [Act.put, List.setIfInBounds_toArray, List.set_cons_zero, List.set_cons_succ, Array.toArray_toList, List.getElem_toArray, List.getElem_cons_succ, List.getElem_cons_zero]))
          (refine wpAnyH_take (i := 4) (v := .bool true) rfl (by kernel_rfl) (by kernel_rfl) (by kernel_rfl) (fun _ _ _ h => h) (Or.inl ⟨by rfl, fun w _ => (by go_simp)⟩) (by assumption) ?_; (try simp only [Act.put, List.setIfInBounds_toArray, List.set_cons_zero, List.set_cons_succ, Array.toArray_toList, List.getElem_toArray, List.getElem_cons_succ, List.getElem_cons_zero]))
          (refine wpAnyH_take (i := 5) (v := .bool true) rfl (by kernel_rfl) (by kernel_rfl) (by kernel_rfl) (fun _ _ _ h => h) (Or.inl ⟨by rfl, fun w _ => (by go_simp)⟩) (by assumption) ?_; (try simp only [Act.put, List.setIfInBounds_toArray, List.set_cons_zero, List.set_cons_succ, Array.toArray_toList, List.getElem_toArray, List.getElem_cons_succ, List.getElem_cons_zero]))
          (refine wpAnyH_take (i := 6) (v := .bool true) rfl (by kernel_rfl) (by kernel_rfl) (by kernel_rfl) (fun _ _ _ h => h) (Or.inl ⟨by rfl, fun w _ => (by go_simp)⟩) (by assumption) ?_; (try simp only [Act.put, List.setIfInBounds_toArray, List.set_cons_zero, List.set_cons_succ, Array.toArray_toList, List.getElem_toArray, List.getElem_cons_succ, List.getElem_cons_zero]))
          (refine wpAnyH_take (i := 7) (v := .int .i64 0) rfl (by kernel_rfl) (by kernel_rfl) (by kernel_rfl) (fun _ _ _ h => h) (Or.inl ⟨by rfl, fun w _ => (by go_simp)⟩) (by assumption) ?_; (try simp only [Act.put, List.setIfInBounds_toArray, List.set_cons_zero, List.set_cons_succ, Array.toArray_toList, List.getElem_toArray, List.getElem_cons_succ, List.getElem_cons_zero]))
          (refine wpAnyH_take (i := 8) (v := .bool true) rfl (by kernel_rfl) (by kernel_rfl) (by kernel_rfl) (fun _ _ _ h => h) (Or.inl ⟨by rfl, fun w _ => (by go_simp)⟩) (by assumption) ?_; (try simp only [Act.put, List.setIfInBounds_toArray, List.set_cons_zero, List.set_cons_succ, Array.toArray_toList, List.getElem_toArray, List.getElem_cons_succ, List.getElem_cons_zero]))
          (refine wpAnyH_take (i := 9) (v := .bool true) rfl (by kernel_rfl) (by kernel_rfl) (by kernel_rfl) (fun _ _ _ h => h) (Or.inl ⟨by rfl, fun w _ => (by go_simp)⟩) (by assumption) ?_; (try simp only [Act.put, List.setIfInBounds_toArray, List.set_cons_zero, List.set_cons_succ, Array.toArray_toList, List.getElem_toArray, List.getElem_cons_succ, List.getElem_cons_zero]))
          (refine wpAnyH_take (i := 10) (v := .bool true) rfl (by kernel_rfl) (by kernel_rfl) (by kernel_rfl) (fun _ _ _ h => h) (Or.inl ⟨by rfl, fun w _ => (by go_simp)⟩) (by assumption) ?_; (try simp only [Act.put, List.setIfInBounds_toArray, List.set_cons_zero, List.set_cons_succ, Array.toArray_toList, List.getElem_toArray, List.getElem_cons_succ, List.getElem_cons_zero]))
          (refine wpAnyH_take (i := 11) (v := .int .i64 0) rfl (by kernel_rfl) (by kernel_rfl) (by kernel_rfl) (fun _ _ _ h => h) (Or.inl ⟨by rfl, fun w _ => (by go_simp)⟩) (by assumption) ?_; (try simp only [Act.put, List.setIfInBounds_toArray, List.set_cons_zero, List.set_cons_succ, Array.toArray_toList, List.getElem_toArray, List.getElem_cons_succ, List.getElem_cons_zero]))
          (refine wpAnyH_take (i := 12) (v := .bool true) rfl (by kernel_rfl) (by kernel_rfl) (by kernel_rfl) (fun _ _ _ h => h) (Or.inl ⟨by rfl, fun w _ => (by go_simp)⟩) (by assumption) ?_; (try simp only [Act.put, List.setIfInBounds_toArray, List.set_cons_zero, List.set_cons_succ, Array.toArray_toList, List.getElem_toArray, List.getElem_cons_succ, List.getElem_cons_zero]))
          (refine wpAnyH_take (i := 13) (v := .bool true) rfl (by kernel_rfl) (by kernel_rfl) (by kernel_rfl) (fun _ _ _ h => h) (Or.inl ⟨by rfl, fun w _ => (by go_simp)⟩) (by assumption) ?_; (try simp only [Act.put, List.setIfInBounds_toArray, List.set_cons_zero, List.set_cons_succ, Array.toArray_toList, List.getElem_toArray, List.getElem_cons_succ, List.getElem_cons_zero]))
          (refine wpAnyH_take (i := 14) (v := .bool true) rfl (by kernel_rfl) (by kernel_rfl) (by kernel_rfl) (fun _ _ _ h => h) (Or.inl ⟨by rfl, fun w _ => (by go_simp)⟩) (by assumption) ?_; (try simp only [Act.put, List.setIfInBounds_toArray, List.set_cons_zero, List.set_cons_succ, Array.toArray_toList, List.getElem_toArray, List.getElem_cons_succ, List.getElem_cons_zero]))
          (refine wpAnyH_take (i := 15) (v := _) rfl (by kernel_rfl) (by kernel_rfl) (by kernel_rfl) (fun _ _ _ h => h) (yieldsIf_load_mid (by rfl) 24 (.tmp 10) rfl (w6.heap.size) 0 rfl (#[.int .u64 (V 0), .int .u64 (V 1), .int .u64 (V 2), .int .u64 (V 3)]).toList _ (fun w h => ((HX1.out).below h (HX1.out).lt).range) Try.underlying24 rfl (by rw [Array.length_toList]; exact sizeU4)) (by assumption) ?_; (try simp only [Act.put, List.setIfInBounds_toArray, List.set_cons_zero, List.set_cons_succ, Array.toArray_toList, List.getElem_toArray, List.getElem_cons_succ, List.getElem_cons_zero]))
          (refine wpAnyH_take (i := 16) (v := _) rfl (by kernel_rfl) (by kernel_rfl) (by kernel_rfl) (fun _ _ _ h => h) (yieldsIf_load_mid (by rfl) 37 (.tmp 2) rfl (w.heap.size) 0 rfl (#[.int .i64 key, .int .u64 (N 0), .int .u64 (N 1), .int .u64 (N 2), .int .u64 (N 3), .int .u64 few, .int .u8 how]).toList _ (fun w h => ((HU.out.row).below h (HU.out.row).lt).range) Try.underlying37 rfl (by rw [Array.length_toList]; exact size37')) (by assumption) ?_; (try simp only [Act.put, List.setIfInBounds_toArray, List.set_cons_zero, List.set_cons_succ, Array.toArray_toList, List.getElem_toArray, List.getElem_cons_succ, List.getElem_cons_zero]))
          refine wpAnyH_ready (rs := [17]) (by kernel_rfl) (by simp) ?_
          refine AllReadyH.cons rfl (fun K hK => ?_) (AllReadyH.nil)
          · rw [if_pos (by rfl)]
            go_simp
            (go_at_call 19; refine (HVal.out _).mono ?_; rintro e y2 ⟨rfl, hb_y2⟩)
            go_wp2_with fail
            refine hK.out _ _ (hHeld.trans (hb_y2.mono hHeld.size)) (fun hHeld => ?_)
            clear hK K
            (try simp only [Act.put, List.setIfInBounds_toArray, List.set_cons_zero, List.set_cons_succ, Array.toArray_toList, List.getElem_toArray, List.getElem_cons_succ, List.getElem_cons_zero])
            (refine wpAnyH_take (i := 18) (v := .bool true) rfl (by kernel_rfl) (by kernel_rfl) (by kernel_rfl) (fun _ _ _ h => h) (Or.inl ⟨by rfl, fun w _ => (by go_simp)⟩) (by assumption) ?_; (try simp only [Act.put, List.setIfInBounds_toArray, List.set_cons_zero, List.set_cons_succ, Array.toArray_toList, List.getElem_toArray, List.getElem_cons_succ, List.getElem_cons_zero]))
            (refine wpAnyH_take (i := 19) (v := .bool true) rfl (by kernel_rfl) (by kernel_rfl) (by kernel_rfl) (fun _ _ _ h => h) (Or.inl ⟨by rfl, fun w _ => (by go_simp)⟩) (by assumption) ?_; (try simp only [Act.put, List.setIfInBounds_toArray, List.set_cons_zero, List.set_cons_succ, Array.toArray_toList, List.getElem_toArray, List.getElem_cons_succ, List.getElem_cons_zero]))
            (refine wpAnyH_take (i := 20) (v := .bool true) rfl (by kernel_rfl) (by kernel_rfl) (by kernel_rfl) (fun _ _ _ h => h) (Or.inl ⟨by rfl, fun w _ => (by go_simp)⟩) (by assumption) ?_; (try simp only [Act.put, List.setIfInBounds_toArray, List.set_cons_zero, List.set_cons_succ, Array.toArray_toList, List.getElem_toArray, List.getElem_cons_succ, List.getElem_cons_zero]))
            (refine wpAnyH_take (i := 21) (v := .int .i64 (1 + o)) rfl (by kernel_rfl) (by kernel_rfl) (by kernel_rfl) (fun _ _ _ h => h) (Or.inl ⟨by rfl, fun w _ => (by go_simp)⟩) (by assumption) ?_; (try simp only [Act.put, List.setIfInBounds_toArray, List.set_cons_zero, List.set_cons_succ, Array.toArray_toList, List.getElem_toArray, List.getElem_cons_succ, List.getElem_cons_zero]))
            (refine wpAnyH_take (i := 22) (v := .int .i64 (1 + m)) rfl (by kernel_rfl) (by kernel_rfl) (by kernel_rfl) (fun _ _ _ h => h) (Or.inl ⟨by rfl, fun w _ => (by go_simp)⟩) (by assumption) ?_; (try simp only [Act.put, List.setIfInBounds_toArray, List.set_cons_zero, List.set_cons_succ, Array.toArray_toList, List.getElem_toArray, List.getElem_cons_succ, List.getElem_cons_zero]))
            (refine wpAnyH_take (i := 23) (v := .bool false) rfl (by kernel_rfl) (by kernel_rfl) (by kernel_rfl) (fun _ _ _ h => h) (Or.inl ⟨by rfl, fun w _ => (by go_simp)⟩) (by assumption) ?_; (try simp only [Act.put, List.setIfInBounds_toArray, List.set_cons_zero, List.set_cons_succ, Array.toArray_toList, List.getElem_toArray, List.getElem_cons_succ, List.getElem_cons_zero]))
            (refine wpAnyH_take (i := 24) (v := .bool false) rfl (by kernel_rfl) (by kernel_rfl) (by kernel_rfl) (fun _ _ _ h => h) (Or.inl ⟨by rfl, fun w _ => (by go_simp)⟩) (by assumption) ?_; (try simp only [Act.put, List.setIfInBounds_toArray, List.set_cons_zero, List.set_cons_succ, Array.toArray_toList, List.getElem_toArray, List.getElem_cons_succ, List.getElem_cons_zero]))
            (refine wpAnyH_take (i := 25) (v := _) rfl (by kernel_rfl) (by kernel_rfl) (by kernel_rfl) (fun _ _ _ h => h) (yieldsIf_load_mid (by rfl) 24 (.tmp 12) rfl (w8.heap.size) 0 rfl (#[.int .u64 (c0), .int .u64 (c1), .int .u64 (c2), .int .u64 (c3)]).toList _ (fun w h => ((HX2.out).below h (HX2.out).lt).range) Try.underlying24 rfl (by rw [Array.length_toList]; exact sizeU4)) (by assumption) ?_; (try simp only [Act.put, List.setIfInBounds_toArray, List.set_cons_zero, List.set_cons_succ, Array.toArray_toList, List.getElem_toArray, List.getElem_cons_succ, List.getElem_cons_zero]))
            (refine wpAnyH_take (i := 26) (v := _) rfl (by kernel_rfl) (by kernel_rfl) (by kernel_rfl) (fun _ _ _ h => h) (yieldsIf_load_mid (by rfl) 24 (.tmp 14) rfl (w10.heap.size) 0 rfl (#[.int .u64 (c0), .int .u64 (c1), .int .u64 (c2), .int .u64 (c3)]).toList _ (fun w h => ((HX3.out).below h (HX3.out).lt).range) Try.underlying24 rfl (by rw [Array.length_toList]; exact sizeU4)) (by assumption) ?_; (try simp only [Act.put, List.setIfInBounds_toArray, List.set_cons_zero, List.set_cons_succ, Array.toArray_toList, List.getElem_toArray, List.getElem_cons_succ, List.getElem_cons_zero]))
            (refine wpAnyH_take (i := 27) (v := .bool true) rfl (by kernel_rfl) (by kernel_rfl) (by kernel_rfl) (fun _ _ _ h => h) (Or.inl ⟨by rfl, fun w _ => (by go_simp)⟩) (by assumption) ?_; (try simp only [Act.put, List.setIfInBounds_toArray, List.set_cons_zero, List.set_cons_succ, Array.toArray_toList, List.getElem_toArray, List.getElem_cons_succ, List.getElem_cons_zero]))
            (refine wpAnyH_take (i := 28) (v := .bool true) rfl (by kernel_rfl) (by kernel_rfl) (by kernel_rfl) (fun _ _ _ h => h) (Or.inl ⟨by rfl, fun w _ => (by go_simp)⟩) (by assumption) ?_; (try simp only [Act.put, List.setIfInBounds_toArray, List.set_cons_zero, List.set_cons_succ, Array.toArray_toList, List.getElem_toArray, List.getElem_cons_succ, List.getElem_cons_zero]))
            (refine wpAnyH_take (i := 29) (v := .bool true) rfl (by kernel_rfl) (by kernel_rfl) (by kernel_rfl) (fun _ _ _ h => h) (Or.inl ⟨by rfl, fun w _ => (by go_simp)⟩) (by assumption) ?_; (try simp only [Act.put, List.setIfInBounds_toArray, List.set_cons_zero, List.set_cons_succ, Array.toArray_toList, List.getElem_toArray, List.getElem_cons_succ, List.getElem_cons_zero]))
            (refine wpAnyH_take (i := 30) (v := .bool true) rfl (by kernel_rfl) (by kernel_rfl) (by kernel_rfl) (fun _ _ _ h => h) (Or.inl ⟨by rfl, fun w _ => (by go_simp)⟩) (by assumption) ?_; (try simp only [Act.put, List.setIfInBounds_toArray, List.set_cons_zero, List.set_cons_succ, Array.toArray_toList, List.getElem_toArray, List.getElem_cons_succ, List.getElem_cons_zero]))
            refine wpAnyH_ready (rs := [31]) (by kernel_rfl) (by simp) ?_
            refine AllReadyH.cons rfl (fun K hK => ?_) (AllReadyH.nil)
            · rw [if_pos (by rfl)]
              go_simp
              (go_at_call 16; refine (awake12_c _).mono ?_; rintro e y3 ⟨rfl, hb_y3⟩)
              go_wp2_with fail
              refine hK.out _ _ (hHeld.trans (hb_y3.mono hHeld.size)) (fun hHeld => ?_)
              clear hK K
              (try simp only [Act.put, List.setIfInBounds_toArray, List.set_cons_zero, List.set_cons_succ, Array.toArray_toList, List.getElem_toArray, List.getElem_cons_succ, List.getElem_cons_zero])
              (refine wpAnyH_take (i := 32) (v := .bool true) rfl (by kernel_rfl) (by kernel_rfl) (by kernel_rfl) (fun _ _ _ h => h) (Or.inl ⟨by rfl, fun w _ => (by go_simp)⟩) (by assumption) ?_; (try simp only [Act.put, List.setIfInBounds_toArray, List.set_cons_zero, List.set_cons_succ, Array.toArray_toList, List.getElem_toArray, List.getElem_cons_succ, List.getElem_cons_zero]))
              (refine wpAnyH_take (i := 33) (v := .bool true) rfl (by kernel_rfl) (by kernel_rfl) (by kernel_rfl) (fun _ _ _ h => h) (Or.inl ⟨by rfl, fun w _ => (by go_simp)⟩) (by assumption) ?_; (try simp only [Act.put, List.setIfInBounds_toArray, List.set_cons_zero, List.set_cons_succ, Array.toArray_toList, List.getElem_toArray, List.getElem_cons_succ, List.getElem_cons_zero]))
              refine wpAnyH_done (by kernel_rfl) ?_ _
              have hBf := hB.out.trans (hHeld.mono hB.out.size)
              go_wp2
              go_ret
              exact ⟨rfl, hBf⟩
    · have E15 : E = 15 := by rw [← hE.out]; exact set_E k1 k2 (by rw [hE.out]; exact hE0)
      have hR := setR_zero (P := Gen) (k := 1 + m) (n := V) (by rw [hE.out]; exact hE0)
      rw [hR] at H8
      have heq0 : ∀ w, (Op.equalIn 10000 26 (.agg (pC fun _ => 0)) (.agg #[.int .u64 0, .int .u64 0, .int .u64 0, .int .u64 0, .int .u64 0, .int .u64 0, .int .u64 0, .int .u64 0, .int .u64 0, .int .u64 0, .int .u64 0, .int .u64 0, .int .u64 0, .int .u64 0, .int .u64 0, .int .u64 0, .int .u64 0, .int .u64 0, .int .u64 0, .int .u64 0, .int .u64 0])).run Try.prog w = .ok true w := fun w => eqP_law (fun _ => 0) w
      subst E15
      clear hE hE0 hR HS
      go_wp2_with (refine wpList_load_row26g (P := fun _ => 0) (by rfl) (.tmp 8) rfl (g := g) rfl H8.out ?_)
      refine (awake12_c _).mono ?_
      rintro e w6 ⟨rfl, hb6⟩
      have hBf := hB.out.trans (hb6.mono hB.out.size)
      clear hb6
      go_wp2
      go_ret
      exact ⟨rfl, hBf⟩
def n4 (a b c d : Int) : Nat → Int
  | 0 => a | 1 => b | 2 => c | 3 => d | _ => 0
theorem n4_w {a b c d : Int} (wa : (Lit.int .u64 a).wf = true) (wb : (Lit.int .u64 b).wf = true) (wc : (Lit.int .u64 c).wf = true) (wd : (Lit.int .u64 d).wf = true) (j : Nat) : 0 ≤ n4 a b c d j ∧ n4 a b c d j < 18446744073709551616 := by
  have b0 := bounds_u64 wa; have b1 := bounds_u64 wb; have b2 := bounds_u64 wc; have b3 := bounds_u64 wd
  unfold n4
  split <;> omega
theorem ParamsSetGet_walk (key a b c d few how other : Int) (w0 : (Lit.int .i64 key).wf = true) (w1 : (Lit.int .u64 a).wf = true) (w2 : (Lit.int .u64 b).wf = true) (w3 : (Lit.int .u64 c).wf = true) (w4 : (Lit.int .u64 d).wf = true) (w5 : (Lit.int .u64 few).wf = true) (w6 : (Lit.int .u8 how).wf = true) (w7 : (Lit.int .i64 other).wf = true) (w : World) :
    Calls Try.prog 5 #[.agg #[.int .i64 key, .int .u64 a, .int .u64 b, .int .u64 c, .int .u64 d, .int .u64 few, .int .u8 how], .int .i64 other] w fun e w' => e = .returned (.bool true) ∧ Below w.heap.size w w' := by
  obtain ⟨p5, q5⟩ := bounds_u64 w5
  obtain ⟨p6, q6⟩ := bounds_u8 w6
  exact SetGet_in (n4 a b c d) (n4_w w1 w2 w3 w4) key few how other p5 (by omega) p6 w
end Go.Proofs.Ytbnpgecpanfpiaa
