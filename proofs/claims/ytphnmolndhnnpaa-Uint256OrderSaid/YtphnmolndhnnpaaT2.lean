/- chapter 1: Uint256Order, walked. -/
import Derived.WalkKit
import Derived.KernelRfl
import Derived.RowKit3
import Derived.Deep.LoopGhost
import Derived.Deep.QuietTactic
import Derived.BigQuiet
import Derived.WideLaws
import Derived.Laws.Rows
import Derived.Below
import Derived.Deep.Draws
import Derived.Outline
import Derived.LoopN
import Derived.Handy
import Derived.Laws.Externs
import Derived.Laws.BitsAllLaws
import Derived.Laws.BitsLemmas
import Derived.Deep.DeepCutAuto
import Derived.Deep.CutBlock
import Derived.Deep.RegionHeld3
import Derived.Test.YtphnmolndhnnpaaU4
import Derived.Test.YtphnmolndhnnpaaR2
import Derived.Test.YtphnmolndhnnpaaT1
import Derived.Test.YtphnmolndhnnpaaRC
import Derived.Test.YtphnmolndhnnpaaSC
namespace Go.Proofs.Ytphnmolndhnnpaa
open Go.RowKit
set_option linter.unusedVariables false
set_option linter.unusedSimpArgs false
theorem sizeU4o : (Try.prog.info? 24).map (·.size) = some 4 := by kernel_rfl
theorem one4o (a b c d : Int) : (#[Value.int .u64 a, .int .u64 b, .int .u64 c, .int .u64 d] : Array Value).all (·.oneCell') = true := by simp [Value.oneCell']
theorem cut3o {f : World → Prop} {W w : World} {g1 g2 g3 : Nat} {c1 c2 c3 : Array Value} {T : TypeId} (hb : Below w.heap.size w W) (h1 : RBlk W g1 c1 T) (h2 : RBlk W g2 c2 T) (h3 : RBlk W g3 c3 T) (k : ∀ W', Hid (Below w.heap.size w W') → Hid (RBlk W' g1 c1 T) → Hid (RBlk W' g2 c2 T) → Hid (RBlk W' g3 c3 T) → f W') : f W := k W hb h1 h2 h3
/-- ref1.Uint64 -/
def fits (b c d : Int) : Prop := b = 0 ∧ c = 0 ∧ d = 0
instance (b c d : Int) : Decidable (fits b c d) := inferInstanceAs (Decidable (_ ∧ _))
set_option maxHeartbeats 4000000 in
theorem ru64_c (a b c d : Int) (w : World) : Calls Try.prog 14 #[.agg #[.int .u64 a, .int .u64 b, .int .u64 c, .int .u64 d]] w fun e w' => e = .returned (.tuple #[.int .u64 (if fits b c d then a else 0), .bool (decide (fits b c d))]) ∧ Below w.heap.size w w' := by
  by_cases h1 : b = 0
  · by_cases h2 : c = 0
    · by_cases h3 : d = 0
      · subst h1 h2 h3
        rw [if_pos ⟨rfl, rfl, rfl⟩, decide_eq_true (show fits 0 0 0 from ⟨rfl, rfl, rfl⟩)]
        go_enter Try.func14, Try.ntmps14
        go_wp2
        go_ret2
        exact ⟨rfl, (by (repeat' (first | (with_reducible exact Below.refl _ _) | (with_reducible assumption) | (with_reducible refine Below.alloc ?_ ?_ _) | (with_reducible refine Below.drew ?_) | (with_reducible refine below_drewN ?_ _) | (with_reducible refine Below.setCell ?_ ?_ _) | (with_reducible refine below_step (by with_reducible assumption) ?_ ?_) | (first | (with_reducible exact Nat.le_refl _) | (with_reducible assumption) | omega | (simp only [World.size_alloc, World.size_setCell, World.size_drew, size_drewN]; omega) | (simp; omega) | (simp; done)))))⟩
      · have hn : ¬ fits b c d := fun h => h3 h.2.2
        rw [if_neg hn, decide_eq_false hn]
        have h3' : (d != 0) = true := by simpa using h3
        subst h1 h2
        clear hn
        go_enter Try.func14, Try.ntmps14
        go_wp2
        go_ret2
        exact ⟨rfl, (by (repeat' (first | (with_reducible exact Below.refl _ _) | (with_reducible assumption) | (with_reducible refine Below.alloc ?_ ?_ _) | (with_reducible refine Below.drew ?_) | (with_reducible refine below_drewN ?_ _) | (with_reducible refine Below.setCell ?_ ?_ _) | (with_reducible refine below_step (by with_reducible assumption) ?_ ?_) | (first | (with_reducible exact Nat.le_refl _) | (with_reducible assumption) | omega | (simp only [World.size_alloc, World.size_setCell, World.size_drew, size_drewN]; omega) | (simp; omega) | (simp; done)))))⟩
    · have hn : ¬ fits b c d := fun h => h2 h.2.1
      rw [if_neg hn, decide_eq_false hn]
      have h2' : (c != 0) = true := by simpa using h2
      subst h1
      clear hn
      go_enter Try.func14, Try.ntmps14
      go_wp2
      go_ret2
      exact ⟨rfl, (by (repeat' (first | (with_reducible exact Below.refl _ _) | (with_reducible assumption) | (with_reducible refine Below.alloc ?_ ?_ _) | (with_reducible refine Below.drew ?_) | (with_reducible refine below_drewN ?_ _) | (with_reducible refine Below.setCell ?_ ?_ _) | (with_reducible refine below_step (by with_reducible assumption) ?_ ?_) | (first | (with_reducible exact Nat.le_refl _) | (with_reducible assumption) | omega | (simp only [World.size_alloc, World.size_setCell, World.size_drew, size_drewN]; omega) | (simp; omega) | (simp; done)))))⟩
  · have hn : ¬ fits b c d := fun h => h1 h.1
    rw [if_neg hn, decide_eq_false hn]
    have h1' : (b != 0) = true := by simpa using h1
    clear hn
    go_enter Try.func14, Try.ntmps14
    go_wp2
    go_ret2
    exact ⟨rfl, (by (repeat' (first | (with_reducible exact Below.refl _ _) | (with_reducible assumption) | (with_reducible refine Below.alloc ?_ ?_ _) | (with_reducible refine Below.drew ?_) | (with_reducible refine below_drewN ?_ _) | (with_reducible refine Below.setCell ?_ ?_ _) | (with_reducible refine below_step (by with_reducible assumption) ?_ ?_) | (first | (with_reducible exact Nat.le_refl _) | (with_reducible assumption) | omega | (simp only [World.size_alloc, World.size_setCell, World.size_drew, size_drewN]; omega) | (simp; omega) | (simp; done)))))⟩
theorem ru64_A {A : Nat} (hA : A < M256) (w : World) : Calls Try.prog 14 #[.agg #[.int .u64 (lim A 0), .int .u64 (lim A 1), .int .u64 (lim A 2), .int .u64 (lim A 3)]] w fun e w' => e = .returned (.tuple #[.int .u64 (u64V A), .bool (u64B A)]) ∧ Below w.heap.size w w' := by
  have h := ru64_c (lim A 0) (lim A 1) (lim A 2) (lim A 3) w
  obtain ⟨p0, p1, p2, p3, q0, q1, q2, q3, hv⟩ := isU_lim hA
  have e : fits (lim A 1) (lim A 2) (lim A 3) ↔ A < 18446744073709551616 := by unfold fits; omega
  have e1 : (if fits (lim A 1) (lim A 2) (lim A 3) then lim A 0 else 0) = u64V A := by
    unfold u64V
    by_cases hf : A < 18446744073709551616
    · rw [if_pos (e.2 hf), if_pos hf]; omega
    · rw [if_neg (fun hh => hf (e.1 hh)), if_neg hf]
  have e2 : decide (fits (lim A 1) (lim A 2) (lim A 3)) = u64B A := by
    unfold u64B
    rw [Bool.eq_iff_iff, decide_eq_true_eq, decide_eq_true_eq]
    exact e
  rw [e1, e2] at h
  exact h
theorem u64_n {n : Int} (n0 : 0 ≤ n) (n1 : n < 18446744073709551616) (w : World) : Calls Try.prog 13 #[.agg #[.int .u64 n, .int .u64 0, .int .u64 0, .int .u64 0]] w fun e w' => e = .returned (.tuple #[.int .u64 n, .bool true]) ∧ Below w.heap.size w w' := by
  have h := u64_c (isU_one n0 n1) w
  have e1 : u64V n.toNat = n := by unfold u64V; rw [if_pos (by omega)]; omega
  have e2 : u64B n.toNat = true := by unfold u64B; exact decide_eq_true (by omega)
  rw [e1, e2] at h
  exact h
theorem t2_s0 : (Try.prog.info? 24).map (·.size) = some 4 := by kernel_rfl
set_option maxRecDepth 20000 in
set_option maxHeartbeats 32000000 in
theorem Order_in {A B : Nat} (hA : A < M256) (hBM : B < M256) {n : Int} (n0 : 0 ≤ n) (n1 : n < 18446744073709551616) (ad : Option Addr) (L : List Nat) (hL : ∀ x ∈ L, x < M256) (cap : Nat) (hcap : L.length ≤ cap) (hmx : cap ≤ 9223372036854775807) (w : World)
    (hc : ∀ i, i < L.length → ∃ b o, ad = some ⟨b, o, none⟩ ∧ ∀ j, j < 4 → w.cell? ⟨b, o + i * 4 + j, none⟩ = some (.int .u64 (lim (L.getD i 0) j))) :
    Calls Try.prog 3 #[.agg #[.int .u64 (lim (A) 0), .int .u64 (lim (A) 1), .int .u64 (lim (A) 2), .int .u64 (lim (A) 3)], .agg #[.int .u64 (lim (B) 0), .int .u64 (lim (B) 1), .int .u64 (lim (B) 2), .int .u64 (lim (B) 3)], .int .u64 n, .slice ad L.length cap] w fun e w' => e = .returned (.bool true) ∧ Below w.heap.size w w' := by
  obtain ⟨len, hlen⟩ : ∃ len, L.length = len := ⟨_, rfl⟩
  rw [hlen] at hcap hc ⊢
  have HC := hide hc
  have HL := hide hL
  have HLEN := hide hlen
  clear hc hL hlen
  have hB0 := hide (show Below w.heap.size w ((w.alloc (.cells #[.int .u64 (lim (A) 0), .int .u64 (lim (A) 1), .int .u64 (lim (A) 2), .int .u64 (lim (A) 3)] 24)).alloc (.cells #[.int .u64 (lim (B) 0), .int .u64 (lim (B) 1), .int .u64 (lim (B) 2), .int .u64 (lim (B) 3)] 24)) from ((Below.refl _ _).alloc (Nat.le_refl _) _).alloc (by simp) _)
  by_cases h50 : 50 < len
  · have h50' : (50 : Int) < (len : Int) := by omega
    go_enter Try.func3, Try.ntmps3
    go_wp2_with fail
    refine (awake1_c _).mono ?_
    rintro e w1 ⟨rfl, hb1⟩
    have hBf := hB0.out.trans (hb1.mono (by simp; omega))
    clear hb1
    go_wp2
    go_ret
    exact ⟨rfl, hBf⟩
  have h50' : (len : Int) ≤ 50 := by omega
  have hl50 : len ≤ 50 := by omega
  have HA0 := hide ((RBlk.new w #[.int .u64 (lim (A) 0), .int .u64 (lim (A) 1), .int .u64 (lim (A) 2), .int .u64 (lim (A) 3)] 24).alloc (.cells #[.int .u64 (lim (B) 0), .int .u64 (lim (B) 1), .int .u64 (lim (B) 2), .int .u64 (lim (B) 3)] 24))
  have HBb0 := hide (RBlk.new (w.alloc (.cells #[.int .u64 (lim (A) 0), .int .u64 (lim (A) 1), .int .u64 (lim (A) 2), .int .u64 (lim (A) 3)] 24)) #[.int .u64 (lim (B) 0), .int .u64 (lim (B) 1), .int .u64 (lim (B) 2), .int .u64 (lim (B) 3)] 24)
  simp only [World.size_alloc] at HBb0
  have HM0 := hide (RBlk.new ((w.alloc (.cells #[.int .u64 (lim (A) 0), .int .u64 (lim (A) 1), .int .u64 (lim (A) 2), .int .u64 (lim (A) 3)] 24)).alloc (.cells #[.int .u64 (lim (B) 0), .int .u64 (lim (B) 1), .int .u64 (lim (B) 2), .int .u64 (lim (B) 3)] 24)) #[.int .u64 (lim (A) 0), .int .u64 (lim (A) 1), .int .u64 (lim (A) 2), .int .u64 (lim (A) 3)] 24)
  simp only [World.size_alloc] at HM0
  go_enter Try.func3, Try.ntmps3
  go_wp2_with fail
  refine cut3o (w := w) (g1 := w.heap.size) (g2 := w.heap.size + 1) (g3 := w.heap.size + 1 + 1) (hB0.out.alloc (by simp; omega) _) (HA0.out.alloc _) (HBb0.out.alloc _) HM0.out ?_
  clear hB0 HA0 HBb0 HM0
  intro w0 hB0 HA0 HBb0 HM0
  go_loopw [10] (fun v10 wr => ∃ K : Nat, K ≤ len ∧ v10 = .int .i64 K ∧ Hid (Below w.heap.size w wr) ∧ Hid (RBlk wr w.heap.size #[.int .u64 (lim (A) 0), .int .u64 (lim (A) 1), .int .u64 (lim (A) 2), .int .u64 (lim (A) 3)] 24) ∧ Hid (RBlk wr (w.heap.size + 1) #[.int .u64 (lim (B) 0), .int .u64 (lim (B) 1), .int .u64 (lim (B) 2), .int .u64 (lim (B) 3)] 24) ∧ Hid (RBlk wr (w.heap.size + 1 + 1) #[.int .u64 (lim (minV A (L.take K)) 0), .int .u64 (lim (minV A (L.take K)) 1), .int .u64 (lim (minV A (L.take K)) 2), .int .u64 (lim (minV A (L.take K)) 3)] 24)) (fun v10 _ => (len - (intOf v10).toNat))
  case atStart => exact ⟨0, by omega, rfl, hB0, HA0, HBb0, HM0⟩
  case round =>
    obtain ⟨K, hK, rfl, HB, HA, HBb, HM⟩ := hrel
    clear hB0 HA0 HBb0 HM0
    rcases Nat.lt_or_ge K len with hlt | hge
    · obtain ⟨b, o, hadr, hcell⟩ := HC.out K hlt
      subst hadr
      obtain ⟨X, eX⟩ : ∃ X, L.getD K 0 = X := ⟨_, rfl⟩
      rw [eX] at hcell
      have hX : X < M256 := by
        rw [← eX, List.getD_eq_getElem?_getD, List.getElem?_eq_getElem (by rw [HLEN.out]; exact hlt)]
        exact HL.out _ (List.getElem_mem _)
      have hM : minV A (L.take K) < M256 := minV_lt hA fun x hx => HL.out x (List.mem_of_mem_take hx)
      have hst : minV A (L.take (K + 1)) = if X < minV A (L.take K) then X else minV A (L.take K) := by
        rw [List.take_succ_eq_append_getElem (by rw [HLEN.out]; exact hlt), minV_snoc, ← eX, List.getD_eq_getElem?_getD, List.getElem?_eq_getElem (by rw [HLEN.out]; exact hlt)]
        rfl
      have HRng := hide (show ∀ w', Below w.heap.size w w' → w'.rangeAt b (o + K * 4) [.int .u64 (lim (X) 0), .int .u64 (lim (X) 1), .int .u64 (lim (X) 2), .int .u64 (lim (X) 3)] from fun w' hb' j v hj => by
        have hj4 : j < 4 := by
          rcases Nat.lt_or_ge j 4 with h | h
          · exact h
          · rw [List.getElem?_eq_none (by simpa using h)] at hj; cases hj
        have h1 := hcell j hj4
        have hlt' := World.block_lt_of_cell? w _ h1
        rw [(hb'.cell (p := ⟨b, o + K * 4 + j, none⟩) hlt').trans h1, ← hj]
        obtain rfl | rfl | rfl | rfl : j = 0 ∨ j = 1 ∨ j = 2 ∨ j = 3 := by omega
        all_goals rfl)
      obtain ⟨M, eM⟩ : ∃ M, minV A (L.take K) = M := ⟨_, rfl⟩
      rw [eM] at HM hM hst
      have i0 : (0 : Int) ≤ (K : Int) := by omega
      have i1 : (K : Int) < (len : Int) := by omega
      have i2 : (len : Int) ≤ (cap : Int) := by omega
      clear hcell eX eM
      rcases Nat.lt_or_ge X M with hx | hx
      · rw [if_pos hx] at hst
        have HST := hide hst.symm
        have HCM := hide (show cmpV X M = -1 from if_pos hx)
        clear hst hx
        go_upto_region 7 with fail
        go_cut [36] (fun s36 wx => s36 = .bool true ∧ Below wr.heap.size wr wx)
        case first =>
          refine wp_region_held_drew (S := fun w' => Below wr.heap.size wr w') (by kernel_rfl) ((Below.refl _ _).drew) (fun hHeld => ?_)
          (refine wpAnyH_take (i := 0) (v := .slice (some ⟨b, o, none⟩) len cap) rfl (by kernel_rfl) (by kernel_rfl) (by kernel_rfl) (fun _ _ _ h => h) (Or.inl ⟨by rfl, fun w _ => (by go_simp)⟩) (by assumption) ?_; (try simp only [Act.put, List.setIfInBounds_toArray, List.set_cons_zero, List.set_cons_succ, Array.toArray_toList, List.getElem_toArray, List.getElem_cons_succ, List.getElem_cons_zero]))
          (refine wpAnyH_take (i := 1) (v := .int .i64 K) rfl (by kernel_rfl) (by kernel_rfl) (by kernel_rfl) (fun _ _ _ h => h) (Or.inl ⟨by rfl, fun w _ => (by go_simp)⟩) (by assumption) ?_; (try simp only [Act.put, List.setIfInBounds_toArray, List.set_cons_zero, List.set_cons_succ, Array.toArray_toList, List.getElem_toArray, List.getElem_cons_succ, List.getElem_cons_zero]))
          (refine wpAnyH_take (i := 2) (v := .pointer (some ⟨b, o + K * 4, none⟩)) rfl (by kernel_rfl) (by kernel_rfl) (by kernel_rfl) (fun _ _ _ h => h) (Or.inl ⟨by rfl, fun w _ => (by go_simp)⟩) (by assumption) ?_; (try simp only [Act.put, List.setIfInBounds_toArray, List.set_cons_zero, List.set_cons_succ, Array.toArray_toList, List.getElem_toArray, List.getElem_cons_succ, List.getElem_cons_zero]))
          (refine wpAnyH_take (i := 3) (v := _) rfl (by kernel_rfl) (by kernel_rfl) (by kernel_rfl) (fun _ _ _ h => h) (yieldsIf_load_mid (by rfl) 24 (.tmp 30) rfl b (o + K * 4) rfl [.int .u64 (lim (X) 0), .int .u64 (lim (X) 1), .int .u64 (lim (X) 2), .int .u64 (lim (X) 3)] _ (fun w' h => HRng.out w' (HB.out.trans (h.mono HB.out.size))) Try.underlying24 rfl sizeU4o) (by assumption) ?_; (try simp only [Act.put, List.setIfInBounds_toArray, List.set_cons_zero, List.set_cons_succ, Array.toArray_toList, List.getElem_toArray, List.getElem_cons_succ, List.getElem_cons_zero]))
          (refine wpAnyH_take (i := 5) (v := _) rfl (by kernel_rfl) (by kernel_rfl) (by kernel_rfl) (fun _ _ _ h => h) (yieldsIf_load_mid (by rfl) 24 (.tmp 9) rfl (w.heap.size + 1 + 1) 0 rfl [.int .u64 (lim (M) 0), .int .u64 (lim (M) 1), .int .u64 (lim (M) 2), .int .u64 (lim (M) 3)] _ (fun w h => (HM.out.below h HM.out.lt).range) Try.underlying24 rfl sizeU4o) (by assumption) ?_; (try simp only [Act.put, List.setIfInBounds_toArray, List.set_cons_zero, List.set_cons_succ, Array.toArray_toList, List.getElem_toArray, List.getElem_cons_succ, List.getElem_cons_zero]))
          refine wpAnyH_ready (rs := [4]) (by kernel_rfl) (by simp) ?_
          refine AllReadyH.cons rfl (fun Kc hK => ?_) (AllReadyH.nil)
          · rw [if_pos (by rfl)]
            go_simp
            (go_at_call 12; refine (from256_c (isU_lim hX) _).mono ?_; rintro e y4 ⟨ad1, n1, c1, rfl, HB1, hn1, hb_y4⟩)
            go_wp2_with fail
            refine hK.out _ _ (hHeld.trans (hb_y4.mono hHeld.size)) (fun hHeld => ?_)
            clear hK Kc
            (try simp only [Act.put, List.setIfInBounds_toArray, List.set_cons_zero, List.set_cons_succ, Array.toArray_toList, List.getElem_toArray, List.getElem_cons_succ, List.getElem_cons_zero])
            refine wpAnyH_ready (rs := [6]) (by kernel_rfl) (by simp) ?_
            refine AllReadyH.cons rfl (fun Kc hK => ?_) (AllReadyH.nil)
            · rw [if_pos (by rfl)]
              go_simp
              (go_at_call 12; refine (from256_c (isU_lim hM) _).mono ?_; rintro e y6 ⟨ad2, n2, c2, rfl, HB2, hn2, hb_y6⟩; have HB1b := hide (HB1.out.below hb_y6 (Nat.le_refl _)))
              go_wp2_with fail
              refine hK.out _ _ (hHeld.trans (hb_y6.mono hHeld.size)) (fun hHeld => ?_)
              clear hK Kc
              (try simp only [Act.put, List.setIfInBounds_toArray, List.set_cons_zero, List.set_cons_succ, Array.toArray_toList, List.getElem_toArray, List.getElem_cons_succ, List.getElem_cons_zero])
              refine wpAnyH_ready (rs := [7]) (by kernel_rfl) (by simp) ?_
              refine AllReadyH.cons rfl (fun Kc hK => ?_) (AllReadyH.nil)
              · rw [if_pos (by rfl)]
                go_simp
                (go_at_call 11; refine (rcmp_c ad1 n1 c1 (hide HB1b.out.hn) ad2 n2 c2 (hide HB2.out.hn) (by omega) (by omega) _ (hide HB1b.out.row) (hide HB2.out.row)).mono ?_; rintro e y7 ⟨rfl, hb_y7⟩; rw [HCM.out])
                go_wp2_with fail
                refine hK.out _ _ (hHeld.trans (hb_y7.mono hHeld.size)) (fun hHeld => ?_)
                clear hK Kc
                (try simp only [Act.put, List.setIfInBounds_toArray, List.set_cons_zero, List.set_cons_succ, Array.toArray_toList, List.getElem_toArray, List.getElem_cons_succ, List.getElem_cons_zero])
                (refine wpAnyH_take (i := 8) (v := .bool true) rfl (by kernel_rfl) (by kernel_rfl) (by kernel_rfl) (fun _ _ _ h => h) (Or.inl ⟨by rfl, fun w _ => (by go_simp)⟩) (by assumption) ?_; (try simp only [Act.put, List.setIfInBounds_toArray, List.set_cons_zero, List.set_cons_succ, Array.toArray_toList, List.getElem_toArray, List.getElem_cons_succ, List.getElem_cons_zero]))
                refine wpAnyH_done (by kernel_rfl) ?_ _
                go_wp2_with fail
                go_meet
                exact ⟨rfl, hHeld⟩
        case rest =>
          obtain ⟨rfl, hb⟩ := hcut
          replace HB := hide (HB.out.trans (hb.mono HB.out.size))
          replace HA := hide (HA.out.below hb HA.out.lt)
          replace HBb := hide (HBb.out.below hb HBb.out.lt)
          replace HM := hide (HM.out.below hb HM.out.lt)
          clear hb
          have hsw := HB.out.size
          have hrg := HRng.out _ HB.out
          go_wp2_with (first | (refine wpList_load_mid rfl 24 (.tmp 39) rfl b (o + K * 4) rfl [.int .u64 (lim (X) 0), .int .u64 (lim (X) 1), .int .u64 (lim (X) 2), .int .u64 (lim (X) 3)] _ hrg Try.underlying24 rfl sizeU4o ?_) | (refine wpList_store_rowR (by rfl) (.tmp 9) (.tmp 40) rfl (ds := #[.int .u64 (lim (X) 0), .int .u64 (lim (X) 1), .int .u64 (lim (X) 2), .int .u64 (lim (X) 3)]) rfl rfl HM.out rfl sizeU4o (one4o _ _ _ _) ?_; intro w3 HM3 hS; replace HM := hide HM3; replace HA := hide (hS.row HA.out (by omega)); replace HBb := hide (hS.row HBb.out (by omega)); replace HB := hide (hS.1 w.heap.size w (by omega) HB.out); clear hS hrg))
          rw [HST.out] at HM
          go_roundw
          case rel => exact ⟨K + 1, by omega, by go_num, HB, HA, HBb, HM⟩
          case measure => simp [intOf]; omega
      · rw [if_neg (by omega)] at hst
        have HST := hide hst.symm
        obtain ⟨z, hz, hz0⟩ : ∃ z, cmpV X M = z ∧ (z = 0 ∨ z = 1) := by
          refine ⟨_, rfl, ?_⟩
          unfold cmpV
          rw [if_neg (by omega)]
          split
          · exact .inr rfl
          · exact .inl rfl
        have HCM := hide hz
        clear hst hx hz
        rcases hz0 with rfl | rfl
        · go_upto_region 7 with fail
          go_cut [36] (fun s36 wx => s36 = .bool false ∧ Below wr.heap.size wr wx)
          case first =>
            refine wp_region_held_drew (S := fun w' => Below wr.heap.size wr w') (by kernel_rfl) ((Below.refl _ _).drew) (fun hHeld => ?_)
            (refine wpAnyH_take (i := 0) (v := .slice (some ⟨b, o, none⟩) len cap) rfl (by kernel_rfl) (by kernel_rfl) (by kernel_rfl) (fun _ _ _ h => h) (Or.inl ⟨by rfl, fun w _ => (by go_simp)⟩) (by assumption) ?_; (try simp only [Act.put, List.setIfInBounds_toArray, List.set_cons_zero, List.set_cons_succ, Array.toArray_toList, List.getElem_toArray, List.getElem_cons_succ, List.getElem_cons_zero]))
            (refine wpAnyH_take (i := 1) (v := .int .i64 K) rfl (by kernel_rfl) (by kernel_rfl) (by kernel_rfl) (fun _ _ _ h => h) (Or.inl ⟨by rfl, fun w _ => (by go_simp)⟩) (by assumption) ?_; (try simp only [Act.put, List.setIfInBounds_toArray, List.set_cons_zero, List.set_cons_succ, Array.toArray_toList, List.getElem_toArray, List.getElem_cons_succ, List.getElem_cons_zero]))
            (refine wpAnyH_take (i := 2) (v := .pointer (some ⟨b, o + K * 4, none⟩)) rfl (by kernel_rfl) (by kernel_rfl) (by kernel_rfl) (fun _ _ _ h => h) (Or.inl ⟨by rfl, fun w _ => (by go_simp)⟩) (by assumption) ?_; (try simp only [Act.put, List.setIfInBounds_toArray, List.set_cons_zero, List.set_cons_succ, Array.toArray_toList, List.getElem_toArray, List.getElem_cons_succ, List.getElem_cons_zero]))
            (refine wpAnyH_take (i := 3) (v := _) rfl (by kernel_rfl) (by kernel_rfl) (by kernel_rfl) (fun _ _ _ h => h) (yieldsIf_load_mid (by rfl) 24 (.tmp 30) rfl b (o + K * 4) rfl [.int .u64 (lim (X) 0), .int .u64 (lim (X) 1), .int .u64 (lim (X) 2), .int .u64 (lim (X) 3)] _ (fun w' h => HRng.out w' (HB.out.trans (h.mono HB.out.size))) Try.underlying24 rfl sizeU4o) (by assumption) ?_; (try simp only [Act.put, List.setIfInBounds_toArray, List.set_cons_zero, List.set_cons_succ, Array.toArray_toList, List.getElem_toArray, List.getElem_cons_succ, List.getElem_cons_zero]))
            (refine wpAnyH_take (i := 5) (v := _) rfl (by kernel_rfl) (by kernel_rfl) (by kernel_rfl) (fun _ _ _ h => h) (yieldsIf_load_mid (by rfl) 24 (.tmp 9) rfl (w.heap.size + 1 + 1) 0 rfl [.int .u64 (lim (M) 0), .int .u64 (lim (M) 1), .int .u64 (lim (M) 2), .int .u64 (lim (M) 3)] _ (fun w h => (HM.out.below h HM.out.lt).range) Try.underlying24 rfl sizeU4o) (by assumption) ?_; (try simp only [Act.put, List.setIfInBounds_toArray, List.set_cons_zero, List.set_cons_succ, Array.toArray_toList, List.getElem_toArray, List.getElem_cons_succ, List.getElem_cons_zero]))
            refine wpAnyH_ready (rs := [4]) (by kernel_rfl) (by simp) ?_
            refine AllReadyH.cons rfl (fun Kc hK => ?_) (AllReadyH.nil)
            · rw [if_pos (by rfl)]
              go_simp
              (go_at_call 12; refine (from256_c (isU_lim hX) _).mono ?_; rintro e y4 ⟨ad1, n1, c1, rfl, HB1, hn1, hb_y4⟩)
              go_wp2_with fail
              refine hK.out _ _ (hHeld.trans (hb_y4.mono hHeld.size)) (fun hHeld => ?_)
              clear hK Kc
              (try simp only [Act.put, List.setIfInBounds_toArray, List.set_cons_zero, List.set_cons_succ, Array.toArray_toList, List.getElem_toArray, List.getElem_cons_succ, List.getElem_cons_zero])
              refine wpAnyH_ready (rs := [6]) (by kernel_rfl) (by simp) ?_
              refine AllReadyH.cons rfl (fun Kc hK => ?_) (AllReadyH.nil)
              · rw [if_pos (by rfl)]
                go_simp
                (go_at_call 12; refine (from256_c (isU_lim hM) _).mono ?_; rintro e y6 ⟨ad2, n2, c2, rfl, HB2, hn2, hb_y6⟩; have HB1b := hide (HB1.out.below hb_y6 (Nat.le_refl _)))
                go_wp2_with fail
                refine hK.out _ _ (hHeld.trans (hb_y6.mono hHeld.size)) (fun hHeld => ?_)
                clear hK Kc
                (try simp only [Act.put, List.setIfInBounds_toArray, List.set_cons_zero, List.set_cons_succ, Array.toArray_toList, List.getElem_toArray, List.getElem_cons_succ, List.getElem_cons_zero])
                refine wpAnyH_ready (rs := [7]) (by kernel_rfl) (by simp) ?_
                refine AllReadyH.cons rfl (fun Kc hK => ?_) (AllReadyH.nil)
                · rw [if_pos (by rfl)]
                  go_simp
                  (go_at_call 11; refine (rcmp_c ad1 n1 c1 (hide HB1b.out.hn) ad2 n2 c2 (hide HB2.out.hn) (by omega) (by omega) _ (hide HB1b.out.row) (hide HB2.out.row)).mono ?_; rintro e y7 ⟨rfl, hb_y7⟩; rw [HCM.out])
                  go_wp2_with fail
                  refine hK.out _ _ (hHeld.trans (hb_y7.mono hHeld.size)) (fun hHeld => ?_)
                  clear hK Kc
                  (try simp only [Act.put, List.setIfInBounds_toArray, List.set_cons_zero, List.set_cons_succ, Array.toArray_toList, List.getElem_toArray, List.getElem_cons_succ, List.getElem_cons_zero])
                  (refine wpAnyH_take (i := 8) (v := .bool false) rfl (by kernel_rfl) (by kernel_rfl) (by kernel_rfl) (fun _ _ _ h => h) (Or.inl ⟨by rfl, fun w _ => (by go_simp)⟩) (by assumption) ?_; (try simp only [Act.put, List.setIfInBounds_toArray, List.set_cons_zero, List.set_cons_succ, Array.toArray_toList, List.getElem_toArray, List.getElem_cons_succ, List.getElem_cons_zero]))
                  refine wpAnyH_done (by kernel_rfl) ?_ _
                  go_wp2_with fail
                  go_meet
                  exact ⟨rfl, hHeld⟩
          case rest =>
            obtain ⟨rfl, hb⟩ := hcut
            replace HB := hide (HB.out.trans (hb.mono HB.out.size))
            replace HA := hide (HA.out.below hb HA.out.lt)
            replace HBb := hide (HBb.out.below hb HBb.out.lt)
            replace HM := hide (HM.out.below hb HM.out.lt)
            clear hb
            have hsw := HB.out.size
            go_wp2_with fail
            rw [HST.out] at HM
            go_roundw
            case rel => exact ⟨K + 1, by omega, by go_num, HB, HA, HBb, HM⟩
            case measure => simp [intOf]; omega
        · go_upto_region 7 with fail
          go_cut [36] (fun s36 wx => s36 = .bool false ∧ Below wr.heap.size wr wx)
          case first =>
            refine wp_region_held_drew (S := fun w' => Below wr.heap.size wr w') (by kernel_rfl) ((Below.refl _ _).drew) (fun hHeld => ?_)
            (refine wpAnyH_take (i := 0) (v := .slice (some ⟨b, o, none⟩) len cap) rfl (by kernel_rfl) (by kernel_rfl) (by kernel_rfl) (fun _ _ _ h => h) (Or.inl ⟨by rfl, fun w _ => (by go_simp)⟩) (by assumption) ?_; (try simp only [Act.put, List.setIfInBounds_toArray, List.set_cons_zero, List.set_cons_succ, Array.toArray_toList, List.getElem_toArray, List.getElem_cons_succ, List.getElem_cons_zero]))
            (refine wpAnyH_take (i := 1) (v := .int .i64 K) rfl (by kernel_rfl) (by kernel_rfl) (by kernel_rfl) (fun _ _ _ h => h) (Or.inl ⟨by rfl, fun w _ => (by go_simp)⟩) (by assumption) ?_; (try simp only [Act.put, List.setIfInBounds_toArray, List.set_cons_zero, List.set_cons_succ, Array.toArray_toList, List.getElem_toArray, List.getElem_cons_succ, List.getElem_cons_zero]))
            (refine wpAnyH_take (i := 2) (v := .pointer (some ⟨b, o + K * 4, none⟩)) rfl (by kernel_rfl) (by kernel_rfl) (by kernel_rfl) (fun _ _ _ h => h) (Or.inl ⟨by rfl, fun w _ => (by go_simp)⟩) (by assumption) ?_; (try simp only [Act.put, List.setIfInBounds_toArray, List.set_cons_zero, List.set_cons_succ, Array.toArray_toList, List.getElem_toArray, List.getElem_cons_succ, List.getElem_cons_zero]))
            (refine wpAnyH_take (i := 3) (v := _) rfl (by kernel_rfl) (by kernel_rfl) (by kernel_rfl) (fun _ _ _ h => h) (yieldsIf_load_mid (by rfl) 24 (.tmp 30) rfl b (o + K * 4) rfl [.int .u64 (lim (X) 0), .int .u64 (lim (X) 1), .int .u64 (lim (X) 2), .int .u64 (lim (X) 3)] _ (fun w' h => HRng.out w' (HB.out.trans (h.mono HB.out.size))) Try.underlying24 rfl sizeU4o) (by assumption) ?_; (try simp only [Act.put, List.setIfInBounds_toArray, List.set_cons_zero, List.set_cons_succ, Array.toArray_toList, List.getElem_toArray, List.getElem_cons_succ, List.getElem_cons_zero]))
            (refine wpAnyH_take (i := 5) (v := _) rfl (by kernel_rfl) (by kernel_rfl) (by kernel_rfl) (fun _ _ _ h => h) (yieldsIf_load_mid (by rfl) 24 (.tmp 9) rfl (w.heap.size + 1 + 1) 0 rfl [.int .u64 (lim (M) 0), .int .u64 (lim (M) 1), .int .u64 (lim (M) 2), .int .u64 (lim (M) 3)] _ (fun w h => (HM.out.below h HM.out.lt).range) Try.underlying24 rfl sizeU4o) (by assumption) ?_; (try simp only [Act.put, List.setIfInBounds_toArray, List.set_cons_zero, List.set_cons_succ, Array.toArray_toList, List.getElem_toArray, List.getElem_cons_succ, List.getElem_cons_zero]))
            refine wpAnyH_ready (rs := [4]) (by kernel_rfl) (by simp) ?_
            refine AllReadyH.cons rfl (fun Kc hK => ?_) (AllReadyH.nil)
            · rw [if_pos (by rfl)]
              go_simp
              (go_at_call 12; refine (from256_c (isU_lim hX) _).mono ?_; rintro e y4 ⟨ad1, n1, c1, rfl, HB1, hn1, hb_y4⟩)
              go_wp2_with fail
              refine hK.out _ _ (hHeld.trans (hb_y4.mono hHeld.size)) (fun hHeld => ?_)
              clear hK Kc
              (try simp only [Act.put, List.setIfInBounds_toArray, List.set_cons_zero, List.set_cons_succ, Array.toArray_toList, List.getElem_toArray, List.getElem_cons_succ, List.getElem_cons_zero])
              refine wpAnyH_ready (rs := [6]) (by kernel_rfl) (by simp) ?_
              refine AllReadyH.cons rfl (fun Kc hK => ?_) (AllReadyH.nil)
              · rw [if_pos (by rfl)]
                go_simp
                (go_at_call 12; refine (from256_c (isU_lim hM) _).mono ?_; rintro e y6 ⟨ad2, n2, c2, rfl, HB2, hn2, hb_y6⟩; have HB1b := hide (HB1.out.below hb_y6 (Nat.le_refl _)))
                go_wp2_with fail
                refine hK.out _ _ (hHeld.trans (hb_y6.mono hHeld.size)) (fun hHeld => ?_)
                clear hK Kc
                (try simp only [Act.put, List.setIfInBounds_toArray, List.set_cons_zero, List.set_cons_succ, Array.toArray_toList, List.getElem_toArray, List.getElem_cons_succ, List.getElem_cons_zero])
                refine wpAnyH_ready (rs := [7]) (by kernel_rfl) (by simp) ?_
                refine AllReadyH.cons rfl (fun Kc hK => ?_) (AllReadyH.nil)
                · rw [if_pos (by rfl)]
                  go_simp
                  (go_at_call 11; refine (rcmp_c ad1 n1 c1 (hide HB1b.out.hn) ad2 n2 c2 (hide HB2.out.hn) (by omega) (by omega) _ (hide HB1b.out.row) (hide HB2.out.row)).mono ?_; rintro e y7 ⟨rfl, hb_y7⟩; rw [HCM.out])
                  go_wp2_with fail
                  refine hK.out _ _ (hHeld.trans (hb_y7.mono hHeld.size)) (fun hHeld => ?_)
                  clear hK Kc
                  (try simp only [Act.put, List.setIfInBounds_toArray, List.set_cons_zero, List.set_cons_succ, Array.toArray_toList, List.getElem_toArray, List.getElem_cons_succ, List.getElem_cons_zero])
                  (refine wpAnyH_take (i := 8) (v := .bool false) rfl (by kernel_rfl) (by kernel_rfl) (by kernel_rfl) (fun _ _ _ h => h) (Or.inl ⟨by rfl, fun w _ => (by go_simp)⟩) (by assumption) ?_; (try simp only [Act.put, List.setIfInBounds_toArray, List.set_cons_zero, List.set_cons_succ, Array.toArray_toList, List.getElem_toArray, List.getElem_cons_succ, List.getElem_cons_zero]))
                  refine wpAnyH_done (by kernel_rfl) ?_ _
                  go_wp2_with fail
                  go_meet
                  exact ⟨rfl, hHeld⟩
          case rest =>
            obtain ⟨rfl, hb⟩ := hcut
            replace HB := hide (HB.out.trans (hb.mono HB.out.size))
            replace HA := hide (HA.out.below hb HA.out.lt)
            replace HBb := hide (HBb.out.below hb HBb.out.lt)
            replace HM := hide (HM.out.below hb HM.out.lt)
            clear hb
            have hsw := HB.out.size
            go_wp2_with fail
            rw [HST.out] at HM
            go_roundw
            case rel => exact ⟨K + 1, by omega, by go_num, HB, HA, HBb, HM⟩
            case measure => simp [intOf]; omega
    · obtain rfl : K = len := by omega
      rw [show L.take K = L from List.take_of_length_le (by rw [HLEN.out]; exact Nat.le_refl _)] at HM
      have SL : ∀ W, Below w.heap.size w W → ∀ i, i < L.length → ∃ b o, ad = some ⟨b, o, none⟩ ∧ ∀ j, j < 4 → W.cell? ⟨b, o + i * 4 + j, none⟩ = some (.int .u64 (lim (L.getD i 0) j)) := fun W hb i hi => by
        obtain ⟨b, o, e, hcell⟩ := HC.out i (by rw [← HLEN.out]; exact hi)
        exact ⟨b, o, e, fun j hj => (hb.cell (p := ⟨b, o + i * 4 + j, none⟩) (World.block_lt_of_cell? w _ (hcell j hj))).trans (hcell j hj)⟩
      have HMin := fun W (hb : Below w.heap.size w W) => min_c (isU_lim hA) HL.out ad cap W (by rw [HLEN.out]; omega) (SL W hb)
      rw [HLEN.out] at HMin
      obtain ⟨M, eM⟩ : ∃ M, minV A L = M := ⟨_, rfl⟩
      rw [eM] at HM HMin
      replace HMin := hide HMin
      have HU1 := fun w => u64_c (isU_lim hA) w
      have HU2 := fun w => ru64_A hA w
      obtain ⟨V, eV⟩ : ∃ V, u64V A = V := ⟨_, rfl⟩
      obtain ⟨Bv, eB⟩ : ∃ V, u64B A = V := ⟨_, rfl⟩
      rw [eV, eB] at HU1 HU2
      replace HU1 := hide HU1
      replace HU2 := hide HU2
      have HU3 := hide (fun w => u64_n n0 n1 w)
      have HCab := hide (fun w => cmp_c (isU_lim hA) (isU_lim hBM) w)
      have HCaa := fun w => cmp_c (isU_lim hA) (isU_lim hA) w
      rw [show cmpV A A = 0 by unfold cmpV; rw [if_neg (by omega), if_neg (by omega)]] at HCaa
      replace HCaa := hide HCaa
      obtain ⟨z, ez⟩ : ∃ z, cmpV A B = z := ⟨_, rfl⟩
      rw [ez] at HCab
      have HZ := hide ez
      have HL1 := hide (fun w => bitlen_c (isU_lim hA) w)
      have HL2 := hide (fun w => rbl_c hA w)
      obtain ⟨bl, ebl⟩ : ∃ z, blI A = z := ⟨_, rfl⟩
      rw [ebl] at HL1 HL2
      clear SL eM eV eB ez ebl
      have hl1 := HA.out.lt
      have hsw := HB.out.size
      go_wp2_with (refine wpList_load_rowR (by rfl) (.tmp 4) rfl (g := w.heap.size) rfl HA.out Try.underlying24 rfl sizeU4o ?_)
      refine (HU1.out _).mono ?_
      rintro e w1 ⟨rfl, hb⟩
      replace HB := hide (HB.out.trans (hb.mono HB.out.size))
      replace HA := hide (HA.out.below hb HA.out.lt)
      replace HBb := hide (HBb.out.below hb HBb.out.lt)
      replace HM := hide (HM.out.below hb HM.out.lt)
      clear hb
      go_wp2_with (refine wpList_load_rowR (by rfl) (.tmp 4) rfl (g := w.heap.size) rfl HA.out Try.underlying24 rfl sizeU4o ?_)
      refine (HU2.out _).mono ?_
      rintro e w2 ⟨rfl, hb⟩
      replace HB := hide (HB.out.trans (hb.mono HB.out.size))
      replace HA := hide (HA.out.below hb HA.out.lt)
      replace HBb := hide (HBb.out.below hb HBb.out.lt)
      replace HM := hide (HM.out.below hb HM.out.lt)
      clear hb
      go_wp2_with fail
      refine (from_c _ _).mono ?_
      rintro e w3 ⟨rfl, hb⟩
      replace HB := hide (HB.out.trans (hb.mono HB.out.size))
      replace HA := hide (HA.out.below hb HA.out.lt)
      replace HBb := hide (HBb.out.below hb HBb.out.lt)
      replace HM := hide (HM.out.below hb HM.out.lt)
      clear hb
      go_wp2_with fail
      refine (HU3.out _).mono ?_
      rintro e wl ⟨rfl, hb⟩
      replace HB := hide (HB.out.trans (hb.mono HB.out.size))
      replace HA := hide (HA.out.below hb HA.out.lt)
      replace HBb := hide (HBb.out.below hb HBb.out.lt)
      replace HM := hide (HM.out.below hb HM.out.lt)
      clear hb
      go_upto_region 12 with fail
      refine Sch.start (Sch.take 0 (Sch.take 1 (Sch.take 3 (Sch.take 5 (Sch.one 2 (Sch.one 4 (Sch.one 6 (Sch.one 7 (Sch.take 8 (Sch.take 9 (Sch.take 10 (Sch.take 11 (Sch.one 12 (Sch.take 13 (Sch.take 14 (Sch.take 15 (Sch.take 16 (Sch.take 17 (Sch.take 19 (Sch.one 18 (Sch.take 20 (Sch.take 21 (Sch.take 22 (Sch.take 23 (Sch.take 25 (Sch.one 24 (Sch.one 26 (Sch.take 27 (Sch.take 28 (Sch.take 29 (Sch.take 30 (Sch.take 31 (Sch.take 32 (Sch.take 33 (Sch.take 34 (Sch.take 35 (Sch.take 36 (Sch.take 37 (Sch.take 38 (Sch.take 39 (Sch.take 40 (Sch.take 42 (Sch.take 43 (Sch.one 41 (Sch.take 44 (Sch.take 45 (Sch.take 46 (Sch.take 47 (Sch.take 48 (Sch.take 49 (Sch.take 50 (Sch.take 51 (Sch.take 52 (Sch.take 53 (Sch.take 54 (Sch.one 55 (Sch.take 56 (Sch.take 57 Sch.done)))))))))))))))))))))))))))))))))))))))))))))))))))))))))) (S := fun w' => Below wl.heap.size wl w') (by kernel_rfl) (by kernel_rfl) (fun _ d _ _ _ h => by cases d <;> exact h) (by kernel_rfl) ((Below.refl _ _).drew) (fun O hO hHeld => ?_)
      (refine Sch.t_loadw hO rfl (by rfl) (T := 24) rfl (g := w.heap.size) rfl (fun w' h => HA.out.below h HA.out.lt) Try.underlying24 rfl t2_s0 ?_; (try simp only [Act.put, List.setIfInBounds_toArray, List.set_cons_zero, List.set_cons_succ, Array.toArray_toList, List.getElem_toArray, List.getElem_cons_succ, List.getElem_cons_zero]))
      (refine Sch.t_loadw hO rfl (by rfl) (T := 24) rfl (g := w.heap.size + 1) rfl (fun w' h => HBb.out.below h HBb.out.lt) Try.underlying24 rfl t2_s0 ?_; (try simp only [Act.put, List.setIfInBounds_toArray, List.set_cons_zero, List.set_cons_succ, Array.toArray_toList, List.getElem_toArray, List.getElem_cons_succ, List.getElem_cons_zero]))
      (refine Sch.t_loadw hO rfl (by rfl) (T := 24) rfl (g := w.heap.size) rfl (fun w' h => HA.out.below h HA.out.lt) Try.underlying24 rfl t2_s0 ?_; (try simp only [Act.put, List.setIfInBounds_toArray, List.set_cons_zero, List.set_cons_succ, Array.toArray_toList, List.getElem_toArray, List.getElem_cons_succ, List.getElem_cons_zero]))
      (refine Sch.t_loadw hO rfl (by rfl) (T := 24) rfl (g := w.heap.size + 1) rfl (fun w' h => HBb.out.below h HBb.out.lt) Try.underlying24 rfl t2_s0 ?_; (try simp only [Act.put, List.setIfInBounds_toArray, List.set_cons_zero, List.set_cons_succ, Array.toArray_toList, List.getElem_toArray, List.getElem_cons_succ, List.getElem_cons_zero]))
      refine Sch.s_one hO rfl (by rfl) (fun K hK => ?_)
      go_simp
      go_at_call 16
      refine (HCab.out _).mono ?_
      rintro e y1 ⟨rfl, hb_y1⟩
      go_wp2_with fail
      refine hK.out _ _ (hHeld.trans (hb_y1.mono hHeld.size)) (fun hHeld => ?_)
      clear hK K
      (try simp only [Act.put, List.setIfInBounds_toArray, List.set_cons_zero, List.set_cons_succ, Array.toArray_toList, List.getElem_toArray, List.getElem_cons_succ, List.getElem_cons_zero])
      refine Sch.s_one hO rfl (by rfl) (fun K hK => ?_)
      go_simp
      go_at_call 12
      refine (from256_c (isU_lim hA) _).mono ?_
      rintro e y2 ⟨ad1, m1, c1, rfl, HB1, hn1, hb_y2⟩
      go_wp2_with fail
      refine hK.out _ _ (hHeld.trans (hb_y2.mono hHeld.size)) (fun hHeld => ?_)
      clear hK K
      (try simp only [Act.put, List.setIfInBounds_toArray, List.set_cons_zero, List.set_cons_succ, Array.toArray_toList, List.getElem_toArray, List.getElem_cons_succ, List.getElem_cons_zero])
      refine Sch.s_one hO rfl (by rfl) (fun K hK => ?_)
      go_simp
      go_at_call 12
      refine (from256_c (isU_lim hBM) _).mono ?_
      rintro e y3 ⟨ad2, m2, c2, rfl, HB2, hn2, hb_y3⟩
      have HB1b := hide (HB1.out.below hb_y3 (Nat.le_refl _))
      go_wp2_with fail
      refine hK.out _ _ (hHeld.trans (hb_y3.mono hHeld.size)) (fun hHeld => ?_)
      clear hK K
      (try simp only [Act.put, List.setIfInBounds_toArray, List.set_cons_zero, List.set_cons_succ, Array.toArray_toList, List.getElem_toArray, List.getElem_cons_succ, List.getElem_cons_zero])
      refine Sch.s_one hO rfl (by rfl) (fun K hK => ?_)
      go_simp
      go_at_call 11
      refine (rcmp_c ad1 m1 c1 (hide HB1b.out.hn) ad2 m2 c2 (hide HB2.out.hn) (by omega) (by omega) _ (hide HB1b.out.row) (hide HB2.out.row)).mono ?_
      rintro e y4 ⟨rfl, hb_y4⟩
      rw [HZ.out]
      go_wp2_with fail
      refine hK.out _ _ (hHeld.trans (hb_y4.mono hHeld.size)) (fun hHeld => ?_)
      clear hK K
      (try simp only [Act.put, List.setIfInBounds_toArray, List.set_cons_zero, List.set_cons_succ, Array.toArray_toList, List.getElem_toArray, List.getElem_cons_succ, List.getElem_cons_zero])
      (refine Sch.t_val hO rfl (by rfl) (v := .bool true) (fun w _ => (by go_simp)) ?_; (try simp only [Act.put, List.setIfInBounds_toArray, List.set_cons_zero, List.set_cons_succ, Array.toArray_toList, List.getElem_toArray, List.getElem_cons_succ, List.getElem_cons_zero]))
      (refine Sch.t_move hO rfl (by rfl) (v := .bool true) (.inl rfl) rfl ?_; (try simp only [Act.put, List.setIfInBounds_toArray, List.set_cons_zero, List.set_cons_succ, Array.toArray_toList, List.getElem_toArray, List.getElem_cons_succ, List.getElem_cons_zero]))
      (refine Sch.t_loadw hO rfl (by rfl) (T := 24) rfl (g := w.heap.size) rfl (fun w' h => HA.out.below h HA.out.lt) Try.underlying24 rfl t2_s0 ?_; (try simp only [Act.put, List.setIfInBounds_toArray, List.set_cons_zero, List.set_cons_succ, Array.toArray_toList, List.getElem_toArray, List.getElem_cons_succ, List.getElem_cons_zero]))
      (refine Sch.t_loadw hO rfl (by rfl) (T := 24) rfl (g := w.heap.size) rfl (fun w' h => HA.out.below h HA.out.lt) Try.underlying24 rfl t2_s0 ?_; (try simp only [Act.put, List.setIfInBounds_toArray, List.set_cons_zero, List.set_cons_succ, Array.toArray_toList, List.getElem_toArray, List.getElem_cons_succ, List.getElem_cons_zero]))
      refine Sch.s_one hO rfl (by rfl) (fun K hK => ?_)
      go_simp
      go_at_call 16
      refine (HCaa.out _).mono ?_
      rintro e y5 ⟨rfl, hb_y5⟩
      go_wp2_with fail
      refine hK.out _ _ (hHeld.trans (hb_y5.mono hHeld.size)) (fun hHeld => ?_)
      clear hK K
      (try simp only [Act.put, List.setIfInBounds_toArray, List.set_cons_zero, List.set_cons_succ, Array.toArray_toList, List.getElem_toArray, List.getElem_cons_succ, List.getElem_cons_zero])
      (refine Sch.t_val hO rfl (by rfl) (v := .bool true) (fun w _ => (by go_simp)) ?_; (try simp only [Act.put, List.setIfInBounds_toArray, List.set_cons_zero, List.set_cons_succ, Array.toArray_toList, List.getElem_toArray, List.getElem_cons_succ, List.getElem_cons_zero]))
      (refine Sch.t_val hO rfl (by rfl) (v := .bool true) (fun w _ => (by go_simp)) ?_; (try simp only [Act.put, List.setIfInBounds_toArray, List.set_cons_zero, List.set_cons_succ, Array.toArray_toList, List.getElem_toArray, List.getElem_cons_succ, List.getElem_cons_zero]))
      (refine Sch.t_move hO rfl (by rfl) (v := .bool true) (.inl rfl) rfl ?_; (try simp only [Act.put, List.setIfInBounds_toArray, List.set_cons_zero, List.set_cons_succ, Array.toArray_toList, List.getElem_toArray, List.getElem_cons_succ, List.getElem_cons_zero]))
      (refine Sch.t_loadw hO rfl (by rfl) (T := 24) rfl (g := w.heap.size) rfl (fun w' h => HA.out.below h HA.out.lt) Try.underlying24 rfl t2_s0 ?_; (try simp only [Act.put, List.setIfInBounds_toArray, List.set_cons_zero, List.set_cons_succ, Array.toArray_toList, List.getElem_toArray, List.getElem_cons_succ, List.getElem_cons_zero]))
      (refine Sch.t_move hO rfl (by rfl) (v := .slice ad K cap) (.inl rfl) rfl ?_; (try simp only [Act.put, List.setIfInBounds_toArray, List.set_cons_zero, List.set_cons_succ, Array.toArray_toList, List.getElem_toArray, List.getElem_cons_succ, List.getElem_cons_zero]))
      (refine Sch.t_loadw hO rfl (by rfl) (T := 24) rfl (g := w.heap.size + 1 + 1) rfl (fun w' h => HM.out.below h HM.out.lt) Try.underlying24 rfl t2_s0 ?_; (try simp only [Act.put, List.setIfInBounds_toArray, List.set_cons_zero, List.set_cons_succ, Array.toArray_toList, List.getElem_toArray, List.getElem_cons_succ, List.getElem_cons_zero]))
      refine Sch.s_one hO rfl (by rfl) (fun K hK => ?_)
      go_simp
      go_at_call 17
      refine (HMin.out _ (HB.out.trans (hHeld.mono HB.out.size))).mono ?_
      rintro e y6 ⟨rfl, hb_y6⟩
      go_wp2_with fail
      refine hK.out _ _ (hHeld.trans (hb_y6.mono hHeld.size)) (fun hHeld => ?_)
      clear hK K
      (try simp only [Act.put, List.setIfInBounds_toArray, List.set_cons_zero, List.set_cons_succ, Array.toArray_toList, List.getElem_toArray, List.getElem_cons_succ, List.getElem_cons_zero])
      (refine Sch.t_val hO rfl (by rfl) (v := .bool true) (fun w _ => (by go_simp)) ?_; (try simp only [Act.put, List.setIfInBounds_toArray, List.set_cons_zero, List.set_cons_succ, Array.toArray_toList, List.getElem_toArray, List.getElem_cons_succ, List.getElem_cons_zero]))
      (refine Sch.t_val hO rfl (by rfl) (v := .bool true) (fun w _ => (by go_simp)) ?_; (try simp only [Act.put, List.setIfInBounds_toArray, List.set_cons_zero, List.set_cons_succ, Array.toArray_toList, List.getElem_toArray, List.getElem_cons_succ, List.getElem_cons_zero]))
      (refine Sch.t_move hO rfl (by rfl) (v := .bool true) (.inl rfl) rfl ?_; (try simp only [Act.put, List.setIfInBounds_toArray, List.set_cons_zero, List.set_cons_succ, Array.toArray_toList, List.getElem_toArray, List.getElem_cons_succ, List.getElem_cons_zero]))
      (refine Sch.t_loadw hO rfl (by rfl) (T := 24) rfl (g := w.heap.size) rfl (fun w' h => HA.out.below h HA.out.lt) Try.underlying24 rfl t2_s0 ?_; (try simp only [Act.put, List.setIfInBounds_toArray, List.set_cons_zero, List.set_cons_succ, Array.toArray_toList, List.getElem_toArray, List.getElem_cons_succ, List.getElem_cons_zero]))
      (refine Sch.t_loadw hO rfl (by rfl) (T := 24) rfl (g := w.heap.size) rfl (fun w' h => HA.out.below h HA.out.lt) Try.underlying24 rfl t2_s0 ?_; (try simp only [Act.put, List.setIfInBounds_toArray, List.set_cons_zero, List.set_cons_succ, Array.toArray_toList, List.getElem_toArray, List.getElem_cons_succ, List.getElem_cons_zero]))
      refine Sch.s_one hO rfl (by rfl) (fun K hK => ?_)
      go_simp
      go_at_call 18
      refine (HL1.out _).mono ?_
      rintro e y7 ⟨rfl, hb_y7⟩
      go_wp2_with fail
      refine hK.out _ _ (hHeld.trans (hb_y7.mono hHeld.size)) (fun hHeld => ?_)
      clear hK K
      (try simp only [Act.put, List.setIfInBounds_toArray, List.set_cons_zero, List.set_cons_succ, Array.toArray_toList, List.getElem_toArray, List.getElem_cons_succ, List.getElem_cons_zero])
      refine Sch.s_one hO rfl (by rfl) (fun K hK => ?_)
      go_simp
      go_at_call 19
      refine (HL2.out _).mono ?_
      rintro e y8 ⟨rfl, hb_y8⟩
      go_wp2_with fail
      refine hK.out _ _ (hHeld.trans (hb_y8.mono hHeld.size)) (fun hHeld => ?_)
      clear hK K
      (try simp only [Act.put, List.setIfInBounds_toArray, List.set_cons_zero, List.set_cons_succ, Array.toArray_toList, List.getElem_toArray, List.getElem_cons_succ, List.getElem_cons_zero])
      (refine Sch.t_val hO rfl (by rfl) (v := .bool true) (fun w _ => (by go_simp)) ?_; (try simp only [Act.put, List.setIfInBounds_toArray, List.set_cons_zero, List.set_cons_succ, Array.toArray_toList, List.getElem_toArray, List.getElem_cons_succ, List.getElem_cons_zero]))
      (refine Sch.t_val hO rfl (by rfl) (v := .bool true) (fun w _ => (by go_simp)) ?_; (try simp only [Act.put, List.setIfInBounds_toArray, List.set_cons_zero, List.set_cons_succ, Array.toArray_toList, List.getElem_toArray, List.getElem_cons_succ, List.getElem_cons_zero]))
      (refine Sch.t_move hO rfl (by rfl) (v := .bool true) (.inl rfl) rfl ?_; (try simp only [Act.put, List.setIfInBounds_toArray, List.set_cons_zero, List.set_cons_succ, Array.toArray_toList, List.getElem_toArray, List.getElem_cons_succ, List.getElem_cons_zero]))
      (refine Sch.t_move hO rfl (by rfl) (v := .int .u64 V) (.inl rfl) rfl ?_; (try simp only [Act.put, List.setIfInBounds_toArray, List.set_cons_zero, List.set_cons_succ, Array.toArray_toList, List.getElem_toArray, List.getElem_cons_succ, List.getElem_cons_zero]))
      (refine Sch.t_move hO rfl (by rfl) (v := .int .u64 V) (.inl rfl) rfl ?_; (try simp only [Act.put, List.setIfInBounds_toArray, List.set_cons_zero, List.set_cons_succ, Array.toArray_toList, List.getElem_toArray, List.getElem_cons_succ, List.getElem_cons_zero]))
      (refine Sch.t_val hO rfl (by rfl) (v := .bool true) (fun w _ => (by go_simp)) ?_; (try simp only [Act.put, List.setIfInBounds_toArray, List.set_cons_zero, List.set_cons_succ, Array.toArray_toList, List.getElem_toArray, List.getElem_cons_succ, List.getElem_cons_zero]))
      (refine Sch.t_val hO rfl (by rfl) (v := .bool true) (fun w _ => (by go_simp)) ?_; (try simp only [Act.put, List.setIfInBounds_toArray, List.set_cons_zero, List.set_cons_succ, Array.toArray_toList, List.getElem_toArray, List.getElem_cons_succ, List.getElem_cons_zero]))
      (refine Sch.t_move hO rfl (by rfl) (v := .bool true) (.inl rfl) rfl ?_; (try simp only [Act.put, List.setIfInBounds_toArray, List.set_cons_zero, List.set_cons_succ, Array.toArray_toList, List.getElem_toArray, List.getElem_cons_succ, List.getElem_cons_zero]))
      (refine Sch.t_move hO rfl (by rfl) (v := .bool Bv) (.inl rfl) rfl ?_; (try simp only [Act.put, List.setIfInBounds_toArray, List.set_cons_zero, List.set_cons_succ, Array.toArray_toList, List.getElem_toArray, List.getElem_cons_succ, List.getElem_cons_zero]))
      (refine Sch.t_move hO rfl (by rfl) (v := .bool Bv) (.inl rfl) rfl ?_; (try simp only [Act.put, List.setIfInBounds_toArray, List.set_cons_zero, List.set_cons_succ, Array.toArray_toList, List.getElem_toArray, List.getElem_cons_succ, List.getElem_cons_zero]))
      (refine Sch.t_val hO rfl (by rfl) (v := .bool true) (fun w _ => (by go_simp)) ?_; (try simp only [Act.put, List.setIfInBounds_toArray, List.set_cons_zero, List.set_cons_succ, Array.toArray_toList, List.getElem_toArray, List.getElem_cons_succ, List.getElem_cons_zero]))
      (refine Sch.t_val hO rfl (by rfl) (v := .bool true) (fun w _ => (by go_simp)) ?_; (try simp only [Act.put, List.setIfInBounds_toArray, List.set_cons_zero, List.set_cons_succ, Array.toArray_toList, List.getElem_toArray, List.getElem_cons_succ, List.getElem_cons_zero]))
      (refine Sch.t_move hO rfl (by rfl) (v := .bool true) (.inl rfl) rfl ?_; (try simp only [Act.put, List.setIfInBounds_toArray, List.set_cons_zero, List.set_cons_succ, Array.toArray_toList, List.getElem_toArray, List.getElem_cons_succ, List.getElem_cons_zero]))
      (refine Sch.t_move hO rfl (by rfl) (v := .int .u64 n) (.inl rfl) rfl ?_; (try simp only [Act.put, List.setIfInBounds_toArray, List.set_cons_zero, List.set_cons_succ, Array.toArray_toList, List.getElem_toArray, List.getElem_cons_succ, List.getElem_cons_zero]))
      (refine Sch.t_move hO rfl (by rfl) (v := .int .u64 n) (.inl rfl) rfl ?_; (try simp only [Act.put, List.setIfInBounds_toArray, List.set_cons_zero, List.set_cons_succ, Array.toArray_toList, List.getElem_toArray, List.getElem_cons_succ, List.getElem_cons_zero]))
      (refine Sch.t_val hO rfl (by rfl) (v := .agg (#[.int .u64 n, .int .u64 0, .int .u64 0, .int .u64 0])) (fun w _ => (by go_simp)) ?_; (try simp only [Act.put, List.setIfInBounds_toArray, List.set_cons_zero, List.set_cons_succ, Array.toArray_toList, List.getElem_toArray, List.getElem_cons_succ, List.getElem_cons_zero]))
      refine Sch.s_one hO rfl (by rfl) (fun K hK => ?_)
      go_simp
      go_at_call 15
      refine (from_c _ _).mono ?_
      rintro e y9 ⟨rfl, hb_y9⟩
      go_wp2_with fail
      refine hK.out _ _ (hHeld.trans (hb_y9.mono hHeld.size)) (fun hHeld => ?_)
      clear hK K
      (try simp only [Act.put, List.setIfInBounds_toArray, List.set_cons_zero, List.set_cons_succ, Array.toArray_toList, List.getElem_toArray, List.getElem_cons_succ, List.getElem_cons_zero])
      (refine Sch.t_val hO rfl (by rfl) (v := .bool true) (fun w _ => (by go_simp)) ?_; (try simp only [Act.put, List.setIfInBounds_toArray, List.set_cons_zero, List.set_cons_succ, Array.toArray_toList, List.getElem_toArray, List.getElem_cons_succ, List.getElem_cons_zero]))
      (refine Sch.t_val hO rfl (by rfl) (v := .bool true) (fun w _ => (by go_simp)) ?_; (try simp only [Act.put, List.setIfInBounds_toArray, List.set_cons_zero, List.set_cons_succ, Array.toArray_toList, List.getElem_toArray, List.getElem_cons_succ, List.getElem_cons_zero]))
      (refine Sch.t_move hO rfl (by rfl) (v := .bool true) (.inl rfl) rfl ?_; (try simp only [Act.put, List.setIfInBounds_toArray, List.set_cons_zero, List.set_cons_succ, Array.toArray_toList, List.getElem_toArray, List.getElem_cons_succ, List.getElem_cons_zero]))
      (refine Sch.t_move hO rfl (by rfl) (v := .int .u64 n) (.inl rfl) rfl ?_; (try simp only [Act.put, List.setIfInBounds_toArray, List.set_cons_zero, List.set_cons_succ, Array.toArray_toList, List.getElem_toArray, List.getElem_cons_succ, List.getElem_cons_zero]))
      (refine Sch.t_move hO rfl (by rfl) (v := .int .u64 n) (.inl rfl) rfl ?_; (try simp only [Act.put, List.setIfInBounds_toArray, List.set_cons_zero, List.set_cons_succ, Array.toArray_toList, List.getElem_toArray, List.getElem_cons_succ, List.getElem_cons_zero]))
      (refine Sch.t_val hO rfl (by rfl) (v := .bool true) (fun w _ => (by go_simp)) ?_; (try simp only [Act.put, List.setIfInBounds_toArray, List.set_cons_zero, List.set_cons_succ, Array.toArray_toList, List.getElem_toArray, List.getElem_cons_succ, List.getElem_cons_zero]))
      (refine Sch.t_val hO rfl (by rfl) (v := .bool true) (fun w _ => (by go_simp)) ?_; (try simp only [Act.put, List.setIfInBounds_toArray, List.set_cons_zero, List.set_cons_succ, Array.toArray_toList, List.getElem_toArray, List.getElem_cons_succ, List.getElem_cons_zero]))
      (refine Sch.t_move hO rfl (by rfl) (v := .bool true) (.inl rfl) rfl ?_; (try simp only [Act.put, List.setIfInBounds_toArray, List.set_cons_zero, List.set_cons_succ, Array.toArray_toList, List.getElem_toArray, List.getElem_cons_succ, List.getElem_cons_zero]))
      (refine Sch.t_move hO rfl (by rfl) (v := .bool true) (.inl rfl) rfl ?_; (try simp only [Act.put, List.setIfInBounds_toArray, List.set_cons_zero, List.set_cons_succ, Array.toArray_toList, List.getElem_toArray, List.getElem_cons_succ, List.getElem_cons_zero]))
      (refine Sch.t_val hO rfl (by rfl) (v := .bool true) (fun w _ => (by go_simp)) ?_; (try simp only [Act.put, List.setIfInBounds_toArray, List.set_cons_zero, List.set_cons_succ, Array.toArray_toList, List.getElem_toArray, List.getElem_cons_succ, List.getElem_cons_zero]))
      (refine Sch.t_move hO rfl (by rfl) (v := .bool true) (.inl rfl) rfl ?_; (try simp only [Act.put, List.setIfInBounds_toArray, List.set_cons_zero, List.set_cons_succ, Array.toArray_toList, List.getElem_toArray, List.getElem_cons_succ, List.getElem_cons_zero]))
      refine Sch.s_one hO rfl (by rfl) (fun K hK => ?_)
      go_simp
      go_at_call 10
      refine (awake1_c _).mono ?_
      rintro e y10 ⟨rfl, hb_y10⟩
      go_wp2_with fail
      refine hK.out _ _ (hHeld.trans (hb_y10.mono hHeld.size)) (fun hHeld => ?_)
      clear hK K
      (try simp only [Act.put, List.setIfInBounds_toArray, List.set_cons_zero, List.set_cons_succ, Array.toArray_toList, List.getElem_toArray, List.getElem_cons_succ, List.getElem_cons_zero])
      (refine Sch.t_val hO rfl (by rfl) (v := .bool true) (fun w _ => (by go_simp)) ?_; (try simp only [Act.put, List.setIfInBounds_toArray, List.set_cons_zero, List.set_cons_succ, Array.toArray_toList, List.getElem_toArray, List.getElem_cons_succ, List.getElem_cons_zero]))
      (refine Sch.t_move hO rfl (by rfl) (v := .bool true) (.inr rfl) rfl ?_; (try simp only [Act.put, List.setIfInBounds_toArray, List.set_cons_zero, List.set_cons_succ, Array.toArray_toList, List.getElem_toArray, List.getElem_cons_succ, List.getElem_cons_zero]))
      refine Sch.t_done ?_
      have hBf := HB.out.trans (hHeld.mono HB.out.size)
      go_wp2
      go_ret
      exact ⟨rfl, hBf⟩
end Go.Proofs.Ytphnmolndhnnpaa
