/- params: Set. -/
import Derived.WalkKit
import Derived.KernelRfl
import Derived.RowKit3
import Derived.Deep.LoopGhost
import Derived.Deep.QuietTactic
import Derived.BigQuiet
import Derived.WideLaws
import Derived.Laws.Rows
import Derived.Below
import Derived.Deep.Draws
import Derived.Outline
import Derived.LoopN
import Derived.Handy
import Derived.Laws.Externs
import Derived.Laws.BitsAllLaws
import Derived.Laws.BitsLemmas
import Derived.Deep.DeepCutAuto
import Derived.Deep.CutBlock
import Derived.Deep.RegionHeld3
import Derived.Test.YtbnpgecpanfpiaaP6
import Derived.Test.YtbnpgecpanfpiaaU5
namespace Go.Proofs.Ytbnpgecpanfpiaa
open Go.RowKit
set_option linter.unusedVariables false
set_option linter.unusedSimpArgs false
theorem key_kind {k : Int} (h1 : 1 ≤ k) (h2 : k ≤ 12) : (∃ o, o + 4 ≤ 21 ∧ f256 k = some o ∧ (∀ g, p256 g k = .pointer (some ⟨g, o, none⟩)) ∧ (∀ g, p64 g k = .pointer none)) ∨ (∃ o, o < 21 ∧ f256 k = none ∧ f64 k = some o ∧ (∀ g, p256 g k = .pointer none) ∧ ∀ g, p64 g k = .pointer (some ⟨g, o, none⟩)) := by
  obtain rfl | rfl | rfl | rfl | rfl | rfl | rfl | rfl | rfl | rfl | rfl | rfl : k = 1 ∨ k = 2 ∨ k = 3 ∨ k = 4 ∨ k = 5 ∨ k = 6 ∨ k = 7 ∨ k = 8 ∨ k = 9 ∨ k = 10 ∨ k = 11 ∨ k = 12 := by omega
  · exact .inr ⟨0, by omega, rfl, rfl, fun _ => rfl, fun _ => rfl⟩
  · exact .inr ⟨1, by omega, rfl, rfl, fun _ => rfl, fun _ => rfl⟩
  · exact .inr ⟨2, by omega, rfl, rfl, fun _ => rfl, fun _ => rfl⟩
  · exact .inl ⟨3, by omega, rfl, fun _ => rfl, fun _ => rfl⟩
  · exact .inr ⟨7, by omega, rfl, rfl, fun _ => rfl, fun _ => rfl⟩
  · exact .inl ⟨8, by omega, rfl, fun _ => rfl, fun _ => rfl⟩
  · exact .inr ⟨12, by omega, rfl, rfl, fun _ => rfl, fun _ => rfl⟩
  · exact .inl ⟨13, by omega, rfl, fun _ => rfl, fun _ => rfl⟩
  · exact .inr ⟨17, by omega, rfl, rfl, fun _ => rfl, fun _ => rfl⟩
  · exact .inr ⟨18, by omega, rfl, rfl, fun _ => rfl, fun _ => rfl⟩
  · exact .inr ⟨19, by omega, rfl, rfl, fun _ => rfl, fun _ => rfl⟩
  · exact .inr ⟨20, by omega, rfl, rfl, fun _ => rfl, fun _ => rfl⟩
theorem key_none {k : Int} (h : ¬ (1 ≤ k ∧ k ≤ 12)) (g : Nat) : p256 g k = .pointer none ∧ p64 g k = .pointer none := by
  have e1 : f256 k = none := by unfold f256; repeat' (first | (rw [if_neg (by omega)]) | rfl)
  have e2 : f64 k = none := by unfold f64; repeat' (first | (rw [if_neg (by omega)]) | rfl)
  unfold p256 p64
  rw [e1, e2]
  exact ⟨rfl, rfl⟩
theorem PBlk.put4 {w : World} {g o : Nat} {P Q : Nat → Int} {n : Nat → Int} (h : PBlk w g P) (ho : o + 4 ≤ 21) (hQ : ∀ j, j < 21 → Q j = if o ≤ j ∧ j < o + 4 then n (j - o) else P j) : PBlk (w.setCells g o [.int .u64 (n 0), .int .u64 (n 1), .int .u64 (n 2), .int .u64 (n 3)]) g Q := by
  have s1 : PBlk (w.setCell ⟨g, o, none⟩ (.int .u64 (n 0))) g (fun j => if j = o then n 0 else P j) := h.set (by omega) (fun j _ => rfl)
  have s2 := s1.set (i := o + 1) (v := n 1) (Q := fun j => if j = o + 1 then n 1 else if j = o then n 0 else P j) (by omega) (fun j _ => rfl)
  have s3 := s2.set (i := o + 1 + 1) (v := n 2) (Q := fun j => if j = o + 1 + 1 then n 2 else if j = o + 1 then n 1 else if j = o then n 0 else P j) (by omega) (fun j _ => rfl)
  refine s3.set (i := o + 1 + 1 + 1) (v := n 3) (by omega) (fun j hj => ?_)
  rw [hQ j hj]
  by_cases h0 : j = o
  · rw [if_pos (by omega), if_neg (by omega), if_neg (by omega), if_neg (by omega), if_pos h0, show j - o = 0 by omega]
  by_cases h1 : j = o + 1
  · rw [if_pos (by omega), if_neg (by omega), if_neg (by omega), if_pos h1, show j - o = 1 by omega]
  by_cases h2 : j = o + 1 + 1
  · rw [if_pos (by omega), if_neg (by omega), if_pos h2, show j - o = 2 by omega]
  by_cases h3 : j = o + 1 + 1 + 1
  · rw [if_pos (by omega), if_pos h3, show j - o = 3 by omega]
  · rw [if_neg (by omega), if_neg h3, if_neg h2, if_neg h1, if_neg h0]
theorem PBlk.there4 {w : World} {g o : Nat} {P : Nat → Int} (h : PBlk w g P) (ho : o + 4 ≤ 21) : w.there g o 4 := by
  intro j hj
  rw [h.cell (by omega), h.free]
  exact ⟨rfl, rfl⟩
theorem sizeU4 : (Try.prog.info? 24).map (·.size) = some 4 := by kernel_rfl
theorem setR_zero {P : Nat → Int} {k : Int} {n : Nat → Int} (h : setE P k n ≠ 0) : setR P k n = fun _ => 0 := funext fun i => if_neg h
theorem setR_set {P : Nat → Int} {k : Int} {n : Nat → Int} (h : setE P k n = 0) : setR P k n = setP P k n := funext fun i => if_pos h
theorem setE_no {P : Nat → Int} {k : Int} {n : Nat → Int} (h : ¬ (1 ≤ k ∧ k ≤ 12)) : setE P k n = 17 := if_pos h
theorem setE_bad {P : Nat → Int} {k : Int} {n : Nat → Int} (h : 1 ≤ k ∧ k ≤ 12) (h' : fiV P ≠ 0 ∨ (f256 k = none ∧ ¬ valL n < 18446744073709551616)) : setE P k n = 15 := by rw [setE, if_neg (fun hh => hh h), if_pos h']
theorem setE_bad2 {P : Nat → Int} {k : Int} {n : Nat → Int} (h : 1 ≤ k ∧ k ≤ 12) (h' : ¬ (fiV P ≠ 0 ∨ (f256 k = none ∧ ¬ valL n < 18446744073709551616))) (h2 : fiV (setP P k n) ≠ 0) : setE P k n = 15 := by rw [setE, if_neg (fun hh => hh h), if_neg h', if_pos h2]
theorem setE_ok {P : Nat → Int} {k : Int} {n : Nat → Int} (h : 1 ≤ k ∧ k ≤ 12) (h' : ¬ (fiV P ≠ 0 ∨ (f256 k = none ∧ ¬ valL n < 18446744073709551616))) (h2 : fiV (setP P k n) = 0) : setE P k n = 0 := by rw [setE, if_neg (fun hh => hh h), if_neg h', if_neg (fun hh => hh h2)]
set_option maxRecDepth 20000 in
set_option maxHeartbeats 16000000 in
theorem set_c (P : Nat → Int) (hP : PW P) (n : Nat → Int) (hn : ∀ j, 0 ≤ n j ∧ n j < 18446744073709551616) (k : Int) (w : World) :
    Calls Try.prog 18 #[.agg (pC P), .int .i64 k, .agg #[.int .u64 (n 0), .int .u64 (n 1), .int .u64 (n 2), .int .u64 (n 3)]] w fun e w' => e = .returned (.tuple #[.agg (pC (setR P k n)), .int .i64 (setE P k n)]) ∧ Below w.heap.size w w' := by
  obtain ⟨W, hW⟩ : ∃ W, (((w.alloc (.cells (pC P) 26)).alloc (.cells #[.int .u64 (n 0), .int .u64 (n 1), .int .u64 (n 2), .int .u64 (n 3)] 24)).alloc (.cells (pC fun _ => 0) 26)) = W := ⟨_, rfl⟩
  have HP := hide (show PBlk W w.heap.size P by rw [← hW]; exact ((PBlk.new w P).alloc _).alloc _)
  have hsW : W.heap.size = w.heap.size + 3 := by rw [← hW]; simp
  have HZ := hide (show PBlk W (w.heap.size + 2) (fun _ => 0) by
    rw [← hW]
    have := PBlk.new ((w.alloc (.cells (pC P) 26)).alloc (.cells #[.int .u64 (n 0), .int .u64 (n 1), .int .u64 (n 2), .int .u64 (n 3)] 24)) (fun _ => 0)
    simpa using this)
  have HB := hide (show Below w.heap.size w W by rw [← hW]; exact (((Below.refl _ _).alloc (Nat.le_refl _) _).alloc (by simp) _).alloc (by simp; omega) _)
  have hn0_0 : W.cell? ⟨w.heap.size + 1, 0, none⟩ = some (.int .u64 (n 0)) := by rw [← hW]; simp [go_sem]
  have hn0_1 : W.cell? ⟨w.heap.size + 1, 1, none⟩ = some (.int .u64 (n 1)) := by rw [← hW]; simp [go_sem]
  have hn0_2 : W.cell? ⟨w.heap.size + 1, 2, none⟩ = some (.int .u64 (n 2)) := by rw [← hW]; simp [go_sem]
  have hn0_3 : W.cell? ⟨w.heap.size + 1, 3, none⟩ = some (.int .u64 (n 3)) := by rw [← hW]; simp [go_sem]
  replace hW := hide hW
  have hsW1 : w.heap.size + 3 ≤ W.heap.size := by omega
  have HU := hide (fun w => u64_c (valL_U hn) w)
  clear hsW
  have HV1 := hide (fun w => validP_c P hP w)
  have HV2 := hide (fun w => validP_c (setP P k n) (setP_w hP hn k) w)
  by_cases hk : 1 ≤ k ∧ k ≤ 12
  · rcases key_kind hk.1 hk.2 with ⟨o, ho, hf, hp1, hp2⟩ | ⟨o, ho, hf, hf2, hp1, hp2⟩
    · by_cases h1 : fiV P = 0
      · have tv : (fiV P == 0) = true := by simpa using h1
        have hnb : ¬ (fiV P ≠ 0 ∨ (f256 k = none ∧ ¬ valL n < 18446744073709551616)) := by rintro (h | h); exact h h1; rw [hf] at h; cases h.1
        have hQ := hide (show ∀ j, j < 21 → setP P k n j = if o ≤ j ∧ j < o + 4 then n (j - o) else P j from fun j _ => by unfold setP; rw [hf])
        have hE2 : fiV (setP P k n) = 0 → setE P k n = 0 := setE_ok hk hnb
        have hE3 : fiV (setP P k n) ≠ 0 → setE P k n = 15 := setE_bad2 hk hnb
        rw [tv] at HV1
        clear tv h1 hnb hf
        by_cases h2 : fiV (setP P k n) = 0
        · have tv2 : (fiV (setP P k n) == 0) = true := by simpa using h2
          rw [tv2] at HV2
          rw [setR_set (hE2 h2), hE2 h2]
          clear hE2 hE3 h2 tv2
          go_enter Try.func18, Try.ntmps18
          go_wp2_with fail
          change Calls _ _ _ (((w.alloc (.cells (pC P) 26)).alloc (.cells #[.int .u64 (n 0), .int .u64 (n 1), .int .u64 (n 2), .int .u64 (n 3)] 24)).alloc (.cells (pC fun _ => 0) 26)) _
          rw [hW.out]
          refine (HU.out _).mono ?_
          rintro e w1 ⟨rfl, hb1⟩
          have hs1 := hb1.size
          have HP1 := hide (HP.out.below hb1 HP.out.lt)
          have HZ1 := hide (HZ.out.below hb1 HZ.out.lt)
          have HB1 := hide (HB.out.trans (hb1.mono (by omega)))
          have hn1_0 : w1.cell? ⟨w.heap.size + 1, 0, none⟩ = some (.int .u64 (n 0)) := (hb1.cell (p := ⟨w.heap.size + 1, 0, none⟩) (by show w.heap.size + 1 < W.heap.size; omega)).trans hn0_0
          have hn1_1 : w1.cell? ⟨w.heap.size + 1, 1, none⟩ = some (.int .u64 (n 1)) := (hb1.cell (p := ⟨w.heap.size + 1, 1, none⟩) (by show w.heap.size + 1 < W.heap.size; omega)).trans hn0_1
          have hn1_2 : w1.cell? ⟨w.heap.size + 1, 2, none⟩ = some (.int .u64 (n 2)) := (hb1.cell (p := ⟨w.heap.size + 1, 2, none⟩) (by show w.heap.size + 1 < W.heap.size; omega)).trans hn0_2
          have hn1_3 : w1.cell? ⟨w.heap.size + 1, 3, none⟩ = some (.int .u64 (n 3)) := (hb1.cell (p := ⟨w.heap.size + 1, 3, none⟩) (by show w.heap.size + 1 < W.heap.size; omega)).trans hn0_3
          clear HP HZ HB hb1 hW
          go_wp2_with fail
          refine (fld256_c _ k _).mono ?_
          rintro e w1' ⟨rfl, rfl⟩
          rw [hp1]
          go_wp2_with fail
          refine (fld64_c _ k _).mono ?_
          rintro e w1' ⟨rfl, rfl⟩
          rw [hp2]
          clear hp1 hp2
          go_wp2_with (refine wpList_load_row26 rfl (.tmp 3) rfl (g := w.heap.size) rfl HP1.out ?_)
          refine (HV1.out _).mono ?_
          rintro e w2 ⟨rfl, hb2⟩
          have hs2 := hb2.size
          have HP2 := hide (HP1.out.below hb2 (HP1.out).lt)
          have HZ2 := hide (HZ1.out.below hb2 (HZ1.out).lt)
          have HB2 := hide (HB1.out.trans (hb2.mono (by omega)))
          have hn2_0 : w2.cell? ⟨w.heap.size + 1, 0, none⟩ = some (.int .u64 (n 0)) := (hb2.cell (p := ⟨w.heap.size + 1, 0, none⟩) (by show w.heap.size + 1 < w1.heap.size; omega)).trans hn1_0
          have hn2_1 : w2.cell? ⟨w.heap.size + 1, 1, none⟩ = some (.int .u64 (n 1)) := (hb2.cell (p := ⟨w.heap.size + 1, 1, none⟩) (by show w.heap.size + 1 < w1.heap.size; omega)).trans hn1_1
          have hn2_2 : w2.cell? ⟨w.heap.size + 1, 2, none⟩ = some (.int .u64 (n 2)) := (hb2.cell (p := ⟨w.heap.size + 1, 2, none⟩) (by show w.heap.size + 1 < w1.heap.size; omega)).trans hn1_2
          have hn2_3 : w2.cell? ⟨w.heap.size + 1, 3, none⟩ = some (.int .u64 (n 3)) := (hb2.cell (p := ⟨w.heap.size + 1, 3, none⟩) (by show w.heap.size + 1 < w1.heap.size; omega)).trans hn1_3
          have hth := HP2.out.there4 ho
          have one4 : (#[.int .u64 (n 0), .int .u64 (n 1), .int .u64 (n 2), .int .u64 (n 3)] : Array Value).all (·.oneCell') = true := by simp [Value.oneCell']
          go_wp2_with (first | (refine wpList_store_mid rfl 24 (.tmp 50) (.tmp 49) rfl w.heap.size o #[.int .u64 (n 0), .int .u64 (n 1), .int .u64 (n 2), .int .u64 (n 3)] rfl rfl hth sizeU4 one4 ?_; have hlist : (#[Value.int .u64 (n 0), .int .u64 (n 1), .int .u64 (n 2), .int .u64 (n 3)] : Array Value).toList = [.int .u64 (n 0), .int .u64 (n 1), .int .u64 (n 2), .int .u64 (n 3)] := rfl; rw [hlist]; clear hlist; obtain ⟨w3, hw3⟩ : ∃ w3, w2.setCells w.heap.size o [.int .u64 (n 0), .int .u64 (n 1), .int .u64 (n 2), .int .u64 (n 3)] = w3 := ⟨_, rfl⟩; have HP3 := hide (show PBlk w3 w.heap.size (setP P k n) by rw [← hw3]; exact HP2.out.put4 ho hQ.out); have HZ3 := hide (show PBlk w3 (w.heap.size + 2) (fun _ => 0) by rw [← hw3]; exact heap_setCells_far (by omega) _ _ _ HZ2.out); have HB3 := hide (show Below w.heap.size w w3 by rw [← hw3]; exact below_setCells (Nat.le_refl _) _ _ _ HB2.out); rw [hw3]; clear hw3) | (refine wpList_load_row26 rfl (.tmp 3) rfl (g := w.heap.size) rfl HP3.out ?_))
          refine (HV2.out _).mono ?_
          rintro e w4 ⟨rfl, hb4⟩
          have hs4 := hb4.size
          have HP4 := hide (HP3.out.below hb4 HP3.out.lt)
          have HZ4 := hide (HZ3.out.below hb4 HZ3.out.lt)
          have HB4 := hide (HB3.out.trans (hb4.mono HB3.out.size))
          go_wp2_with (first | (refine wpList_load_row26 rfl (.tmp 3) rfl (g := w.heap.size) rfl HP4.out ?_) | (refine wpList_store_row26 rfl (.tmp 6) (.tmp 55) rfl (g := w.heap.size + 2) (setP P k n) rfl rfl HZ4.out ?_; intro wz HZz hBz _; replace HZz := hide HZz; replace hBz := hide (hBz w.heap.size w (by omega) HB4.out)))
          exact bodyPost_ret (results_row2 rfl rfl HZz.out isRowP sizeP) rfl ⟨rfl, hBz.out⟩
        · have tv2 : (fiV (setP P k n) == 0) = false := by simpa using h2
          rw [tv2] at HV2
          rw [setR_zero (by rw [hE3 h2]; decide), hE3 h2]
          clear hE2 hE3 h2 tv2
          go_enter Try.func18, Try.ntmps18
          go_wp2_with fail
          change Calls _ _ _ (((w.alloc (.cells (pC P) 26)).alloc (.cells #[.int .u64 (n 0), .int .u64 (n 1), .int .u64 (n 2), .int .u64 (n 3)] 24)).alloc (.cells (pC fun _ => 0) 26)) _
          rw [hW.out]
          refine (HU.out _).mono ?_
          rintro e w1 ⟨rfl, hb1⟩
          have hs1 := hb1.size
          have HP1 := hide (HP.out.below hb1 HP.out.lt)
          have HZ1 := hide (HZ.out.below hb1 HZ.out.lt)
          have HB1 := hide (HB.out.trans (hb1.mono (by omega)))
          have hn1_0 : w1.cell? ⟨w.heap.size + 1, 0, none⟩ = some (.int .u64 (n 0)) := (hb1.cell (p := ⟨w.heap.size + 1, 0, none⟩) (by show w.heap.size + 1 < W.heap.size; omega)).trans hn0_0
          have hn1_1 : w1.cell? ⟨w.heap.size + 1, 1, none⟩ = some (.int .u64 (n 1)) := (hb1.cell (p := ⟨w.heap.size + 1, 1, none⟩) (by show w.heap.size + 1 < W.heap.size; omega)).trans hn0_1
          have hn1_2 : w1.cell? ⟨w.heap.size + 1, 2, none⟩ = some (.int .u64 (n 2)) := (hb1.cell (p := ⟨w.heap.size + 1, 2, none⟩) (by show w.heap.size + 1 < W.heap.size; omega)).trans hn0_2
          have hn1_3 : w1.cell? ⟨w.heap.size + 1, 3, none⟩ = some (.int .u64 (n 3)) := (hb1.cell (p := ⟨w.heap.size + 1, 3, none⟩) (by show w.heap.size + 1 < W.heap.size; omega)).trans hn0_3
          clear HP HZ HB hb1 hW
          go_wp2_with fail
          refine (fld256_c _ k _).mono ?_
          rintro e w1' ⟨rfl, rfl⟩
          rw [hp1]
          go_wp2_with fail
          refine (fld64_c _ k _).mono ?_
          rintro e w1' ⟨rfl, rfl⟩
          rw [hp2]
          clear hp1 hp2
          go_wp2_with (refine wpList_load_row26 rfl (.tmp 3) rfl (g := w.heap.size) rfl HP1.out ?_)
          refine (HV1.out _).mono ?_
          rintro e w2 ⟨rfl, hb2⟩
          have hs2 := hb2.size
          have HP2 := hide (HP1.out.below hb2 (HP1.out).lt)
          have HZ2 := hide (HZ1.out.below hb2 (HZ1.out).lt)
          have HB2 := hide (HB1.out.trans (hb2.mono (by omega)))
          have hn2_0 : w2.cell? ⟨w.heap.size + 1, 0, none⟩ = some (.int .u64 (n 0)) := (hb2.cell (p := ⟨w.heap.size + 1, 0, none⟩) (by show w.heap.size + 1 < w1.heap.size; omega)).trans hn1_0
          have hn2_1 : w2.cell? ⟨w.heap.size + 1, 1, none⟩ = some (.int .u64 (n 1)) := (hb2.cell (p := ⟨w.heap.size + 1, 1, none⟩) (by show w.heap.size + 1 < w1.heap.size; omega)).trans hn1_1
          have hn2_2 : w2.cell? ⟨w.heap.size + 1, 2, none⟩ = some (.int .u64 (n 2)) := (hb2.cell (p := ⟨w.heap.size + 1, 2, none⟩) (by show w.heap.size + 1 < w1.heap.size; omega)).trans hn1_2
          have hn2_3 : w2.cell? ⟨w.heap.size + 1, 3, none⟩ = some (.int .u64 (n 3)) := (hb2.cell (p := ⟨w.heap.size + 1, 3, none⟩) (by show w.heap.size + 1 < w1.heap.size; omega)).trans hn1_3
          have hth := HP2.out.there4 ho
          have one4 : (#[.int .u64 (n 0), .int .u64 (n 1), .int .u64 (n 2), .int .u64 (n 3)] : Array Value).all (·.oneCell') = true := by simp [Value.oneCell']
          go_wp2_with (first | (refine wpList_store_mid rfl 24 (.tmp 50) (.tmp 49) rfl w.heap.size o #[.int .u64 (n 0), .int .u64 (n 1), .int .u64 (n 2), .int .u64 (n 3)] rfl rfl hth sizeU4 one4 ?_; have hlist : (#[Value.int .u64 (n 0), .int .u64 (n 1), .int .u64 (n 2), .int .u64 (n 3)] : Array Value).toList = [.int .u64 (n 0), .int .u64 (n 1), .int .u64 (n 2), .int .u64 (n 3)] := rfl; rw [hlist]; clear hlist; obtain ⟨w3, hw3⟩ : ∃ w3, w2.setCells w.heap.size o [.int .u64 (n 0), .int .u64 (n 1), .int .u64 (n 2), .int .u64 (n 3)] = w3 := ⟨_, rfl⟩; have HP3 := hide (show PBlk w3 w.heap.size (setP P k n) by rw [← hw3]; exact HP2.out.put4 ho hQ.out); have HZ3 := hide (show PBlk w3 (w.heap.size + 2) (fun _ => 0) by rw [← hw3]; exact heap_setCells_far (by omega) _ _ _ HZ2.out); have HB3 := hide (show Below w.heap.size w w3 by rw [← hw3]; exact below_setCells (Nat.le_refl _) _ _ _ HB2.out); rw [hw3]; clear hw3) | (refine wpList_load_row26 rfl (.tmp 3) rfl (g := w.heap.size) rfl HP3.out ?_))
          refine (HV2.out _).mono ?_
          rintro e w4 ⟨rfl, hb4⟩
          have hs4 := hb4.size
          have HP4 := hide (HP3.out.below hb4 HP3.out.lt)
          have HZ4 := hide (HZ3.out.below hb4 HZ3.out.lt)
          have HB4 := hide (HB3.out.trans (hb4.mono HB3.out.size))
          go_wp2_with (refine wpList_store_row26 rfl (.tmp 6) (.tmp 54) rfl (g := w.heap.size + 2) (fun _ => 0) rfl rfl HZ4.out ?_; intro wz HZz hBz _; replace HZz := hide HZz; replace hBz := hide (hBz w.heap.size w (by omega) HB4.out))
          exact bodyPost_ret (results_row2 rfl rfl HZz.out isRowP sizeP) rfl ⟨rfl, hBz.out⟩
      · have tv : (fiV P == 0) = false := by simpa using h1
        have hE := setE_bad (n := n) hk (.inl h1)
        rw [tv] at HV1
        rw [setR_zero (by rw [hE]; decide), hE]
        clear tv h1 hf hE HV2
        go_enter Try.func18, Try.ntmps18
        go_wp2_with fail
        change Calls _ _ _ (((w.alloc (.cells (pC P) 26)).alloc (.cells #[.int .u64 (n 0), .int .u64 (n 1), .int .u64 (n 2), .int .u64 (n 3)] 24)).alloc (.cells (pC fun _ => 0) 26)) _
        rw [hW.out]
        refine (HU.out _).mono ?_
        rintro e w1 ⟨rfl, hb1⟩
        have hs1 := hb1.size
        have HP1 := hide (HP.out.below hb1 HP.out.lt)
        have HZ1 := hide (HZ.out.below hb1 HZ.out.lt)
        have HB1 := hide (HB.out.trans (hb1.mono (by omega)))
        have hn1_0 : w1.cell? ⟨w.heap.size + 1, 0, none⟩ = some (.int .u64 (n 0)) := (hb1.cell (p := ⟨w.heap.size + 1, 0, none⟩) (by show w.heap.size + 1 < W.heap.size; omega)).trans hn0_0
        have hn1_1 : w1.cell? ⟨w.heap.size + 1, 1, none⟩ = some (.int .u64 (n 1)) := (hb1.cell (p := ⟨w.heap.size + 1, 1, none⟩) (by show w.heap.size + 1 < W.heap.size; omega)).trans hn0_1
        have hn1_2 : w1.cell? ⟨w.heap.size + 1, 2, none⟩ = some (.int .u64 (n 2)) := (hb1.cell (p := ⟨w.heap.size + 1, 2, none⟩) (by show w.heap.size + 1 < W.heap.size; omega)).trans hn0_2
        have hn1_3 : w1.cell? ⟨w.heap.size + 1, 3, none⟩ = some (.int .u64 (n 3)) := (hb1.cell (p := ⟨w.heap.size + 1, 3, none⟩) (by show w.heap.size + 1 < W.heap.size; omega)).trans hn0_3
        clear HP HZ HB hb1 hW
        go_wp2_with fail
        refine (fld256_c _ k _).mono ?_
        rintro e w1' ⟨rfl, rfl⟩
        rw [hp1]
        go_wp2_with fail
        refine (fld64_c _ k _).mono ?_
        rintro e w1' ⟨rfl, rfl⟩
        rw [hp2]
        clear hp1 hp2
        go_wp2_with (refine wpList_load_row26 rfl (.tmp 3) rfl (g := w.heap.size) rfl HP1.out ?_)
        refine (HV1.out _).mono ?_
        rintro e w2 ⟨rfl, hb2⟩
        have hs2 := hb2.size
        have HP2 := hide (HP1.out.below hb2 (HP1.out).lt)
        have HZ2 := hide (HZ1.out.below hb2 (HZ1.out).lt)
        have HB2 := hide (HB1.out.trans (hb2.mono (by omega)))
        go_wp2_with (refine wpList_store_row26 rfl (.tmp 6) (.tmp 44) rfl (g := w.heap.size + 2) (fun _ => 0) rfl rfl HZ2.out ?_; intro wz HZz hBz _; replace HZz := hide HZz; replace hBz := hide (hBz w.heap.size w (by omega) HB2.out))
        exact bodyPost_ret (results_row2 rfl rfl HZz.out isRowP sizeP) rfl ⟨rfl, hBz.out⟩
    · by_cases h1 : fiV P = 0
      · have tv : (fiV P == 0) = true := by simpa using h1
        rw [tv] at HV1
        by_cases h3 : valL n < 18446744073709551616
        · have hnb : ¬ (fiV P ≠ 0 ∨ (f256 k = none ∧ ¬ valL n < 18446744073709551616)) := by rintro (h | h); exact h h1; exact h.2 h3
          have tb : u64B (valL n) = true := decide_eq_true h3
          have tl : u64V (valL n) = n 0 := by have hh := valL_small hn h3; have := (hn 0).1; rw [u64V, if_pos h3]; unfold valL; omega
          rw [tb, tl] at HU
          have hQ := hide (show ∀ j, j < 21 → setP P k n j = if j = o then n 0 else P j from fun j _ => by unfold setP; rw [hf, hf2])
          have hE2 : fiV (setP P k n) = 0 → setE P k n = 0 := setE_ok hk hnb
          have hE3 : fiV (setP P k n) ≠ 0 → setE P k n = 15 := setE_bad2 hk hnb
          clear tv h1 hnb hf hf2 h3 tb tl
          by_cases h2 : fiV (setP P k n) = 0
          · have tv2 : (fiV (setP P k n) == 0) = true := by simpa using h2
            rw [tv2] at HV2
            rw [setR_set (hE2 h2), hE2 h2]
            clear hE2 hE3 h2 tv2
            go_enter Try.func18, Try.ntmps18
            go_wp2_with fail
            change Calls _ _ _ (((w.alloc (.cells (pC P) 26)).alloc (.cells #[.int .u64 (n 0), .int .u64 (n 1), .int .u64 (n 2), .int .u64 (n 3)] 24)).alloc (.cells (pC fun _ => 0) 26)) _
            rw [hW.out]
            refine (HU.out _).mono ?_
            rintro e w1 ⟨rfl, hb1⟩
            have hs1 := hb1.size
            have HP1 := hide (HP.out.below hb1 HP.out.lt)
            have HZ1 := hide (HZ.out.below hb1 HZ.out.lt)
            have HB1 := hide (HB.out.trans (hb1.mono (by omega)))
            have hn1_0 : w1.cell? ⟨w.heap.size + 1, 0, none⟩ = some (.int .u64 (n 0)) := (hb1.cell (p := ⟨w.heap.size + 1, 0, none⟩) (by show w.heap.size + 1 < W.heap.size; omega)).trans hn0_0
            have hn1_1 : w1.cell? ⟨w.heap.size + 1, 1, none⟩ = some (.int .u64 (n 1)) := (hb1.cell (p := ⟨w.heap.size + 1, 1, none⟩) (by show w.heap.size + 1 < W.heap.size; omega)).trans hn0_1
            have hn1_2 : w1.cell? ⟨w.heap.size + 1, 2, none⟩ = some (.int .u64 (n 2)) := (hb1.cell (p := ⟨w.heap.size + 1, 2, none⟩) (by show w.heap.size + 1 < W.heap.size; omega)).trans hn0_2
            have hn1_3 : w1.cell? ⟨w.heap.size + 1, 3, none⟩ = some (.int .u64 (n 3)) := (hb1.cell (p := ⟨w.heap.size + 1, 3, none⟩) (by show w.heap.size + 1 < W.heap.size; omega)).trans hn0_3
            clear HP HZ HB hb1 hW
            go_wp2_with fail
            refine (fld256_c _ k _).mono ?_
            rintro e w1' ⟨rfl, rfl⟩
            rw [hp1]
            go_wp2_with fail
            refine (fld64_c _ k _).mono ?_
            rintro e w1' ⟨rfl, rfl⟩
            rw [hp2]
            clear hp1 hp2
            go_wp2_with (refine wpList_load_row26 rfl (.tmp 3) rfl (g := w.heap.size) rfl HP1.out ?_)
            refine (HV1.out _).mono ?_
            rintro e w2 ⟨rfl, hb2⟩
            have hs2 := hb2.size
            have HP2 := hide (HP1.out.below hb2 (HP1.out).lt)
            have HZ2 := hide (HZ1.out.below hb2 (HZ1.out).lt)
            have HB2 := hide (HB1.out.trans (hb2.mono (by omega)))
            have hcell := HP2.out.cell ho
            have hfree := HP2.out.free o
            have HP3 := hide (HP2.out.set ho hQ.out)
            have HZ3 := hide (HZ2.out.far (b := w.heap.size) (i := o) (by omega) (.int .u64 (n 0)))
            have HB3 := hide (HB2.out.setCell (p := ⟨w.heap.size, o, none⟩) (Nat.le_refl _) (.int .u64 (n 0)))
            go_wp2_with (refine wpList_load_row26 rfl (.tmp 3) rfl (g := w.heap.size) rfl HP3.out ?_)
            refine (HV2.out _).mono ?_
            rintro e w4 ⟨rfl, hb4⟩
            have hs4 := hb4.size
            have HP4 := hide (HP3.out.below hb4 HP3.out.lt)
            have HZ4 := hide (HZ3.out.below hb4 HZ3.out.lt)
            have HB4 := hide (HB3.out.trans (hb4.mono HB3.out.size))
            go_wp2_with (first | (refine wpList_load_row26 rfl (.tmp 3) rfl (g := w.heap.size) rfl HP4.out ?_) | (refine wpList_store_row26 rfl (.tmp 6) (.tmp 55) rfl (g := w.heap.size + 2) (setP P k n) rfl rfl HZ4.out ?_; intro wz HZz hBz _; replace HZz := hide HZz; replace hBz := hide (hBz w.heap.size w (by omega) HB4.out)))
            exact bodyPost_ret (results_row2 rfl rfl HZz.out isRowP sizeP) rfl ⟨rfl, hBz.out⟩
          · have tv2 : (fiV (setP P k n) == 0) = false := by simpa using h2
            rw [tv2] at HV2
            rw [setR_zero (by rw [hE3 h2]; decide), hE3 h2]
            clear hE2 hE3 h2 tv2
            go_enter Try.func18, Try.ntmps18
            go_wp2_with fail
            change Calls _ _ _ (((w.alloc (.cells (pC P) 26)).alloc (.cells #[.int .u64 (n 0), .int .u64 (n 1), .int .u64 (n 2), .int .u64 (n 3)] 24)).alloc (.cells (pC fun _ => 0) 26)) _
            rw [hW.out]
            refine (HU.out _).mono ?_
            rintro e w1 ⟨rfl, hb1⟩
            have hs1 := hb1.size
            have HP1 := hide (HP.out.below hb1 HP.out.lt)
            have HZ1 := hide (HZ.out.below hb1 HZ.out.lt)
            have HB1 := hide (HB.out.trans (hb1.mono (by omega)))
            have hn1_0 : w1.cell? ⟨w.heap.size + 1, 0, none⟩ = some (.int .u64 (n 0)) := (hb1.cell (p := ⟨w.heap.size + 1, 0, none⟩) (by show w.heap.size + 1 < W.heap.size; omega)).trans hn0_0
            have hn1_1 : w1.cell? ⟨w.heap.size + 1, 1, none⟩ = some (.int .u64 (n 1)) := (hb1.cell (p := ⟨w.heap.size + 1, 1, none⟩) (by show w.heap.size + 1 < W.heap.size; omega)).trans hn0_1
            have hn1_2 : w1.cell? ⟨w.heap.size + 1, 2, none⟩ = some (.int .u64 (n 2)) := (hb1.cell (p := ⟨w.heap.size + 1, 2, none⟩) (by show w.heap.size + 1 < W.heap.size; omega)).trans hn0_2
            have hn1_3 : w1.cell? ⟨w.heap.size + 1, 3, none⟩ = some (.int .u64 (n 3)) := (hb1.cell (p := ⟨w.heap.size + 1, 3, none⟩) (by show w.heap.size + 1 < W.heap.size; omega)).trans hn0_3
            clear HP HZ HB hb1 hW
            go_wp2_with fail
            refine (fld256_c _ k _).mono ?_
            rintro e w1' ⟨rfl, rfl⟩
            rw [hp1]
            go_wp2_with fail
            refine (fld64_c _ k _).mono ?_
            rintro e w1' ⟨rfl, rfl⟩
            rw [hp2]
            clear hp1 hp2
            go_wp2_with (refine wpList_load_row26 rfl (.tmp 3) rfl (g := w.heap.size) rfl HP1.out ?_)
            refine (HV1.out _).mono ?_
            rintro e w2 ⟨rfl, hb2⟩
            have hs2 := hb2.size
            have HP2 := hide (HP1.out.below hb2 (HP1.out).lt)
            have HZ2 := hide (HZ1.out.below hb2 (HZ1.out).lt)
            have HB2 := hide (HB1.out.trans (hb2.mono (by omega)))
            have hcell := HP2.out.cell ho
            have hfree := HP2.out.free o
            have HP3 := hide (HP2.out.set ho hQ.out)
            have HZ3 := hide (HZ2.out.far (b := w.heap.size) (i := o) (by omega) (.int .u64 (n 0)))
            have HB3 := hide (HB2.out.setCell (p := ⟨w.heap.size, o, none⟩) (Nat.le_refl _) (.int .u64 (n 0)))
            go_wp2_with (refine wpList_load_row26 rfl (.tmp 3) rfl (g := w.heap.size) rfl HP3.out ?_)
            refine (HV2.out _).mono ?_
            rintro e w4 ⟨rfl, hb4⟩
            have hs4 := hb4.size
            have HP4 := hide (HP3.out.below hb4 HP3.out.lt)
            have HZ4 := hide (HZ3.out.below hb4 HZ3.out.lt)
            have HB4 := hide (HB3.out.trans (hb4.mono HB3.out.size))
            go_wp2_with (refine wpList_store_row26 rfl (.tmp 6) (.tmp 54) rfl (g := w.heap.size + 2) (fun _ => 0) rfl rfl HZ4.out ?_; intro wz HZz hBz _; replace HZz := hide HZz; replace hBz := hide (hBz w.heap.size w (by omega) HB4.out))
            exact bodyPost_ret (results_row2 rfl rfl HZz.out isRowP sizeP) rfl ⟨rfl, hBz.out⟩
        · have tb : u64B (valL n) = false := decide_eq_false h3
          rw [tb] at HU
          have hE := setE_bad (P := P) (n := n) hk (.inr ⟨hf, h3⟩)
          rw [setR_zero (by rw [hE]; decide), hE]
          clear tv h1 hf hf2 h3 tb hE HV2
          go_enter Try.func18, Try.ntmps18
          go_wp2_with fail
          change Calls _ _ _ (((w.alloc (.cells (pC P) 26)).alloc (.cells #[.int .u64 (n 0), .int .u64 (n 1), .int .u64 (n 2), .int .u64 (n 3)] 24)).alloc (.cells (pC fun _ => 0) 26)) _
          rw [hW.out]
          refine (HU.out _).mono ?_
          rintro e w1 ⟨rfl, hb1⟩
          have hs1 := hb1.size
          have HP1 := hide (HP.out.below hb1 HP.out.lt)
          have HZ1 := hide (HZ.out.below hb1 HZ.out.lt)
          have HB1 := hide (HB.out.trans (hb1.mono (by omega)))
          have hn1_0 : w1.cell? ⟨w.heap.size + 1, 0, none⟩ = some (.int .u64 (n 0)) := (hb1.cell (p := ⟨w.heap.size + 1, 0, none⟩) (by show w.heap.size + 1 < W.heap.size; omega)).trans hn0_0
          have hn1_1 : w1.cell? ⟨w.heap.size + 1, 1, none⟩ = some (.int .u64 (n 1)) := (hb1.cell (p := ⟨w.heap.size + 1, 1, none⟩) (by show w.heap.size + 1 < W.heap.size; omega)).trans hn0_1
          have hn1_2 : w1.cell? ⟨w.heap.size + 1, 2, none⟩ = some (.int .u64 (n 2)) := (hb1.cell (p := ⟨w.heap.size + 1, 2, none⟩) (by show w.heap.size + 1 < W.heap.size; omega)).trans hn0_2
          have hn1_3 : w1.cell? ⟨w.heap.size + 1, 3, none⟩ = some (.int .u64 (n 3)) := (hb1.cell (p := ⟨w.heap.size + 1, 3, none⟩) (by show w.heap.size + 1 < W.heap.size; omega)).trans hn0_3
          clear HP HZ HB hb1 hW
          go_wp2_with fail
          refine (fld256_c _ k _).mono ?_
          rintro e w1' ⟨rfl, rfl⟩
          rw [hp1]
          go_wp2_with fail
          refine (fld64_c _ k _).mono ?_
          rintro e w1' ⟨rfl, rfl⟩
          rw [hp2]
          clear hp1 hp2
          go_wp2_with (refine wpList_load_row26 rfl (.tmp 3) rfl (g := w.heap.size) rfl HP1.out ?_)
          refine (HV1.out _).mono ?_
          rintro e w2 ⟨rfl, hb2⟩
          have hs2 := hb2.size
          have HP2 := hide (HP1.out.below hb2 (HP1.out).lt)
          have HZ2 := hide (HZ1.out.below hb2 (HZ1.out).lt)
          have HB2 := hide (HB1.out.trans (hb2.mono (by omega)))
          go_wp2_with (refine wpList_store_row26 rfl (.tmp 6) (.tmp 44) rfl (g := w.heap.size + 2) (fun _ => 0) rfl rfl HZ2.out ?_; intro wz HZz hBz _; replace HZz := hide HZz; replace hBz := hide (hBz w.heap.size w (by omega) HB2.out))
          exact bodyPost_ret (results_row2 rfl rfl HZz.out isRowP sizeP) rfl ⟨rfl, hBz.out⟩
      · have tv : (fiV P == 0) = false := by simpa using h1
        have hE := setE_bad (n := n) hk (.inl h1)
        rw [tv] at HV1
        rw [setR_zero (by rw [hE]; decide), hE]
        clear tv h1 hf hf2 hE HV2
        go_enter Try.func18, Try.ntmps18
        go_wp2_with fail
        change Calls _ _ _ (((w.alloc (.cells (pC P) 26)).alloc (.cells #[.int .u64 (n 0), .int .u64 (n 1), .int .u64 (n 2), .int .u64 (n 3)] 24)).alloc (.cells (pC fun _ => 0) 26)) _
        rw [hW.out]
        refine (HU.out _).mono ?_
        rintro e w1 ⟨rfl, hb1⟩
        have hs1 := hb1.size
        have HP1 := hide (HP.out.below hb1 HP.out.lt)
        have HZ1 := hide (HZ.out.below hb1 HZ.out.lt)
        have HB1 := hide (HB.out.trans (hb1.mono (by omega)))
        have hn1_0 : w1.cell? ⟨w.heap.size + 1, 0, none⟩ = some (.int .u64 (n 0)) := (hb1.cell (p := ⟨w.heap.size + 1, 0, none⟩) (by show w.heap.size + 1 < W.heap.size; omega)).trans hn0_0
        have hn1_1 : w1.cell? ⟨w.heap.size + 1, 1, none⟩ = some (.int .u64 (n 1)) := (hb1.cell (p := ⟨w.heap.size + 1, 1, none⟩) (by show w.heap.size + 1 < W.heap.size; omega)).trans hn0_1
        have hn1_2 : w1.cell? ⟨w.heap.size + 1, 2, none⟩ = some (.int .u64 (n 2)) := (hb1.cell (p := ⟨w.heap.size + 1, 2, none⟩) (by show w.heap.size + 1 < W.heap.size; omega)).trans hn0_2
        have hn1_3 : w1.cell? ⟨w.heap.size + 1, 3, none⟩ = some (.int .u64 (n 3)) := (hb1.cell (p := ⟨w.heap.size + 1, 3, none⟩) (by show w.heap.size + 1 < W.heap.size; omega)).trans hn0_3
        clear HP HZ HB hb1 hW
        go_wp2_with fail
        refine (fld256_c _ k _).mono ?_
        rintro e w1' ⟨rfl, rfl⟩
        rw [hp1]
        go_wp2_with fail
        refine (fld64_c _ k _).mono ?_
        rintro e w1' ⟨rfl, rfl⟩
        rw [hp2]
        clear hp1 hp2
        go_wp2_with (refine wpList_load_row26 rfl (.tmp 3) rfl (g := w.heap.size) rfl HP1.out ?_)
        refine (HV1.out _).mono ?_
        rintro e w2 ⟨rfl, hb2⟩
        have hs2 := hb2.size
        have HP2 := hide (HP1.out.below hb2 (HP1.out).lt)
        have HZ2 := hide (HZ1.out.below hb2 (HZ1.out).lt)
        have HB2 := hide (HB1.out.trans (hb2.mono (by omega)))
        go_wp2_with (refine wpList_store_row26 rfl (.tmp 6) (.tmp 44) rfl (g := w.heap.size + 2) (fun _ => 0) rfl rfl HZ2.out ?_; intro wz HZz hBz _; replace HZz := hide HZz; replace hBz := hide (hBz w.heap.size w (by omega) HB2.out))
        exact bodyPost_ret (results_row2 rfl rfl HZz.out isRowP sizeP) rfl ⟨rfl, hBz.out⟩
  · have hp := fun g => key_none hk g
    have hE : setE P k n = 17 := setE_no hk
    rw [setR_zero (by rw [hE]; decide), hE]
    clear hE HV1 HV2
    go_enter Try.func18, Try.ntmps18
    go_wp2_with fail
    change Calls _ _ _ (((w.alloc (.cells (pC P) 26)).alloc (.cells #[.int .u64 (n 0), .int .u64 (n 1), .int .u64 (n 2), .int .u64 (n 3)] 24)).alloc (.cells (pC fun _ => 0) 26)) _
    rw [hW.out]
    refine (HU.out _).mono ?_
    rintro e w1 ⟨rfl, hb1⟩
    have hs1 := hb1.size
    have HP1 := hide (HP.out.below hb1 HP.out.lt)
    have HZ1 := hide (HZ.out.below hb1 HZ.out.lt)
    have HB1 := hide (HB.out.trans (hb1.mono (by omega)))
    have hn1_0 : w1.cell? ⟨w.heap.size + 1, 0, none⟩ = some (.int .u64 (n 0)) := (hb1.cell (p := ⟨w.heap.size + 1, 0, none⟩) (by show w.heap.size + 1 < W.heap.size; omega)).trans hn0_0
    have hn1_1 : w1.cell? ⟨w.heap.size + 1, 1, none⟩ = some (.int .u64 (n 1)) := (hb1.cell (p := ⟨w.heap.size + 1, 1, none⟩) (by show w.heap.size + 1 < W.heap.size; omega)).trans hn0_1
    have hn1_2 : w1.cell? ⟨w.heap.size + 1, 2, none⟩ = some (.int .u64 (n 2)) := (hb1.cell (p := ⟨w.heap.size + 1, 2, none⟩) (by show w.heap.size + 1 < W.heap.size; omega)).trans hn0_2
    have hn1_3 : w1.cell? ⟨w.heap.size + 1, 3, none⟩ = some (.int .u64 (n 3)) := (hb1.cell (p := ⟨w.heap.size + 1, 3, none⟩) (by show w.heap.size + 1 < W.heap.size; omega)).trans hn0_3
    clear HP HZ HB hb1 hW
    go_wp2_with fail
    refine (fld256_c _ k _).mono ?_
    rintro e w1' ⟨rfl, rfl⟩
    rw [(hp _).1]
    go_wp2_with fail
    refine (fld64_c _ k _).mono ?_
    rintro e w1' ⟨rfl, rfl⟩
    rw [(hp _).2]
    clear hp
    go_wp2_with (refine wpList_store_row26 rfl (.tmp 6) (.tmp 31) rfl (g := w.heap.size + 2) (fun _ => 0) rfl rfl HZ1.out ?_; intro wz HZz hBz _; replace HZz := hide HZz; replace hBz := hide (hBz w.heap.size w (by omega) HB1.out))
    exact bodyPost_ret (results_row2 rfl rfl HZz.out isRowP sizeP) rfl ⟨rfl, hBz.out⟩
end Go.Proofs.Ytbnpgecpanfpiaa
