/- pontageref12.Get. -/
import Derived.WalkKit
import Derived.KernelRfl
import Derived.RowKit3
import Derived.Deep.LoopGhost
import Derived.Deep.QuietTactic
import Derived.BigQuiet
import Derived.WideLaws
import Derived.Laws.Rows
import Derived.Below
import Derived.Deep.Draws
import Derived.Outline
import Derived.LoopN
import Derived.Handy
import Derived.Laws.Externs
import Derived.Laws.BitsAllLaws
import Derived.Laws.BitsLemmas
import Derived.Deep.DeepCutAuto
import Derived.Deep.CutBlock
import Derived.Deep.RegionHeld3
import Derived.Test.YtbnpgecpanfpiaaPR
namespace Go.Proofs.Ytbnpgecpanfpiaa
open Go.RowKit
set_option linter.unusedVariables false
set_option linter.unusedSimpArgs false
theorem sizeU4r : (Try.prog.info? 24).map (·.size) = some 4 := by kernel_rfl
theorem one4r (a b c d : Int) : (#[Value.int .u64 a, .int .u64 b, .int .u64 c, .int .u64 d] : Array Value).all (·.oneCell') = true := by simp [Value.oneCell']
theorem getL_no {P : Nat → Int} {k : Int} (h : ¬ (1 ≤ k ∧ k ≤ 12)) (j : Nat) : getL P k j = 0 := by
  have e1 : f256 k = none := by unfold f256; repeat' (first | (rw [if_neg (by omega)]) | rfl)
  have e2 : f64 k = none := by unfold f64; repeat' (first | (rw [if_neg (by omega)]) | rfl)
  unfold getL
  rw [e1, e2]
set_option maxRecDepth 20000 in
set_option maxHeartbeats 16000000 in
theorem rget_c (P : Nat → Int) (k : Int) (w : World) : Calls Try.prog 9 #[.agg (pC P), .int .i64 k] w fun e w' => e = .returned (.tuple #[.agg #[.int .u64 (getL P k 0), .int .u64 (getL P k 1), .int .u64 (getL P k 2), .int .u64 (getL P k 3)], .int .i64 (getE k)]) ∧ Below w.heap.size w w' := by
  have HP := hide ((PBlk.new w P).alloc (.cells #[.int .u64 0, .int .u64 0, .int .u64 0, .int .u64 0] 24))
  have HZ := hide (RBlk.new (w.alloc (.cells (pC P) 26)) #[.int .u64 0, .int .u64 0, .int .u64 0, .int .u64 0] 24)
  simp only [World.size_alloc] at HZ
  have HB := hide (show Below w.heap.size w ((w.alloc (.cells (pC P) 26)).alloc (.cells #[.int .u64 0, .int .u64 0, .int .u64 0, .int .u64 0] 24)) from ((Below.refl _ _).alloc (Nat.le_refl _) _).alloc (by simp) _)
  by_cases hk : 1 ≤ k ∧ k ≤ 12
  · obtain rfl | rfl | rfl | rfl | rfl | rfl | rfl | rfl | rfl | rfl | rfl | rfl : k = 1 ∨ k = 2 ∨ k = 3 ∨ k = 4 ∨ k = 5 ∨ k = 6 ∨ k = 7 ∨ k = 8 ∨ k = 9 ∨ k = 10 ∨ k = 11 ∨ k = 12 := by omega
    · have e1 : getE 1 = 0 := rfl
      rw [e1]
      clear e1
      have ix := (idx54 P).1
      go_enter Try.func9, Try.ntmps9
      go_wp2_with (refine wpList_load_row26 (P := P) rfl (.tmp 2) rfl (g := w.heap.size) rfl HP.out ?_)
      refine (rall_c P _).mono ?_
      rintro e w1 ⟨rfl, hb⟩
      replace HB := hide (HB.out.trans (hb.mono (by simp; omega)))
      replace HZ := hide (HZ.out.below hb (by simp))
      clear hb HP
      go_wp2_with (refine wpList_store_rowR (by rfl) (.tmp 4) (.tmp 17) rfl rfl rfl HZ.out rfl sizeU4r (one4r _ _ _ _) ?_; intro wz HZz hSz; replace HZz := hide HZz; have hBz := hide (hSz.1 w.heap.size w (by omega) HB.out); clear hSz)
      exact bodyPost_ret (results_rowR2 rfl rfl HZz.out Try.underlying24 rfl sizeU4r) rfl ⟨rfl, hBz.out⟩
    · have e1 : getE 2 = 0 := rfl
      rw [e1]
      clear e1
      have ix := (idx54 P).2.1
      go_enter Try.func9, Try.ntmps9
      go_wp2_with (refine wpList_load_row26 (P := P) rfl (.tmp 2) rfl (g := w.heap.size) rfl HP.out ?_)
      refine (rall_c P _).mono ?_
      rintro e w1 ⟨rfl, hb⟩
      replace HB := hide (HB.out.trans (hb.mono (by simp; omega)))
      replace HZ := hide (HZ.out.below hb (by simp))
      clear hb HP
      go_wp2_with (refine wpList_store_rowR (by rfl) (.tmp 4) (.tmp 17) rfl rfl rfl HZ.out rfl sizeU4r (one4r _ _ _ _) ?_; intro wz HZz hSz; replace HZz := hide HZz; have hBz := hide (hSz.1 w.heap.size w (by omega) HB.out); clear hSz)
      exact bodyPost_ret (results_rowR2 rfl rfl HZz.out Try.underlying24 rfl sizeU4r) rfl ⟨rfl, hBz.out⟩
    · have e1 : getE 3 = 0 := rfl
      rw [e1]
      clear e1
      have ix := (idx54 P).2.2.1
      go_enter Try.func9, Try.ntmps9
      go_wp2_with (refine wpList_load_row26 (P := P) rfl (.tmp 2) rfl (g := w.heap.size) rfl HP.out ?_)
      refine (rall_c P _).mono ?_
      rintro e w1 ⟨rfl, hb⟩
      replace HB := hide (HB.out.trans (hb.mono (by simp; omega)))
      replace HZ := hide (HZ.out.below hb (by simp))
      clear hb HP
      go_wp2_with (refine wpList_store_rowR (by rfl) (.tmp 4) (.tmp 17) rfl rfl rfl HZ.out rfl sizeU4r (one4r _ _ _ _) ?_; intro wz HZz hSz; replace HZz := hide HZz; have hBz := hide (hSz.1 w.heap.size w (by omega) HB.out); clear hSz)
      exact bodyPost_ret (results_rowR2 rfl rfl HZz.out Try.underlying24 rfl sizeU4r) rfl ⟨rfl, hBz.out⟩
    · have e1 : getE 4 = 0 := rfl
      rw [e1]
      clear e1
      have ix := (idx54 P).2.2.2.1
      go_enter Try.func9, Try.ntmps9
      go_wp2_with (refine wpList_load_row26 (P := P) rfl (.tmp 2) rfl (g := w.heap.size) rfl HP.out ?_)
      refine (rall_c P _).mono ?_
      rintro e w1 ⟨rfl, hb⟩
      replace HB := hide (HB.out.trans (hb.mono (by simp; omega)))
      replace HZ := hide (HZ.out.below hb (by simp))
      clear hb HP
      go_wp2_with (refine wpList_store_rowR (by rfl) (.tmp 4) (.tmp 17) rfl rfl rfl HZ.out rfl sizeU4r (one4r _ _ _ _) ?_; intro wz HZz hSz; replace HZz := hide HZz; have hBz := hide (hSz.1 w.heap.size w (by omega) HB.out); clear hSz)
      exact bodyPost_ret (results_rowR2 rfl rfl HZz.out Try.underlying24 rfl sizeU4r) rfl ⟨rfl, hBz.out⟩
    · have e1 : getE 5 = 0 := rfl
      rw [e1]
      clear e1
      have ix := (idx54 P).2.2.2.2.1
      go_enter Try.func9, Try.ntmps9
      go_wp2_with (refine wpList_load_row26 (P := P) rfl (.tmp 2) rfl (g := w.heap.size) rfl HP.out ?_)
      refine (rall_c P _).mono ?_
      rintro e w1 ⟨rfl, hb⟩
      replace HB := hide (HB.out.trans (hb.mono (by simp; omega)))
      replace HZ := hide (HZ.out.below hb (by simp))
      clear hb HP
      go_wp2_with (refine wpList_store_rowR (by rfl) (.tmp 4) (.tmp 17) rfl rfl rfl HZ.out rfl sizeU4r (one4r _ _ _ _) ?_; intro wz HZz hSz; replace HZz := hide HZz; have hBz := hide (hSz.1 w.heap.size w (by omega) HB.out); clear hSz)
      exact bodyPost_ret (results_rowR2 rfl rfl HZz.out Try.underlying24 rfl sizeU4r) rfl ⟨rfl, hBz.out⟩
    · have e1 : getE 6 = 0 := rfl
      rw [e1]
      clear e1
      have ix := (idx54 P).2.2.2.2.2.1
      go_enter Try.func9, Try.ntmps9
      go_wp2_with (refine wpList_load_row26 (P := P) rfl (.tmp 2) rfl (g := w.heap.size) rfl HP.out ?_)
      refine (rall_c P _).mono ?_
      rintro e w1 ⟨rfl, hb⟩
      replace HB := hide (HB.out.trans (hb.mono (by simp; omega)))
      replace HZ := hide (HZ.out.below hb (by simp))
      clear hb HP
      go_wp2_with (refine wpList_store_rowR (by rfl) (.tmp 4) (.tmp 17) rfl rfl rfl HZ.out rfl sizeU4r (one4r _ _ _ _) ?_; intro wz HZz hSz; replace HZz := hide HZz; have hBz := hide (hSz.1 w.heap.size w (by omega) HB.out); clear hSz)
      exact bodyPost_ret (results_rowR2 rfl rfl HZz.out Try.underlying24 rfl sizeU4r) rfl ⟨rfl, hBz.out⟩
    · have e1 : getE 7 = 0 := rfl
      rw [e1]
      clear e1
      have ix := (idx54 P).2.2.2.2.2.2.1
      go_enter Try.func9, Try.ntmps9
      go_wp2_with (refine wpList_load_row26 (P := P) rfl (.tmp 2) rfl (g := w.heap.size) rfl HP.out ?_)
      refine (rall_c P _).mono ?_
      rintro e w1 ⟨rfl, hb⟩
      replace HB := hide (HB.out.trans (hb.mono (by simp; omega)))
      replace HZ := hide (HZ.out.below hb (by simp))
      clear hb HP
      go_wp2_with (refine wpList_store_rowR (by rfl) (.tmp 4) (.tmp 17) rfl rfl rfl HZ.out rfl sizeU4r (one4r _ _ _ _) ?_; intro wz HZz hSz; replace HZz := hide HZz; have hBz := hide (hSz.1 w.heap.size w (by omega) HB.out); clear hSz)
      exact bodyPost_ret (results_rowR2 rfl rfl HZz.out Try.underlying24 rfl sizeU4r) rfl ⟨rfl, hBz.out⟩
    · have e1 : getE 8 = 0 := rfl
      rw [e1]
      clear e1
      have ix := (idx54 P).2.2.2.2.2.2.2.1
      go_enter Try.func9, Try.ntmps9
      go_wp2_with (refine wpList_load_row26 (P := P) rfl (.tmp 2) rfl (g := w.heap.size) rfl HP.out ?_)
      refine (rall_c P _).mono ?_
      rintro e w1 ⟨rfl, hb⟩
      replace HB := hide (HB.out.trans (hb.mono (by simp; omega)))
      replace HZ := hide (HZ.out.below hb (by simp))
      clear hb HP
      go_wp2_with (refine wpList_store_rowR (by rfl) (.tmp 4) (.tmp 17) rfl rfl rfl HZ.out rfl sizeU4r (one4r _ _ _ _) ?_; intro wz HZz hSz; replace HZz := hide HZz; have hBz := hide (hSz.1 w.heap.size w (by omega) HB.out); clear hSz)
      exact bodyPost_ret (results_rowR2 rfl rfl HZz.out Try.underlying24 rfl sizeU4r) rfl ⟨rfl, hBz.out⟩
    · have e1 : getE 9 = 0 := rfl
      rw [e1]
      clear e1
      have ix := (idx54 P).2.2.2.2.2.2.2.2.1
      go_enter Try.func9, Try.ntmps9
      go_wp2_with (refine wpList_load_row26 (P := P) rfl (.tmp 2) rfl (g := w.heap.size) rfl HP.out ?_)
      refine (rall_c P _).mono ?_
      rintro e w1 ⟨rfl, hb⟩
      replace HB := hide (HB.out.trans (hb.mono (by simp; omega)))
      replace HZ := hide (HZ.out.below hb (by simp))
      clear hb HP
      go_wp2_with (refine wpList_store_rowR (by rfl) (.tmp 4) (.tmp 17) rfl rfl rfl HZ.out rfl sizeU4r (one4r _ _ _ _) ?_; intro wz HZz hSz; replace HZz := hide HZz; have hBz := hide (hSz.1 w.heap.size w (by omega) HB.out); clear hSz)
      exact bodyPost_ret (results_rowR2 rfl rfl HZz.out Try.underlying24 rfl sizeU4r) rfl ⟨rfl, hBz.out⟩
    · have e1 : getE 10 = 0 := rfl
      rw [e1]
      clear e1
      have ix := (idx54 P).2.2.2.2.2.2.2.2.2.1
      go_enter Try.func9, Try.ntmps9
      go_wp2_with (refine wpList_load_row26 (P := P) rfl (.tmp 2) rfl (g := w.heap.size) rfl HP.out ?_)
      refine (rall_c P _).mono ?_
      rintro e w1 ⟨rfl, hb⟩
      replace HB := hide (HB.out.trans (hb.mono (by simp; omega)))
      replace HZ := hide (HZ.out.below hb (by simp))
      clear hb HP
      go_wp2_with (refine wpList_store_rowR (by rfl) (.tmp 4) (.tmp 17) rfl rfl rfl HZ.out rfl sizeU4r (one4r _ _ _ _) ?_; intro wz HZz hSz; replace HZz := hide HZz; have hBz := hide (hSz.1 w.heap.size w (by omega) HB.out); clear hSz)
      exact bodyPost_ret (results_rowR2 rfl rfl HZz.out Try.underlying24 rfl sizeU4r) rfl ⟨rfl, hBz.out⟩
    · have e1 : getE 11 = 0 := rfl
      rw [e1]
      clear e1
      have ix := (idx54 P).2.2.2.2.2.2.2.2.2.2.1
      go_enter Try.func9, Try.ntmps9
      go_wp2_with (refine wpList_load_row26 (P := P) rfl (.tmp 2) rfl (g := w.heap.size) rfl HP.out ?_)
      refine (rall_c P _).mono ?_
      rintro e w1 ⟨rfl, hb⟩
      replace HB := hide (HB.out.trans (hb.mono (by simp; omega)))
      replace HZ := hide (HZ.out.below hb (by simp))
      clear hb HP
      go_wp2_with (refine wpList_store_rowR (by rfl) (.tmp 4) (.tmp 17) rfl rfl rfl HZ.out rfl sizeU4r (one4r _ _ _ _) ?_; intro wz HZz hSz; replace HZz := hide HZz; have hBz := hide (hSz.1 w.heap.size w (by omega) HB.out); clear hSz)
      exact bodyPost_ret (results_rowR2 rfl rfl HZz.out Try.underlying24 rfl sizeU4r) rfl ⟨rfl, hBz.out⟩
    · have e1 : getE 12 = 0 := rfl
      rw [e1]
      clear e1
      have ix := (idx54 P).2.2.2.2.2.2.2.2.2.2.2
      go_enter Try.func9, Try.ntmps9
      go_wp2_with (refine wpList_load_row26 (P := P) rfl (.tmp 2) rfl (g := w.heap.size) rfl HP.out ?_)
      refine (rall_c P _).mono ?_
      rintro e w1 ⟨rfl, hb⟩
      replace HB := hide (HB.out.trans (hb.mono (by simp; omega)))
      replace HZ := hide (HZ.out.below hb (by simp))
      clear hb HP
      go_wp2_with (refine wpList_store_rowR (by rfl) (.tmp 4) (.tmp 17) rfl rfl rfl HZ.out rfl sizeU4r (one4r _ _ _ _) ?_; intro wz HZz hSz; replace HZz := hide HZz; have hBz := hide (hSz.1 w.heap.size w (by omega) HB.out); clear hSz)
      exact bodyPost_ret (results_rowR2 rfl rfl HZz.out Try.underlying24 rfl sizeU4r) rfl ⟨rfl, hBz.out⟩
  · rw [getL_no hk, getL_no hk, getL_no hk, getL_no hk, show getE k = 17 from if_neg hk]
    by_cases h1 : k < 1
    · clear hk
      go_enter Try.func9, Try.ntmps9
      go_wp2_with (refine wpList_store_rowR (by rfl) (.tmp 4) (.tmp 12) rfl rfl rfl HZ.out rfl sizeU4r (one4r _ _ _ _) ?_; intro wz HZz hSz; replace HZz := hide HZz; have hBz := hide (hSz.1 w.heap.size w (by omega) HB.out); clear hSz)
      exact bodyPost_ret (results_rowR2 rfl rfl HZz.out Try.underlying24 rfl sizeU4r) rfl ⟨rfl, hBz.out⟩
    · have h2 : 12 < k := by omega
      have h1' : 1 ≤ k := by omega
      clear hk h1
      go_enter Try.func9, Try.ntmps9
      go_wp2_with (refine wpList_store_rowR (by rfl) (.tmp 4) (.tmp 12) rfl rfl rfl HZ.out rfl sizeU4r (one4r _ _ _ _) ?_; intro wz HZz hSz; replace HZz := hide HZz; have hBz := hide (hSz.1 w.heap.size w (by omega) HB.out); clear hSz)
      exact bodyPost_ret (results_rowR2 rfl rfl HZz.out Try.underlying24 rfl sizeU4r) rfl ⟨rfl, hBz.out⟩
end Go.Proofs.Ytbnpgecpanfpiaa
