/- pontageref12: FirstInvalid, Valid. -/
import Derived.WalkKit
import Derived.KernelRfl
import Derived.RowKit3
import Derived.Deep.LoopGhost
import Derived.Deep.QuietTactic
import Derived.BigQuiet
import Derived.WideLaws
import Derived.Laws.Rows
import Derived.Below
import Derived.Deep.Draws
import Derived.Outline
import Derived.LoopN
import Derived.Handy
import Derived.Laws.Externs
import Derived.Laws.BitsAllLaws
import Derived.Laws.BitsLemmas
import Derived.Deep.DeepCutAuto
import Derived.Deep.CutBlock
import Derived.Deep.RegionHeld3
import Derived.Test.YtkneiobohhhcpaaP6
import Derived.Test.YtkneiobohhhcpaaRB
namespace Go.Proofs.Ytkneiobohhhcpaa
open Go.RowKit
set_option linter.unusedVariables false
set_option linter.unusedSimpArgs false
set_option maxHeartbeats 2000000 in
theorem rin_c (x lo hi : Int) (w : World) : Calls Try.prog 62 #[.int .u64 x, .int .u64 lo, .int .u64 hi] w fun e w' => e = .returned (.bool (decide (lo ≤ x ∧ x ≤ hi))) ∧ Below w.heap.size w w' := by
  by_cases h1 : lo ≤ x
  · by_cases h2 : x ≤ hi
    · rw [show decide (lo ≤ x ∧ x ≤ hi) = true from decide_eq_true ⟨h1, h2⟩]
      go_enter Try.func62, Try.ntmps62
      go_wp2
      go_ret
      exact ⟨rfl, Below.refl _ _⟩
    · rw [show decide (lo ≤ x ∧ x ≤ hi) = false from decide_eq_false (fun h => h2 h.2)]
      have h2' : hi < x := by omega
      have hd : decide (x ≤ hi) = false := decide_eq_false h2
      have hR := hide (congrArg (fun b => Ending.returned (.bool b)) hd)
      clear h2 hd
      go_enter Try.func62, Try.ntmps62
      go_wp2
      go_ret
      exact ⟨hR.out, Below.refl _ _⟩
  · rw [show decide (lo ≤ x ∧ x ≤ hi) = false from decide_eq_false (fun h => h1 h.1)]
    have h1' : x < lo := by omega
    clear h1
    go_enter Try.func62, Try.ntmps62
    go_wp2
    go_ret
    exact ⟨rfl, Below.refl _ _⟩
/-- ref1.Uint64 -/
def fits (b c d : Int) : Prop := b = 0 ∧ c = 0 ∧ d = 0
instance (b c d : Int) : Decidable (fits b c d) := inferInstanceAs (Decidable (_ ∧ _))
set_option maxHeartbeats 4000000 in
theorem ru64_c (a b c d : Int) (w : World) : Calls Try.prog 67 #[.agg #[.int .u64 a, .int .u64 b, .int .u64 c, .int .u64 d]] w fun e w' => e = .returned (.tuple #[.int .u64 (if fits b c d then a else 0), .bool (decide (fits b c d))]) ∧ Below w.heap.size w w' := by
  by_cases h1 : b = 0
  · by_cases h2 : c = 0
    · by_cases h3 : d = 0
      · subst h1 h2 h3
        rw [if_pos ⟨rfl, rfl, rfl⟩, decide_eq_true (show fits 0 0 0 from ⟨rfl, rfl, rfl⟩)]
        go_enter Try.func67, Try.ntmps67
        go_wp2
        go_ret2
        exact ⟨rfl, (by (repeat' (first | (with_reducible exact Below.refl _ _) | (with_reducible assumption) | (with_reducible refine Below.alloc ?_ ?_ _) | (with_reducible refine Below.drew ?_) | (with_reducible refine below_drewN ?_ _) | (with_reducible refine Below.setCell ?_ ?_ _) | (with_reducible refine below_step (by with_reducible assumption) ?_ ?_) | (first | (with_reducible exact Nat.le_refl _) | (with_reducible assumption) | omega | (simp only [World.size_alloc, World.size_setCell, World.size_drew, size_drewN]; omega) | (simp; omega) | (simp; done)))))⟩
      · have hn : ¬ fits b c d := fun h => h3 h.2.2
        rw [if_neg hn, decide_eq_false hn]
        have h3' : (d != 0) = true := by simpa using h3
        subst h1 h2
        clear hn
        go_enter Try.func67, Try.ntmps67
        go_wp2
        go_ret2
        exact ⟨rfl, (by (repeat' (first | (with_reducible exact Below.refl _ _) | (with_reducible assumption) | (with_reducible refine Below.alloc ?_ ?_ _) | (with_reducible refine Below.drew ?_) | (with_reducible refine below_drewN ?_ _) | (with_reducible refine Below.setCell ?_ ?_ _) | (with_reducible refine below_step (by with_reducible assumption) ?_ ?_) | (first | (with_reducible exact Nat.le_refl _) | (with_reducible assumption) | omega | (simp only [World.size_alloc, World.size_setCell, World.size_drew, size_drewN]; omega) | (simp; omega) | (simp; done)))))⟩
    · have hn : ¬ fits b c d := fun h => h2 h.2.1
      rw [if_neg hn, decide_eq_false hn]
      have h2' : (c != 0) = true := by simpa using h2
      subst h1
      clear hn
      go_enter Try.func67, Try.ntmps67
      go_wp2
      go_ret2
      exact ⟨rfl, (by (repeat' (first | (with_reducible exact Below.refl _ _) | (with_reducible assumption) | (with_reducible refine Below.alloc ?_ ?_ _) | (with_reducible refine Below.drew ?_) | (with_reducible refine below_drewN ?_ _) | (with_reducible refine Below.setCell ?_ ?_ _) | (with_reducible refine below_step (by with_reducible assumption) ?_ ?_) | (first | (with_reducible exact Nat.le_refl _) | (with_reducible assumption) | omega | (simp only [World.size_alloc, World.size_setCell, World.size_drew, size_drewN]; omega) | (simp; omega) | (simp; done)))))⟩
  · have hn : ¬ fits b c d := fun h => h1 h.1
    rw [if_neg hn, decide_eq_false hn]
    have h1' : (b != 0) = true := by simpa using h1
    clear hn
    go_enter Try.func67, Try.ntmps67
    go_wp2
    go_ret2
    exact ⟨rfl, (by (repeat' (first | (with_reducible exact Below.refl _ _) | (with_reducible assumption) | (with_reducible refine Below.alloc ?_ ?_ _) | (with_reducible refine Below.drew ?_) | (with_reducible refine below_drewN ?_ _) | (with_reducible refine Below.setCell ?_ ?_ _) | (with_reducible refine below_step (by with_reducible assumption) ?_ ?_) | (first | (with_reducible exact Nat.le_refl _) | (with_reducible assumption) | omega | (simp only [World.size_alloc, World.size_setCell, World.size_drew, size_drewN]; omega) | (simp; omega) | (simp; done)))))⟩
set_option maxHeartbeats 4000000 in
theorem ratl_c (a b c d lo : Int) (w : World) : Calls Try.prog 63 #[.agg #[.int .u64 a, .int .u64 b, .int .u64 c, .int .u64 d], .int .u64 lo] w fun e w' => e = .returned (.bool (decide (fits b c d ∧ lo ≤ a))) ∧ Below w.heap.size w w' := by
  have HU := fun w => ru64_c a b c d w
  by_cases h1 : fits b c d
  · by_cases h2 : lo ≤ a
    · rw [decide_eq_true (show fits b c d ∧ lo ≤ a from ⟨h1, h2⟩)]
      rw [if_pos h1, decide_eq_true h1] at HU
      replace HU := hide HU
      clear h1
      go_enter Try.func63, Try.ntmps63
      go_wp2_with fail
      refine (HU.out _).mono ?_
      rintro e w1 ⟨rfl, hb1⟩
      have hs1 := hb1.size
      try simp only [World.size_alloc, World.size_setCell, World.size_drew, size_drewN] at hs1
      go_wp2
      go_ret
      exact ⟨rfl, (by (repeat' (first | (with_reducible exact Below.refl _ _) | (with_reducible assumption) | (with_reducible refine Below.alloc ?_ ?_ _) | (with_reducible refine Below.drew ?_) | (with_reducible refine below_drewN ?_ _) | (with_reducible refine Below.setCell ?_ ?_ _) | (with_reducible refine below_step (by with_reducible assumption) ?_ ?_) | (first | (with_reducible exact Nat.le_refl _) | (with_reducible assumption) | omega | (simp only [World.size_alloc, World.size_setCell, World.size_drew, size_drewN]; omega) | (simp; omega) | (simp; done)))))⟩
    · rw [decide_eq_false (show ¬ (fits b c d ∧ lo ≤ a) from fun h => h2 h.2)]
      rw [if_pos h1, decide_eq_true h1] at HU
      replace HU := hide HU
      have h2' : a < lo := by omega
      have hd : decide (lo ≤ a) = false := decide_eq_false h2
      have hR := hide (congrArg (fun b => Ending.returned (.bool b)) hd)
      clear h1 h2 hd
      go_enter Try.func63, Try.ntmps63
      go_wp2_with fail
      refine (HU.out _).mono ?_
      rintro e w1 ⟨rfl, hb1⟩
      have hs1 := hb1.size
      try simp only [World.size_alloc, World.size_setCell, World.size_drew, size_drewN] at hs1
      go_wp2
      go_ret
      exact ⟨hR.out, (by (repeat' (first | (with_reducible exact Below.refl _ _) | (with_reducible assumption) | (with_reducible refine Below.alloc ?_ ?_ _) | (with_reducible refine Below.drew ?_) | (with_reducible refine below_drewN ?_ _) | (with_reducible refine Below.setCell ?_ ?_ _) | (with_reducible refine below_step (by with_reducible assumption) ?_ ?_) | (first | (with_reducible exact Nat.le_refl _) | (with_reducible assumption) | omega | (simp only [World.size_alloc, World.size_setCell, World.size_drew, size_drewN]; omega) | (simp; omega) | (simp; done)))))⟩
  · rw [decide_eq_false (show ¬ (fits b c d ∧ lo ≤ a) from fun h => h1 h.1)]
    rw [if_neg h1, decide_eq_false h1] at HU
    replace HU := hide HU
    clear h1
    go_enter Try.func63, Try.ntmps63
    go_wp2_with fail
    refine (HU.out _).mono ?_
    rintro e w1 ⟨rfl, hb1⟩
    have hs1 := hb1.size
    try simp only [World.size_alloc, World.size_setCell, World.size_drew, size_drewN] at hs1
    go_wp2
    go_ret
    exact ⟨rfl, (by (repeat' (first | (with_reducible exact Below.refl _ _) | (with_reducible assumption) | (with_reducible refine Below.alloc ?_ ?_ _) | (with_reducible refine Below.drew ?_) | (with_reducible refine below_drewN ?_ _) | (with_reducible refine Below.setCell ?_ ?_ _) | (with_reducible refine below_step (by with_reducible assumption) ?_ ?_) | (first | (with_reducible exact Nat.le_refl _) | (with_reducible assumption) | omega | (simp only [World.size_alloc, World.size_setCell, World.size_drew, size_drewN]; omega) | (simp; omega) | (simp; done)))))⟩
def okB (P : Nat → Int) (k : Int) : Bool := decide (okP P k)
theorem val_one' {n : Nat → Int} (h0 : 0 ≤ n 0) (h1 : n 1 = 0) (h2 : n 2 = 0) (h3 : n 3 = 0) : (valL n : Int) = n 0 := by
  unfold valL
  rw [h1, h2, h3]
  omega
theorem okIn (P : Nat → Int) (hP : PW P) (k : Int) (o : Nat) (lo hi : Int) (e0 : getL P k 0 = P o) (e1 : getL P k 1 = 0) (e2 : getL P k 2 = 0) (e3 : getL P k 3 = 0) (b0 : bndL P k = lo) (b1 : bndM k = hi) (w : World) :
    Calls Try.prog 62 #[.int .u64 (P o), .int .u64 lo, .int .u64 hi] w fun e w' => e = .returned (.bool (okB P k)) ∧ Below w.heap.size w w' := by
  have h := rin_c (P o) lo hi w
  have hv : (getN P k : Int) = P o := (val_one' (getL_w hP k 0).1 e1 e2 e3).trans e0
  have e : okB P k = decide (lo ≤ P o ∧ P o ≤ hi) := by unfold okB; rw [Bool.eq_iff_iff, decide_eq_true_eq, decide_eq_true_eq]; unfold okP; rw [hv, b0, b1]
  rw [e]
  exact h
theorem okAt (P : Nat → Int) (hP : PW P) (k : Int) (o : Nat) (lo : Int) (e0 : getL P k 0 = P o) (e1 : getL P k 1 = P (o + 1)) (e2 : getL P k 2 = P (o + 2)) (e3 : getL P k 3 = P (o + 3)) (b0 : bndL P k = lo) (b1 : bndM k = 18446744073709551615) (w : World) :
    Calls Try.prog 63 #[.agg #[.int .u64 (P o), .int .u64 (P (o + 1)), .int .u64 (P (o + 2)), .int .u64 (P (o + 3))], .int .u64 lo] w fun e w' => e = .returned (.bool (okB P k)) ∧ Below w.heap.size w w' := by
  have h := ratl_c (P o) (P (o + 1)) (P (o + 2)) (P (o + 3)) lo w
  have hu := getU hP k
  rw [e0, e1, e2, e3] at hu
  obtain ⟨p0, p1, p2, p3, q0, q1, q2, q3, hv⟩ := hu
  have e : okB P k = decide (fits (P (o + 1)) (P (o + 2)) (P (o + 3)) ∧ lo ≤ P o) := by
    unfold okB
    rw [Bool.eq_iff_iff, decide_eq_true_eq, decide_eq_true_eq]
    unfold okP fits
    rw [b0, b1]
    omega
  rw [e]
  exact h
def okC (P : Nat → Int) : Array Value := #[.bool (okB P 1), .bool (okB P 2), .bool (okB P 3), .bool (okB P 4), .bool (okB P 5), .bool (okB P 6), .bool (okB P 7), .bool (okB P 8), .bool (okB P 9), .bool (okB P 10), .bool (okB P 11), .bool (okB P 12)]
abbrev Z12 : Array Value := #[.bool false, .bool false, .bool false, .bool false, .bool false, .bool false, .bool false, .bool false, .bool false, .bool false, .bool false, .bool false]
theorem okC_one (P : Nat → Int) : (okC P).all (·.oneCell') = true := by simp [okC, Value.oneCell']
theorem okC_get (P : Nat → Int) (K : Nat) (h : K < 12) : (okC P)[K]? = some (.bool (okB P ((K : Int) + 1))) := by
  obtain rfl | rfl | rfl | rfl | rfl | rfl | rfl | rfl | rfl | rfl | rfl | rfl : K = 0 ∨ K = 1 ∨ K = 2 ∨ K = 3 ∨ K = 4 ∨ K = 5 ∨ K = 6 ∨ K = 7 ∨ K = 8 ∨ K = 9 ∨ K = 10 ∨ K = 11 := by omega
  all_goals rfl
theorem size61 : (Try.prog.info? 89).map (·.size) = some 12 := by kernel_rfl
theorem fi_step {P : Nat → Int} {K : Nat} (hK : K < 12) (h : fiGo P (12 - K) = fiV P) : if okB P ((K : Int) + 1) then fiGo P (12 - (K + 1)) = fiV P else fiV P = (K : Int) + 1 := by
  rw [show 12 - K = (12 - (K + 1)) + 1 by omega, fiGo] at h
  have e : (12 : Int) - ((12 - (K + 1) : Nat) : Int) = (K : Int) + 1 := by omega
  rw [e] at h
  by_cases ho : okP P ((K : Int) + 1)
  · rw [if_pos ho] at h
    rw [if_pos (by unfold okB; exact decide_eq_true ho)]
    exact h
  · rw [if_neg ho] at h
    rw [if_neg (by unfold okB; simpa using ho)]
    exact h.symm
theorem cutP1 {f : World → Prop} {W w : World} {g : Nat} {P : Nat → Int} (hb : Below w.heap.size w W) (h : PBlk W g P) (k : ∀ W', Hid (Below w.heap.size w W') → Hid (PBlk W' g P) → f W') : f W := k W hb h
set_option maxRecDepth 20000 in
set_option maxHeartbeats 32000000 in
theorem rfi_c (P : Nat → Int) (hP : PW P) (w : World) :
    Calls Try.prog 48 #[.agg (pC P)] w fun e w' => e = .returned (.int .i64 (fiV P)) ∧ Below w.heap.size w w' := by
  have HI1 := hide (fun w => okIn P hP 1 0 1 1099511627776 (by rfl) (by rfl) (by rfl) (by rfl) (by rfl) (by rfl) w)
  have HI2 := hide (fun w => okIn P hP 2 1 0 1048576 (by rfl) (by rfl) (by rfl) (by rfl) (by rfl) (by rfl) w)
  have HI3 := hide (fun w => okIn P hP 3 2 1 1048576 (by rfl) (by rfl) (by rfl) (by rfl) (by rfl) (by rfl) w)
  have HI4 := hide (fun w => okAt P hP 4 3 1 (by rfl) (by rfl) (by rfl) (by rfl) (by rfl) (by rfl) w)
  have HI5 := hide (fun w => okIn P hP 5 7 1 1099511627776 (by rfl) (by rfl) (by rfl) (by rfl) (by rfl) (by rfl) w)
  have HI6 := hide (fun w => okAt P hP 6 8 0 (by rfl) (by rfl) (by rfl) (by rfl) (by rfl) (by rfl) w)
  have HI7 := hide (fun w => okIn P hP 7 12 0 10000 (by rfl) (by rfl) (by rfl) (by rfl) (by rfl) (by rfl) w)
  have HI8 := hide (fun w => okAt P hP 8 13 0 (by rfl) (by rfl) (by rfl) (by rfl) (by rfl) (by rfl) w)
  have HI9 := hide (fun w => okIn P hP 9 17 1 1099511627776 (by rfl) (by rfl) (by rfl) (by rfl) (by rfl) (by rfl) w)
  have HI10 := hide (fun w => okIn P hP 10 18 1 1048576 (by rfl) (by rfl) (by rfl) (by rfl) (by rfl) (by rfl) w)
  have HI11 := hide (fun w => okIn P hP 11 19 0 1048576 (by rfl) (by rfl) (by rfl) (by rfl) (by rfl) (by rfl) w)
  have HI12 := hide (fun w => okIn P hP 12 20 (P 19) 16777216 (by rfl) (by rfl) (by rfl) (by rfl) (by rfl) (by rfl) w)
  have HP := hide (PBlk.new w P)
  have hB := hide (show Below w.heap.size w (w.alloc (.cells (pC P) 27)) from (Below.refl _ _).alloc (Nat.le_refl _) _)
  go_enter Try.func48, Try.ntmps48
  go_upto_region 1 with fail
  refine cutP1 hB.out HP.out ?_
  clear hB HP
  intro w0 hB HP
  have hl0 := HP.out.lt
  go_cut [3] (fun s3 wx => ∃ g : Nat, s3 = .pointer (some ⟨g, 0, none⟩) ∧ Below w0.heap.size w0 wx ∧ RBlk wx g (okC P) 89)
  case first =>
    refine wp_region_held_drew (S := fun w' => Below w0.heap.size w0 w') (by kernel_rfl) ((Below.refl _ _).drew) (fun hHeld => ?_)
    (refine wpAnyH_take (i := 0) (v := .pointer (some ⟨w.heap.size, 0, none⟩)) rfl (by kernel_rfl) (by kernel_rfl) (by kernel_rfl) (fun _ _ _ h => h) (Or.inl ⟨by rfl, fun w _ => (by go_simp)⟩) (by assumption) ?_; (try simp only [Act.put, List.setIfInBounds_toArray, List.set_cons_zero, List.set_cons_succ, Array.toArray_toList, List.getElem_toArray, List.getElem_cons_succ, List.getElem_cons_zero]))
    (refine wpAnyH_take (i := 1) (v := .int .u64 (P 0)) rfl (by kernel_rfl) (by kernel_rfl) (by kernel_rfl) (fun _ _ _ h => h) (Or.inl ⟨by rfl, fun w' h => (by have hc := (HP.out.below h HP.out.lt).cell (i := 0) (by omega); clear h; go_simp)⟩) (by assumption) ?_; (try simp only [Act.put, List.setIfInBounds_toArray, List.set_cons_zero, List.set_cons_succ, Array.toArray_toList, List.getElem_toArray, List.getElem_cons_succ, List.getElem_cons_zero]))
    (refine wpAnyH_take (i := 3) (v := .pointer (some ⟨w.heap.size, 1, none⟩)) rfl (by kernel_rfl) (by kernel_rfl) (by kernel_rfl) (fun _ _ _ h => h) (Or.inl ⟨by rfl, fun w _ => (by go_simp)⟩) (by assumption) ?_; (try simp only [Act.put, List.setIfInBounds_toArray, List.set_cons_zero, List.set_cons_succ, Array.toArray_toList, List.getElem_toArray, List.getElem_cons_succ, List.getElem_cons_zero]))
    (refine wpAnyH_take (i := 4) (v := .int .u64 (P 1)) rfl (by kernel_rfl) (by kernel_rfl) (by kernel_rfl) (fun _ _ _ h => h) (Or.inl ⟨by rfl, fun w' h => (by have hc := (HP.out.below h HP.out.lt).cell (i := 1) (by omega); clear h; go_simp)⟩) (by assumption) ?_; (try simp only [Act.put, List.setIfInBounds_toArray, List.set_cons_zero, List.set_cons_succ, Array.toArray_toList, List.getElem_toArray, List.getElem_cons_succ, List.getElem_cons_zero]))
    (refine wpAnyH_take (i := 6) (v := .pointer (some ⟨w.heap.size, 2, none⟩)) rfl (by kernel_rfl) (by kernel_rfl) (by kernel_rfl) (fun _ _ _ h => h) (Or.inl ⟨by rfl, fun w _ => (by go_simp)⟩) (by assumption) ?_; (try simp only [Act.put, List.setIfInBounds_toArray, List.set_cons_zero, List.set_cons_succ, Array.toArray_toList, List.getElem_toArray, List.getElem_cons_succ, List.getElem_cons_zero]))
    (refine wpAnyH_take (i := 7) (v := .int .u64 (P 2)) rfl (by kernel_rfl) (by kernel_rfl) (by kernel_rfl) (fun _ _ _ h => h) (Or.inl ⟨by rfl, fun w' h => (by have hc := (HP.out.below h HP.out.lt).cell (i := 2) (by omega); clear h; go_simp)⟩) (by assumption) ?_; (try simp only [Act.put, List.setIfInBounds_toArray, List.set_cons_zero, List.set_cons_succ, Array.toArray_toList, List.getElem_toArray, List.getElem_cons_succ, List.getElem_cons_zero]))
    (refine wpAnyH_take (i := 9) (v := .pointer (some ⟨w.heap.size, 3, none⟩)) rfl (by kernel_rfl) (by kernel_rfl) (by kernel_rfl) (fun _ _ _ h => h) (Or.inl ⟨by rfl, fun w _ => (by go_simp)⟩) (by assumption) ?_; (try simp only [Act.put, List.setIfInBounds_toArray, List.set_cons_zero, List.set_cons_succ, Array.toArray_toList, List.getElem_toArray, List.getElem_cons_succ, List.getElem_cons_zero]))
    (refine wpAnyH_take (i := 10) (v := .agg #[.int .u64 (P 3), .int .u64 (P 4), .int .u64 (P 5), .int .u64 (P 6)]) rfl (by kernel_rfl) (by kernel_rfl) (by kernel_rfl) (fun _ _ _ h => h) (Or.inl ⟨by rfl, fun w' h => (by have hp := HP.out.below h HP.out.lt; have h0 := hp.cell (i := 3) (by omega); have h1 := hp.cell (i := 4) (by omega); have h2 := hp.cell (i := 5) (by omega); have h3 := hp.cell (i := 6) (by omega); clear h hp; go_simp)⟩) (by assumption) ?_; (try simp only [Act.put, List.setIfInBounds_toArray, List.set_cons_zero, List.set_cons_succ, Array.toArray_toList, List.getElem_toArray, List.getElem_cons_succ, List.getElem_cons_zero]))
    (refine wpAnyH_take (i := 12) (v := .pointer (some ⟨w.heap.size, 7, none⟩)) rfl (by kernel_rfl) (by kernel_rfl) (by kernel_rfl) (fun _ _ _ h => h) (Or.inl ⟨by rfl, fun w _ => (by go_simp)⟩) (by assumption) ?_; (try simp only [Act.put, List.setIfInBounds_toArray, List.set_cons_zero, List.set_cons_succ, Array.toArray_toList, List.getElem_toArray, List.getElem_cons_succ, List.getElem_cons_zero]))
    (refine wpAnyH_take (i := 13) (v := .int .u64 (P 7)) rfl (by kernel_rfl) (by kernel_rfl) (by kernel_rfl) (fun _ _ _ h => h) (Or.inl ⟨by rfl, fun w' h => (by have hc := (HP.out.below h HP.out.lt).cell (i := 7) (by omega); clear h; go_simp)⟩) (by assumption) ?_; (try simp only [Act.put, List.setIfInBounds_toArray, List.set_cons_zero, List.set_cons_succ, Array.toArray_toList, List.getElem_toArray, List.getElem_cons_succ, List.getElem_cons_zero]))
    (refine wpAnyH_take (i := 15) (v := .pointer (some ⟨w.heap.size, 8, none⟩)) rfl (by kernel_rfl) (by kernel_rfl) (by kernel_rfl) (fun _ _ _ h => h) (Or.inl ⟨by rfl, fun w _ => (by go_simp)⟩) (by assumption) ?_; (try simp only [Act.put, List.setIfInBounds_toArray, List.set_cons_zero, List.set_cons_succ, Array.toArray_toList, List.getElem_toArray, List.getElem_cons_succ, List.getElem_cons_zero]))
    (refine wpAnyH_take (i := 16) (v := .agg #[.int .u64 (P 8), .int .u64 (P 9), .int .u64 (P 10), .int .u64 (P 11)]) rfl (by kernel_rfl) (by kernel_rfl) (by kernel_rfl) (fun _ _ _ h => h) (Or.inl ⟨by rfl, fun w' h => (by have hp := HP.out.below h HP.out.lt; have h0 := hp.cell (i := 8) (by omega); have h1 := hp.cell (i := 9) (by omega); have h2 := hp.cell (i := 10) (by omega); have h3 := hp.cell (i := 11) (by omega); clear h hp; go_simp)⟩) (by assumption) ?_; (try simp only [Act.put, List.setIfInBounds_toArray, List.set_cons_zero, List.set_cons_succ, Array.toArray_toList, List.getElem_toArray, List.getElem_cons_succ, List.getElem_cons_zero]))
    (refine wpAnyH_take (i := 18) (v := .pointer (some ⟨w.heap.size, 12, none⟩)) rfl (by kernel_rfl) (by kernel_rfl) (by kernel_rfl) (fun _ _ _ h => h) (Or.inl ⟨by rfl, fun w _ => (by go_simp)⟩) (by assumption) ?_; (try simp only [Act.put, List.setIfInBounds_toArray, List.set_cons_zero, List.set_cons_succ, Array.toArray_toList, List.getElem_toArray, List.getElem_cons_succ, List.getElem_cons_zero]))
    (refine wpAnyH_take (i := 19) (v := .int .u64 (P 12)) rfl (by kernel_rfl) (by kernel_rfl) (by kernel_rfl) (fun _ _ _ h => h) (Or.inl ⟨by rfl, fun w' h => (by have hc := (HP.out.below h HP.out.lt).cell (i := 12) (by omega); clear h; go_simp)⟩) (by assumption) ?_; (try simp only [Act.put, List.setIfInBounds_toArray, List.set_cons_zero, List.set_cons_succ, Array.toArray_toList, List.getElem_toArray, List.getElem_cons_succ, List.getElem_cons_zero]))
    (refine wpAnyH_take (i := 21) (v := .pointer (some ⟨w.heap.size, 13, none⟩)) rfl (by kernel_rfl) (by kernel_rfl) (by kernel_rfl) (fun _ _ _ h => h) (Or.inl ⟨by rfl, fun w _ => (by go_simp)⟩) (by assumption) ?_; (try simp only [Act.put, List.setIfInBounds_toArray, List.set_cons_zero, List.set_cons_succ, Array.toArray_toList, List.getElem_toArray, List.getElem_cons_succ, List.getElem_cons_zero]))
    (refine wpAnyH_take (i := 22) (v := .agg #[.int .u64 (P 13), .int .u64 (P 14), .int .u64 (P 15), .int .u64 (P 16)]) rfl (by kernel_rfl) (by kernel_rfl) (by kernel_rfl) (fun _ _ _ h => h) (Or.inl ⟨by rfl, fun w' h => (by have hp := HP.out.below h HP.out.lt; have h0 := hp.cell (i := 13) (by omega); have h1 := hp.cell (i := 14) (by omega); have h2 := hp.cell (i := 15) (by omega); have h3 := hp.cell (i := 16) (by omega); clear h hp; go_simp)⟩) (by assumption) ?_; (try simp only [Act.put, List.setIfInBounds_toArray, List.set_cons_zero, List.set_cons_succ, Array.toArray_toList, List.getElem_toArray, List.getElem_cons_succ, List.getElem_cons_zero]))
    (refine wpAnyH_take (i := 24) (v := .pointer (some ⟨w.heap.size, 17, none⟩)) rfl (by kernel_rfl) (by kernel_rfl) (by kernel_rfl) (fun _ _ _ h => h) (Or.inl ⟨by rfl, fun w _ => (by go_simp)⟩) (by assumption) ?_; (try simp only [Act.put, List.setIfInBounds_toArray, List.set_cons_zero, List.set_cons_succ, Array.toArray_toList, List.getElem_toArray, List.getElem_cons_succ, List.getElem_cons_zero]))
    (refine wpAnyH_take (i := 25) (v := .int .u64 (P 17)) rfl (by kernel_rfl) (by kernel_rfl) (by kernel_rfl) (fun _ _ _ h => h) (Or.inl ⟨by rfl, fun w' h => (by have hc := (HP.out.below h HP.out.lt).cell (i := 17) (by omega); clear h; go_simp)⟩) (by assumption) ?_; (try simp only [Act.put, List.setIfInBounds_toArray, List.set_cons_zero, List.set_cons_succ, Array.toArray_toList, List.getElem_toArray, List.getElem_cons_succ, List.getElem_cons_zero]))
    (refine wpAnyH_take (i := 27) (v := .pointer (some ⟨w.heap.size, 18, none⟩)) rfl (by kernel_rfl) (by kernel_rfl) (by kernel_rfl) (fun _ _ _ h => h) (Or.inl ⟨by rfl, fun w _ => (by go_simp)⟩) (by assumption) ?_; (try simp only [Act.put, List.setIfInBounds_toArray, List.set_cons_zero, List.set_cons_succ, Array.toArray_toList, List.getElem_toArray, List.getElem_cons_succ, List.getElem_cons_zero]))
    (refine wpAnyH_take (i := 28) (v := .int .u64 (P 18)) rfl (by kernel_rfl) (by kernel_rfl) (by kernel_rfl) (fun _ _ _ h => h) (Or.inl ⟨by rfl, fun w' h => (by have hc := (HP.out.below h HP.out.lt).cell (i := 18) (by omega); clear h; go_simp)⟩) (by assumption) ?_; (try simp only [Act.put, List.setIfInBounds_toArray, List.set_cons_zero, List.set_cons_succ, Array.toArray_toList, List.getElem_toArray, List.getElem_cons_succ, List.getElem_cons_zero]))
    (refine wpAnyH_take (i := 30) (v := .pointer (some ⟨w.heap.size, 19, none⟩)) rfl (by kernel_rfl) (by kernel_rfl) (by kernel_rfl) (fun _ _ _ h => h) (Or.inl ⟨by rfl, fun w _ => (by go_simp)⟩) (by assumption) ?_; (try simp only [Act.put, List.setIfInBounds_toArray, List.set_cons_zero, List.set_cons_succ, Array.toArray_toList, List.getElem_toArray, List.getElem_cons_succ, List.getElem_cons_zero]))
    (refine wpAnyH_take (i := 31) (v := .int .u64 (P 19)) rfl (by kernel_rfl) (by kernel_rfl) (by kernel_rfl) (fun _ _ _ h => h) (Or.inl ⟨by rfl, fun w' h => (by have hc := (HP.out.below h HP.out.lt).cell (i := 19) (by omega); clear h; go_simp)⟩) (by assumption) ?_; (try simp only [Act.put, List.setIfInBounds_toArray, List.set_cons_zero, List.set_cons_succ, Array.toArray_toList, List.getElem_toArray, List.getElem_cons_succ, List.getElem_cons_zero]))
    (refine wpAnyH_take (i := 33) (v := .pointer (some ⟨w.heap.size, 20, none⟩)) rfl (by kernel_rfl) (by kernel_rfl) (by kernel_rfl) (fun _ _ _ h => h) (Or.inl ⟨by rfl, fun w _ => (by go_simp)⟩) (by assumption) ?_; (try simp only [Act.put, List.setIfInBounds_toArray, List.set_cons_zero, List.set_cons_succ, Array.toArray_toList, List.getElem_toArray, List.getElem_cons_succ, List.getElem_cons_zero]))
    (refine wpAnyH_take (i := 34) (v := .int .u64 (P 20)) rfl (by kernel_rfl) (by kernel_rfl) (by kernel_rfl) (fun _ _ _ h => h) (Or.inl ⟨by rfl, fun w' h => (by have hc := (HP.out.below h HP.out.lt).cell (i := 20) (by omega); clear h; go_simp)⟩) (by assumption) ?_; (try simp only [Act.put, List.setIfInBounds_toArray, List.set_cons_zero, List.set_cons_succ, Array.toArray_toList, List.getElem_toArray, List.getElem_cons_succ, List.getElem_cons_zero]))
    (refine wpAnyH_take (i := 35) (v := .pointer (some ⟨w.heap.size, 19, none⟩)) rfl (by kernel_rfl) (by kernel_rfl) (by kernel_rfl) (fun _ _ _ h => h) (Or.inl ⟨by rfl, fun w _ => (by go_simp)⟩) (by assumption) ?_; (try simp only [Act.put, List.setIfInBounds_toArray, List.set_cons_zero, List.set_cons_succ, Array.toArray_toList, List.getElem_toArray, List.getElem_cons_succ, List.getElem_cons_zero]))
    (refine wpAnyH_take (i := 36) (v := .int .u64 (P 19)) rfl (by kernel_rfl) (by kernel_rfl) (by kernel_rfl) (fun _ _ _ h => h) (Or.inl ⟨by rfl, fun w' h => (by have hc := (HP.out.below h HP.out.lt).cell (i := 19) (by omega); clear h; go_simp)⟩) (by assumption) ?_; (try simp only [Act.put, List.setIfInBounds_toArray, List.set_cons_zero, List.set_cons_succ, Array.toArray_toList, List.getElem_toArray, List.getElem_cons_succ, List.getElem_cons_zero]))
    refine wpAnyH_ready (rs := [2, 39]) (by kernel_rfl) (by simp) ?_
    refine AllReadyH.cons rfl (fun Kc hK => ?_) (AllReadyH.cons rfl (fun Kc hK => ?_) (AllReadyH.nil))
    · rw [if_pos (by rfl)]
      go_simp
      (go_at_call 62; (with_reducible refine (HI1.out _).mono ?_); rintro e y0 ⟨rfl, hb_y0⟩)
      go_wp2_with fail
      refine hK.out _ _ (hHeld.trans (hb_y0.mono hHeld.size)) (fun hHeld => ?_)
      clear hK Kc
      (try simp only [Act.put, List.setIfInBounds_toArray, List.set_cons_zero, List.set_cons_succ, Array.toArray_toList, List.getElem_toArray, List.getElem_cons_succ, List.getElem_cons_zero])
      refine wpAnyH_ready (rs := [5, 39]) (by kernel_rfl) (by simp) ?_
      refine AllReadyH.cons rfl (fun Kc hK => ?_) (AllReadyH.cons rfl (fun Kc hK => ?_) (AllReadyH.nil))
      · rw [if_pos (by rfl)]
        go_simp
        (go_at_call 62; (with_reducible refine (HI2.out _).mono ?_); rintro e y1 ⟨rfl, hb_y1⟩)
        go_wp2_with fail
        refine hK.out _ _ (hHeld.trans (hb_y1.mono hHeld.size)) (fun hHeld => ?_)
        clear hK Kc
        (try simp only [Act.put, List.setIfInBounds_toArray, List.set_cons_zero, List.set_cons_succ, Array.toArray_toList, List.getElem_toArray, List.getElem_cons_succ, List.getElem_cons_zero])
        refine wpAnyH_ready (rs := [8, 39]) (by kernel_rfl) (by simp) ?_
        refine AllReadyH.cons rfl (fun Kc hK => ?_) (AllReadyH.cons rfl (fun Kc hK => ?_) (AllReadyH.nil))
        · rw [if_pos (by rfl)]
          go_simp
          (go_at_call 62; (with_reducible refine (HI3.out _).mono ?_); rintro e y2 ⟨rfl, hb_y2⟩)
          go_wp2_with fail
          refine hK.out _ _ (hHeld.trans (hb_y2.mono hHeld.size)) (fun hHeld => ?_)
          clear hK Kc
          (try simp only [Act.put, List.setIfInBounds_toArray, List.set_cons_zero, List.set_cons_succ, Array.toArray_toList, List.getElem_toArray, List.getElem_cons_succ, List.getElem_cons_zero])
          refine wpAnyH_ready (rs := [11, 39]) (by kernel_rfl) (by simp) ?_
          refine AllReadyH.cons rfl (fun Kc hK => ?_) (AllReadyH.cons rfl (fun Kc hK => ?_) (AllReadyH.nil))
          · rw [if_pos (by rfl)]
            go_simp
            (go_at_call 63; (with_reducible refine (HI4.out _).mono ?_); rintro e y3 ⟨rfl, hb_y3⟩)
            go_wp2_with fail
            refine hK.out _ _ (hHeld.trans (hb_y3.mono hHeld.size)) (fun hHeld => ?_)
            clear hK Kc
            (try simp only [Act.put, List.setIfInBounds_toArray, List.set_cons_zero, List.set_cons_succ, Array.toArray_toList, List.getElem_toArray, List.getElem_cons_succ, List.getElem_cons_zero])
            refine wpAnyH_ready (rs := [14, 39]) (by kernel_rfl) (by simp) ?_
            refine AllReadyH.cons rfl (fun Kc hK => ?_) (AllReadyH.cons rfl (fun Kc hK => ?_) (AllReadyH.nil))
            · rw [if_pos (by rfl)]
              go_simp
              (go_at_call 62; (with_reducible refine (HI5.out _).mono ?_); rintro e y4 ⟨rfl, hb_y4⟩)
              go_wp2_with fail
              refine hK.out _ _ (hHeld.trans (hb_y4.mono hHeld.size)) (fun hHeld => ?_)
              clear hK Kc
              (try simp only [Act.put, List.setIfInBounds_toArray, List.set_cons_zero, List.set_cons_succ, Array.toArray_toList, List.getElem_toArray, List.getElem_cons_succ, List.getElem_cons_zero])
              refine wpAnyH_ready (rs := [17, 39]) (by kernel_rfl) (by simp) ?_
              refine AllReadyH.cons rfl (fun Kc hK => ?_) (AllReadyH.cons rfl (fun Kc hK => ?_) (AllReadyH.nil))
              · rw [if_pos (by rfl)]
                go_simp
                (go_at_call 63; (with_reducible refine (HI6.out _).mono ?_); rintro e y5 ⟨rfl, hb_y5⟩)
                go_wp2_with fail
                refine hK.out _ _ (hHeld.trans (hb_y5.mono hHeld.size)) (fun hHeld => ?_)
                clear hK Kc
                (try simp only [Act.put, List.setIfInBounds_toArray, List.set_cons_zero, List.set_cons_succ, Array.toArray_toList, List.getElem_toArray, List.getElem_cons_succ, List.getElem_cons_zero])
                refine wpAnyH_ready (rs := [20, 39]) (by kernel_rfl) (by simp) ?_
                refine AllReadyH.cons rfl (fun Kc hK => ?_) (AllReadyH.cons rfl (fun Kc hK => ?_) (AllReadyH.nil))
                · rw [if_pos (by rfl)]
                  go_simp
                  (go_at_call 62; (with_reducible refine (HI7.out _).mono ?_); rintro e y6 ⟨rfl, hb_y6⟩)
                  go_wp2_with fail
                  refine hK.out _ _ (hHeld.trans (hb_y6.mono hHeld.size)) (fun hHeld => ?_)
                  clear hK Kc
                  (try simp only [Act.put, List.setIfInBounds_toArray, List.set_cons_zero, List.set_cons_succ, Array.toArray_toList, List.getElem_toArray, List.getElem_cons_succ, List.getElem_cons_zero])
                  refine wpAnyH_ready (rs := [23, 39]) (by kernel_rfl) (by simp) ?_
                  refine AllReadyH.cons rfl (fun Kc hK => ?_) (AllReadyH.cons rfl (fun Kc hK => ?_) (AllReadyH.nil))
                  · rw [if_pos (by rfl)]
                    go_simp
                    (go_at_call 63; (with_reducible refine (HI8.out _).mono ?_); rintro e y7 ⟨rfl, hb_y7⟩)
                    go_wp2_with fail
                    refine hK.out _ _ (hHeld.trans (hb_y7.mono hHeld.size)) (fun hHeld => ?_)
                    clear hK Kc
                    (try simp only [Act.put, List.setIfInBounds_toArray, List.set_cons_zero, List.set_cons_succ, Array.toArray_toList, List.getElem_toArray, List.getElem_cons_succ, List.getElem_cons_zero])
                    refine wpAnyH_ready (rs := [26, 39]) (by kernel_rfl) (by simp) ?_
                    refine AllReadyH.cons rfl (fun Kc hK => ?_) (AllReadyH.cons rfl (fun Kc hK => ?_) (AllReadyH.nil))
                    · rw [if_pos (by rfl)]
                      go_simp
                      (go_at_call 62; (with_reducible refine (HI9.out _).mono ?_); rintro e y8 ⟨rfl, hb_y8⟩)
                      go_wp2_with fail
                      refine hK.out _ _ (hHeld.trans (hb_y8.mono hHeld.size)) (fun hHeld => ?_)
                      clear hK Kc
                      (try simp only [Act.put, List.setIfInBounds_toArray, List.set_cons_zero, List.set_cons_succ, Array.toArray_toList, List.getElem_toArray, List.getElem_cons_succ, List.getElem_cons_zero])
                      refine wpAnyH_ready (rs := [29, 39]) (by kernel_rfl) (by simp) ?_
                      refine AllReadyH.cons rfl (fun Kc hK => ?_) (AllReadyH.cons rfl (fun Kc hK => ?_) (AllReadyH.nil))
                      · rw [if_pos (by rfl)]
                        go_simp
                        (go_at_call 62; (with_reducible refine (HI10.out _).mono ?_); rintro e y9 ⟨rfl, hb_y9⟩)
                        go_wp2_with fail
                        refine hK.out _ _ (hHeld.trans (hb_y9.mono hHeld.size)) (fun hHeld => ?_)
                        clear hK Kc
                        (try simp only [Act.put, List.setIfInBounds_toArray, List.set_cons_zero, List.set_cons_succ, Array.toArray_toList, List.getElem_toArray, List.getElem_cons_succ, List.getElem_cons_zero])
                        refine wpAnyH_ready (rs := [32, 39]) (by kernel_rfl) (by simp) ?_
                        refine AllReadyH.cons rfl (fun Kc hK => ?_) (AllReadyH.cons rfl (fun Kc hK => ?_) (AllReadyH.nil))
                        · rw [if_pos (by rfl)]
                          go_simp
                          (go_at_call 62; (with_reducible refine (HI11.out _).mono ?_); rintro e y10 ⟨rfl, hb_y10⟩)
                          go_wp2_with fail
                          refine hK.out _ _ (hHeld.trans (hb_y10.mono hHeld.size)) (fun hHeld => ?_)
                          clear hK Kc
                          (try simp only [Act.put, List.setIfInBounds_toArray, List.set_cons_zero, List.set_cons_succ, Array.toArray_toList, List.getElem_toArray, List.getElem_cons_succ, List.getElem_cons_zero])
                          refine wpAnyH_ready (rs := [37, 39]) (by kernel_rfl) (by simp) ?_
                          refine AllReadyH.cons rfl (fun Kc hK => ?_) (AllReadyH.cons rfl (fun Kc hK => ?_) (AllReadyH.nil))
                          · rw [if_pos (by rfl)]
                            go_simp
                            (go_at_call 62; (with_reducible refine (HI12.out _).mono ?_); rintro e y11 ⟨rfl, hb_y11⟩)
                            go_wp2_with fail
                            refine hK.out _ _ (hHeld.trans (hb_y11.mono hHeld.size)) (fun hHeld => ?_)
                            clear hK Kc
                            (try simp only [Act.put, List.setIfInBounds_toArray, List.set_cons_zero, List.set_cons_succ, Array.toArray_toList, List.getElem_toArray, List.getElem_cons_succ, List.getElem_cons_zero])
                            (refine wpAnyH_take (i := 38) (v := .agg (okC P)) rfl (by kernel_rfl) (by kernel_rfl) (by kernel_rfl) (fun _ _ _ h => h) (Or.inl ⟨by rfl, fun w _ => (by go_simp; rfl)⟩) (by assumption) ?_; (try simp only [Act.put, List.setIfInBounds_toArray, List.set_cons_zero, List.set_cons_succ, Array.toArray_toList, List.getElem_toArray, List.getElem_cons_succ, List.getElem_cons_zero]))
                            refine wpAnyH_ready (rs := [39]) (by kernel_rfl) (by simp) ?_
                            refine AllReadyH.cons rfl (fun Kc hK => ?_) (AllReadyH.nil)
                            · rw [if_pos (by rfl)]
                              go_simp
                              have z13 := RBlk.new (y11) Z12 89
                              have hg13 := hHeld.size
                              refine hK.out _ _ (hHeld.alloc hHeld.size _) (fun hHeld => ?_)
                              clear hK Kc
                              (try simp only [Act.put, List.setIfInBounds_toArray, List.set_cons_zero, List.set_cons_succ, Array.toArray_toList, List.getElem_toArray, List.getElem_cons_succ, List.getElem_cons_zero])
                              refine wpAnyH_ready (rs := [40]) (by kernel_rfl) (by simp) ?_
                              refine AllReadyH.cons rfl (fun Kc hK => ?_) (AllReadyH.nil)
                              · rw [if_pos (by rfl)]
                                refine wp_store_mid 89 _ _ rfl (y11.heap.size) 0 (okC P) rfl rfl (z13).there size61 (okC_one P) ?_
                                have z14 := (z13).put (ds := (okC P)) rfl
                                refine hK.out _ _ (below_setCells hg13 _ _ _ hHeld) (fun hHeld => ?_)
                                clear hK Kc
                                (try simp only [Act.put, List.setIfInBounds_toArray, List.set_cons_zero, List.set_cons_succ, Array.toArray_toList, List.getElem_toArray, List.getElem_cons_succ, List.getElem_cons_zero])
                                refine wpAnyH_done (by kernel_rfl) ?_ _
                                go_wp2_with fail
                                go_meet
                                exact ⟨_, rfl, hHeld, z14⟩
                          · rw [if_pos (by rfl)]
                            go_simp
                            have z12 := RBlk.new (y10) Z12 89
                            have hg12 := hHeld.size
                            refine hK.out _ _ (hHeld.alloc hHeld.size _) (fun hHeld => ?_)
                            clear hK Kc
                            (try simp only [Act.put, List.setIfInBounds_toArray, List.set_cons_zero, List.set_cons_succ, Array.toArray_toList, List.getElem_toArray, List.getElem_cons_succ, List.getElem_cons_zero])
                            refine wpAnyH_ready (rs := [37]) (by kernel_rfl) (by simp) ?_
                            refine AllReadyH.cons rfl (fun Kc hK => ?_) (AllReadyH.nil)
                            · rw [if_pos (by rfl)]
                              go_simp
                              (go_at_call 62; (with_reducible refine (HI12.out _).mono ?_); rintro e y11 ⟨rfl, hb_y11⟩)
                              go_wp2_with fail
                              have z13 := (z12).below hb_y11 (z12).lt
                              refine hK.out _ _ (hHeld.trans (hb_y11.mono hHeld.size)) (fun hHeld => ?_)
                              clear hK Kc
                              (try simp only [Act.put, List.setIfInBounds_toArray, List.set_cons_zero, List.set_cons_succ, Array.toArray_toList, List.getElem_toArray, List.getElem_cons_succ, List.getElem_cons_zero])
                              (refine wpAnyH_take (i := 38) (v := .agg (okC P)) rfl (by kernel_rfl) (by kernel_rfl) (by kernel_rfl) (fun _ _ _ h => h) (Or.inl ⟨by rfl, fun w _ => (by go_simp; rfl)⟩) (by assumption) ?_; (try simp only [Act.put, List.setIfInBounds_toArray, List.set_cons_zero, List.set_cons_succ, Array.toArray_toList, List.getElem_toArray, List.getElem_cons_succ, List.getElem_cons_zero]))
                              refine wpAnyH_ready (rs := [40]) (by kernel_rfl) (by simp) ?_
                              refine AllReadyH.cons rfl (fun Kc hK => ?_) (AllReadyH.nil)
                              · rw [if_pos (by rfl)]
                                refine wp_store_mid 89 _ _ rfl (y10.heap.size) 0 (okC P) rfl rfl (z13).there size61 (okC_one P) ?_
                                have z14 := (z13).put (ds := (okC P)) rfl
                                refine hK.out _ _ (below_setCells hg12 _ _ _ hHeld) (fun hHeld => ?_)
                                clear hK Kc
                                (try simp only [Act.put, List.setIfInBounds_toArray, List.set_cons_zero, List.set_cons_succ, Array.toArray_toList, List.getElem_toArray, List.getElem_cons_succ, List.getElem_cons_zero])
                                refine wpAnyH_done (by kernel_rfl) ?_ _
                                go_wp2_with fail
                                go_meet
                                exact ⟨_, rfl, hHeld, z14⟩
                        · rw [if_pos (by rfl)]
                          go_simp
                          have z11 := RBlk.new (y9) Z12 89
                          have hg11 := hHeld.size
                          refine hK.out _ _ (hHeld.alloc hHeld.size _) (fun hHeld => ?_)
                          clear hK Kc
                          (try simp only [Act.put, List.setIfInBounds_toArray, List.set_cons_zero, List.set_cons_succ, Array.toArray_toList, List.getElem_toArray, List.getElem_cons_succ, List.getElem_cons_zero])
                          refine wpAnyH_ready (rs := [32]) (by kernel_rfl) (by simp) ?_
                          refine AllReadyH.cons rfl (fun Kc hK => ?_) (AllReadyH.nil)
                          · rw [if_pos (by rfl)]
                            go_simp
                            (go_at_call 62; (with_reducible refine (HI11.out _).mono ?_); rintro e y10 ⟨rfl, hb_y10⟩)
                            go_wp2_with fail
                            have z12 := (z11).below hb_y10 (z11).lt
                            refine hK.out _ _ (hHeld.trans (hb_y10.mono hHeld.size)) (fun hHeld => ?_)
                            clear hK Kc
                            (try simp only [Act.put, List.setIfInBounds_toArray, List.set_cons_zero, List.set_cons_succ, Array.toArray_toList, List.getElem_toArray, List.getElem_cons_succ, List.getElem_cons_zero])
                            refine wpAnyH_ready (rs := [37]) (by kernel_rfl) (by simp) ?_
                            refine AllReadyH.cons rfl (fun Kc hK => ?_) (AllReadyH.nil)
                            · rw [if_pos (by rfl)]
                              go_simp
                              (go_at_call 62; (with_reducible refine (HI12.out _).mono ?_); rintro e y11 ⟨rfl, hb_y11⟩)
                              go_wp2_with fail
                              have z13 := (z12).below hb_y11 (z12).lt
                              refine hK.out _ _ (hHeld.trans (hb_y11.mono hHeld.size)) (fun hHeld => ?_)
                              clear hK Kc
                              (try simp only [Act.put, List.setIfInBounds_toArray, List.set_cons_zero, List.set_cons_succ, Array.toArray_toList, List.getElem_toArray, List.getElem_cons_succ, List.getElem_cons_zero])
                              (refine wpAnyH_take (i := 38) (v := .agg (okC P)) rfl (by kernel_rfl) (by kernel_rfl) (by kernel_rfl) (fun _ _ _ h => h) (Or.inl ⟨by rfl, fun w _ => (by go_simp; rfl)⟩) (by assumption) ?_; (try simp only [Act.put, List.setIfInBounds_toArray, List.set_cons_zero, List.set_cons_succ, Array.toArray_toList, List.getElem_toArray, List.getElem_cons_succ, List.getElem_cons_zero]))
                              refine wpAnyH_ready (rs := [40]) (by kernel_rfl) (by simp) ?_
                              refine AllReadyH.cons rfl (fun Kc hK => ?_) (AllReadyH.nil)
                              · rw [if_pos (by rfl)]
                                refine wp_store_mid 89 _ _ rfl (y9.heap.size) 0 (okC P) rfl rfl (z13).there size61 (okC_one P) ?_
                                have z14 := (z13).put (ds := (okC P)) rfl
                                refine hK.out _ _ (below_setCells hg11 _ _ _ hHeld) (fun hHeld => ?_)
                                clear hK Kc
                                (try simp only [Act.put, List.setIfInBounds_toArray, List.set_cons_zero, List.set_cons_succ, Array.toArray_toList, List.getElem_toArray, List.getElem_cons_succ, List.getElem_cons_zero])
                                refine wpAnyH_done (by kernel_rfl) ?_ _
                                go_wp2_with fail
                                go_meet
                                exact ⟨_, rfl, hHeld, z14⟩
                      · rw [if_pos (by rfl)]
                        go_simp
                        have z10 := RBlk.new (y8) Z12 89
                        have hg10 := hHeld.size
                        refine hK.out _ _ (hHeld.alloc hHeld.size _) (fun hHeld => ?_)
                        clear hK Kc
                        (try simp only [Act.put, List.setIfInBounds_toArray, List.set_cons_zero, List.set_cons_succ, Array.toArray_toList, List.getElem_toArray, List.getElem_cons_succ, List.getElem_cons_zero])
                        refine wpAnyH_ready (rs := [29]) (by kernel_rfl) (by simp) ?_
                        refine AllReadyH.cons rfl (fun Kc hK => ?_) (AllReadyH.nil)
                        · rw [if_pos (by rfl)]
                          go_simp
                          (go_at_call 62; (with_reducible refine (HI10.out _).mono ?_); rintro e y9 ⟨rfl, hb_y9⟩)
                          go_wp2_with fail
                          have z11 := (z10).below hb_y9 (z10).lt
                          refine hK.out _ _ (hHeld.trans (hb_y9.mono hHeld.size)) (fun hHeld => ?_)
                          clear hK Kc
                          (try simp only [Act.put, List.setIfInBounds_toArray, List.set_cons_zero, List.set_cons_succ, Array.toArray_toList, List.getElem_toArray, List.getElem_cons_succ, List.getElem_cons_zero])
                          refine wpAnyH_ready (rs := [32]) (by kernel_rfl) (by simp) ?_
                          refine AllReadyH.cons rfl (fun Kc hK => ?_) (AllReadyH.nil)
                          · rw [if_pos (by rfl)]
                            go_simp
                            (go_at_call 62; (with_reducible refine (HI11.out _).mono ?_); rintro e y10 ⟨rfl, hb_y10⟩)
                            go_wp2_with fail
                            have z12 := (z11).below hb_y10 (z11).lt
                            refine hK.out _ _ (hHeld.trans (hb_y10.mono hHeld.size)) (fun hHeld => ?_)
                            clear hK Kc
                            (try simp only [Act.put, List.setIfInBounds_toArray, List.set_cons_zero, List.set_cons_succ, Array.toArray_toList, List.getElem_toArray, List.getElem_cons_succ, List.getElem_cons_zero])
                            refine wpAnyH_ready (rs := [37]) (by kernel_rfl) (by simp) ?_
                            refine AllReadyH.cons rfl (fun Kc hK => ?_) (AllReadyH.nil)
                            · rw [if_pos (by rfl)]
                              go_simp
                              (go_at_call 62; (with_reducible refine (HI12.out _).mono ?_); rintro e y11 ⟨rfl, hb_y11⟩)
                              go_wp2_with fail
                              have z13 := (z12).below hb_y11 (z12).lt
                              refine hK.out _ _ (hHeld.trans (hb_y11.mono hHeld.size)) (fun hHeld => ?_)
                              clear hK Kc
                              (try simp only [Act.put, List.setIfInBounds_toArray, List.set_cons_zero, List.set_cons_succ, Array.toArray_toList, List.getElem_toArray, List.getElem_cons_succ, List.getElem_cons_zero])
                              (refine wpAnyH_take (i := 38) (v := .agg (okC P)) rfl (by kernel_rfl) (by kernel_rfl) (by kernel_rfl) (fun _ _ _ h => h) (Or.inl ⟨by rfl, fun w _ => (by go_simp; rfl)⟩) (by assumption) ?_; (try simp only [Act.put, List.setIfInBounds_toArray, List.set_cons_zero, List.set_cons_succ, Array.toArray_toList, List.getElem_toArray, List.getElem_cons_succ, List.getElem_cons_zero]))
                              refine wpAnyH_ready (rs := [40]) (by kernel_rfl) (by simp) ?_
                              refine AllReadyH.cons rfl (fun Kc hK => ?_) (AllReadyH.nil)
                              · rw [if_pos (by rfl)]
                                refine wp_store_mid 89 _ _ rfl (y8.heap.size) 0 (okC P) rfl rfl (z13).there size61 (okC_one P) ?_
                                have z14 := (z13).put (ds := (okC P)) rfl
                                refine hK.out _ _ (below_setCells hg10 _ _ _ hHeld) (fun hHeld => ?_)
                                clear hK Kc
                                (try simp only [Act.put, List.setIfInBounds_toArray, List.set_cons_zero, List.set_cons_succ, Array.toArray_toList, List.getElem_toArray, List.getElem_cons_succ, List.getElem_cons_zero])
                                refine wpAnyH_done (by kernel_rfl) ?_ _
                                go_wp2_with fail
                                go_meet
                                exact ⟨_, rfl, hHeld, z14⟩
                    · rw [if_pos (by rfl)]
                      go_simp
                      have z9 := RBlk.new (y7) Z12 89
                      have hg9 := hHeld.size
                      refine hK.out _ _ (hHeld.alloc hHeld.size _) (fun hHeld => ?_)
                      clear hK Kc
                      (try simp only [Act.put, List.setIfInBounds_toArray, List.set_cons_zero, List.set_cons_succ, Array.toArray_toList, List.getElem_toArray, List.getElem_cons_succ, List.getElem_cons_zero])
                      refine wpAnyH_ready (rs := [26]) (by kernel_rfl) (by simp) ?_
                      refine AllReadyH.cons rfl (fun Kc hK => ?_) (AllReadyH.nil)
                      · rw [if_pos (by rfl)]
                        go_simp
                        (go_at_call 62; (with_reducible refine (HI9.out _).mono ?_); rintro e y8 ⟨rfl, hb_y8⟩)
                        go_wp2_with fail
                        have z10 := (z9).below hb_y8 (z9).lt
                        refine hK.out _ _ (hHeld.trans (hb_y8.mono hHeld.size)) (fun hHeld => ?_)
                        clear hK Kc
                        (try simp only [Act.put, List.setIfInBounds_toArray, List.set_cons_zero, List.set_cons_succ, Array.toArray_toList, List.getElem_toArray, List.getElem_cons_succ, List.getElem_cons_zero])
                        refine wpAnyH_ready (rs := [29]) (by kernel_rfl) (by simp) ?_
                        refine AllReadyH.cons rfl (fun Kc hK => ?_) (AllReadyH.nil)
                        · rw [if_pos (by rfl)]
                          go_simp
                          (go_at_call 62; (with_reducible refine (HI10.out _).mono ?_); rintro e y9 ⟨rfl, hb_y9⟩)
                          go_wp2_with fail
                          have z11 := (z10).below hb_y9 (z10).lt
                          refine hK.out _ _ (hHeld.trans (hb_y9.mono hHeld.size)) (fun hHeld => ?_)
                          clear hK Kc
                          (try simp only [Act.put, List.setIfInBounds_toArray, List.set_cons_zero, List.set_cons_succ, Array.toArray_toList, List.getElem_toArray, List.getElem_cons_succ, List.getElem_cons_zero])
                          refine wpAnyH_ready (rs := [32]) (by kernel_rfl) (by simp) ?_
                          refine AllReadyH.cons rfl (fun Kc hK => ?_) (AllReadyH.nil)
                          · rw [if_pos (by rfl)]
                            go_simp
                            (go_at_call 62; (with_reducible refine (HI11.out _).mono ?_); rintro e y10 ⟨rfl, hb_y10⟩)
                            go_wp2_with fail
                            have z12 := (z11).below hb_y10 (z11).lt
                            refine hK.out _ _ (hHeld.trans (hb_y10.mono hHeld.size)) (fun hHeld => ?_)
                            clear hK Kc
                            (try simp only [Act.put, List.setIfInBounds_toArray, List.set_cons_zero, List.set_cons_succ, Array.toArray_toList, List.getElem_toArray, List.getElem_cons_succ, List.getElem_cons_zero])
                            refine wpAnyH_ready (rs := [37]) (by kernel_rfl) (by simp) ?_
                            refine AllReadyH.cons rfl (fun Kc hK => ?_) (AllReadyH.nil)
                            · rw [if_pos (by rfl)]
                              go_simp
                              (go_at_call 62; (with_reducible refine (HI12.out _).mono ?_); rintro e y11 ⟨rfl, hb_y11⟩)
                              go_wp2_with fail
                              have z13 := (z12).below hb_y11 (z12).lt
                              refine hK.out _ _ (hHeld.trans (hb_y11.mono hHeld.size)) (fun hHeld => ?_)
                              clear hK Kc
                              (try simp only [Act.put, List.setIfInBounds_toArray, List.set_cons_zero, List.set_cons_succ, Array.toArray_toList, List.getElem_toArray, List.getElem_cons_succ, List.getElem_cons_zero])
                              (refine wpAnyH_take (i := 38) (v := .agg (okC P)) rfl (by kernel_rfl) (by kernel_rfl) (by kernel_rfl) (fun _ _ _ h => h) (Or.inl ⟨by rfl, fun w _ => (by go_simp; rfl)⟩) (by assumption) ?_; (try simp only [Act.put, List.setIfInBounds_toArray, List.set_cons_zero, List.set_cons_succ, Array.toArray_toList, List.getElem_toArray, List.getElem_cons_succ, List.getElem_cons_zero]))
                              refine wpAnyH_ready (rs := [40]) (by kernel_rfl) (by simp) ?_
                              refine AllReadyH.cons rfl (fun Kc hK => ?_) (AllReadyH.nil)
                              · rw [if_pos (by rfl)]
                                refine wp_store_mid 89 _ _ rfl (y7.heap.size) 0 (okC P) rfl rfl (z13).there size61 (okC_one P) ?_
                                have z14 := (z13).put (ds := (okC P)) rfl
                                refine hK.out _ _ (below_setCells hg9 _ _ _ hHeld) (fun hHeld => ?_)
                                clear hK Kc
                                (try simp only [Act.put, List.setIfInBounds_toArray, List.set_cons_zero, List.set_cons_succ, Array.toArray_toList, List.getElem_toArray, List.getElem_cons_succ, List.getElem_cons_zero])
                                refine wpAnyH_done (by kernel_rfl) ?_ _
                                go_wp2_with fail
                                go_meet
                                exact ⟨_, rfl, hHeld, z14⟩
                  · rw [if_pos (by rfl)]
                    go_simp
                    have z8 := RBlk.new (y6) Z12 89
                    have hg8 := hHeld.size
                    refine hK.out _ _ (hHeld.alloc hHeld.size _) (fun hHeld => ?_)
                    clear hK Kc
                    (try simp only [Act.put, List.setIfInBounds_toArray, List.set_cons_zero, List.set_cons_succ, Array.toArray_toList, List.getElem_toArray, List.getElem_cons_succ, List.getElem_cons_zero])
                    refine wpAnyH_ready (rs := [23]) (by kernel_rfl) (by simp) ?_
                    refine AllReadyH.cons rfl (fun Kc hK => ?_) (AllReadyH.nil)
                    · rw [if_pos (by rfl)]
                      go_simp
                      (go_at_call 63; (with_reducible refine (HI8.out _).mono ?_); rintro e y7 ⟨rfl, hb_y7⟩)
                      go_wp2_with fail
                      have z9 := (z8).below hb_y7 (z8).lt
                      refine hK.out _ _ (hHeld.trans (hb_y7.mono hHeld.size)) (fun hHeld => ?_)
                      clear hK Kc
                      (try simp only [Act.put, List.setIfInBounds_toArray, List.set_cons_zero, List.set_cons_succ, Array.toArray_toList, List.getElem_toArray, List.getElem_cons_succ, List.getElem_cons_zero])
                      refine wpAnyH_ready (rs := [26]) (by kernel_rfl) (by simp) ?_
                      refine AllReadyH.cons rfl (fun Kc hK => ?_) (AllReadyH.nil)
                      · rw [if_pos (by rfl)]
                        go_simp
                        (go_at_call 62; (with_reducible refine (HI9.out _).mono ?_); rintro e y8 ⟨rfl, hb_y8⟩)
                        go_wp2_with fail
                        have z10 := (z9).below hb_y8 (z9).lt
                        refine hK.out _ _ (hHeld.trans (hb_y8.mono hHeld.size)) (fun hHeld => ?_)
                        clear hK Kc
                        (try simp only [Act.put, List.setIfInBounds_toArray, List.set_cons_zero, List.set_cons_succ, Array.toArray_toList, List.getElem_toArray, List.getElem_cons_succ, List.getElem_cons_zero])
                        refine wpAnyH_ready (rs := [29]) (by kernel_rfl) (by simp) ?_
                        refine AllReadyH.cons rfl (fun Kc hK => ?_) (AllReadyH.nil)
                        · rw [if_pos (by rfl)]
                          go_simp
                          (go_at_call 62; (with_reducible refine (HI10.out _).mono ?_); rintro e y9 ⟨rfl, hb_y9⟩)
                          go_wp2_with fail
                          have z11 := (z10).below hb_y9 (z10).lt
                          refine hK.out _ _ (hHeld.trans (hb_y9.mono hHeld.size)) (fun hHeld => ?_)
                          clear hK Kc
                          (try simp only [Act.put, List.setIfInBounds_toArray, List.set_cons_zero, List.set_cons_succ, Array.toArray_toList, List.getElem_toArray, List.getElem_cons_succ, List.getElem_cons_zero])
                          refine wpAnyH_ready (rs := [32]) (by kernel_rfl) (by simp) ?_
                          refine AllReadyH.cons rfl (fun Kc hK => ?_) (AllReadyH.nil)
                          · rw [if_pos (by rfl)]
                            go_simp
                            (go_at_call 62; (with_reducible refine (HI11.out _).mono ?_); rintro e y10 ⟨rfl, hb_y10⟩)
                            go_wp2_with fail
                            have z12 := (z11).below hb_y10 (z11).lt
                            refine hK.out _ _ (hHeld.trans (hb_y10.mono hHeld.size)) (fun hHeld => ?_)
                            clear hK Kc
                            (try simp only [Act.put, List.setIfInBounds_toArray, List.set_cons_zero, List.set_cons_succ, Array.toArray_toList, List.getElem_toArray, List.getElem_cons_succ, List.getElem_cons_zero])
                            refine wpAnyH_ready (rs := [37]) (by kernel_rfl) (by simp) ?_
                            refine AllReadyH.cons rfl (fun Kc hK => ?_) (AllReadyH.nil)
                            · rw [if_pos (by rfl)]
                              go_simp
                              (go_at_call 62; (with_reducible refine (HI12.out _).mono ?_); rintro e y11 ⟨rfl, hb_y11⟩)
                              go_wp2_with fail
                              have z13 := (z12).below hb_y11 (z12).lt
                              refine hK.out _ _ (hHeld.trans (hb_y11.mono hHeld.size)) (fun hHeld => ?_)
                              clear hK Kc
                              (try simp only [Act.put, List.setIfInBounds_toArray, List.set_cons_zero, List.set_cons_succ, Array.toArray_toList, List.getElem_toArray, List.getElem_cons_succ, List.getElem_cons_zero])
                              (refine wpAnyH_take (i := 38) (v := .agg (okC P)) rfl (by kernel_rfl) (by kernel_rfl) (by kernel_rfl) (fun _ _ _ h => h) (Or.inl ⟨by rfl, fun w _ => (by go_simp; rfl)⟩) (by assumption) ?_; (try simp only [Act.put, List.setIfInBounds_toArray, List.set_cons_zero, List.set_cons_succ, Array.toArray_toList, List.getElem_toArray, List.getElem_cons_succ, List.getElem_cons_zero]))
                              refine wpAnyH_ready (rs := [40]) (by kernel_rfl) (by simp) ?_
                              refine AllReadyH.cons rfl (fun Kc hK => ?_) (AllReadyH.nil)
                              · rw [if_pos (by rfl)]
                                refine wp_store_mid 89 _ _ rfl (y6.heap.size) 0 (okC P) rfl rfl (z13).there size61 (okC_one P) ?_
                                have z14 := (z13).put (ds := (okC P)) rfl
                                refine hK.out _ _ (below_setCells hg8 _ _ _ hHeld) (fun hHeld => ?_)
                                clear hK Kc
                                (try simp only [Act.put, List.setIfInBounds_toArray, List.set_cons_zero, List.set_cons_succ, Array.toArray_toList, List.getElem_toArray, List.getElem_cons_succ, List.getElem_cons_zero])
                                refine wpAnyH_done (by kernel_rfl) ?_ _
                                go_wp2_with fail
                                go_meet
                                exact ⟨_, rfl, hHeld, z14⟩
                · rw [if_pos (by rfl)]
                  go_simp
                  have z7 := RBlk.new (y5) Z12 89
                  have hg7 := hHeld.size
                  refine hK.out _ _ (hHeld.alloc hHeld.size _) (fun hHeld => ?_)
                  clear hK Kc
                  (try simp only [Act.put, List.setIfInBounds_toArray, List.set_cons_zero, List.set_cons_succ, Array.toArray_toList, List.getElem_toArray, List.getElem_cons_succ, List.getElem_cons_zero])
                  refine wpAnyH_ready (rs := [20]) (by kernel_rfl) (by simp) ?_
                  refine AllReadyH.cons rfl (fun Kc hK => ?_) (AllReadyH.nil)
                  · rw [if_pos (by rfl)]
                    go_simp
                    (go_at_call 62; (with_reducible refine (HI7.out _).mono ?_); rintro e y6 ⟨rfl, hb_y6⟩)
                    go_wp2_with fail
                    have z8 := (z7).below hb_y6 (z7).lt
                    refine hK.out _ _ (hHeld.trans (hb_y6.mono hHeld.size)) (fun hHeld => ?_)
                    clear hK Kc
                    (try simp only [Act.put, List.setIfInBounds_toArray, List.set_cons_zero, List.set_cons_succ, Array.toArray_toList, List.getElem_toArray, List.getElem_cons_succ, List.getElem_cons_zero])
                    refine wpAnyH_ready (rs := [23]) (by kernel_rfl) (by simp) ?_
                    refine AllReadyH.cons rfl (fun Kc hK => ?_) (AllReadyH.nil)
                    · rw [if_pos (by rfl)]
                      go_simp
                      (go_at_call 63; (with_reducible refine (HI8.out _).mono ?_); rintro e y7 ⟨rfl, hb_y7⟩)
                      go_wp2_with fail
                      have z9 := (z8).below hb_y7 (z8).lt
                      refine hK.out _ _ (hHeld.trans (hb_y7.mono hHeld.size)) (fun hHeld => ?_)
                      clear hK Kc
                      (try simp only [Act.put, List.setIfInBounds_toArray, List.set_cons_zero, List.set_cons_succ, Array.toArray_toList, List.getElem_toArray, List.getElem_cons_succ, List.getElem_cons_zero])
                      refine wpAnyH_ready (rs := [26]) (by kernel_rfl) (by simp) ?_
                      refine AllReadyH.cons rfl (fun Kc hK => ?_) (AllReadyH.nil)
                      · rw [if_pos (by rfl)]
                        go_simp
                        (go_at_call 62; (with_reducible refine (HI9.out _).mono ?_); rintro e y8 ⟨rfl, hb_y8⟩)
                        go_wp2_with fail
                        have z10 := (z9).below hb_y8 (z9).lt
                        refine hK.out _ _ (hHeld.trans (hb_y8.mono hHeld.size)) (fun hHeld => ?_)
                        clear hK Kc
                        (try simp only [Act.put, List.setIfInBounds_toArray, List.set_cons_zero, List.set_cons_succ, Array.toArray_toList, List.getElem_toArray, List.getElem_cons_succ, List.getElem_cons_zero])
                        refine wpAnyH_ready (rs := [29]) (by kernel_rfl) (by simp) ?_
                        refine AllReadyH.cons rfl (fun Kc hK => ?_) (AllReadyH.nil)
                        · rw [if_pos (by rfl)]
                          go_simp
                          (go_at_call 62; (with_reducible refine (HI10.out _).mono ?_); rintro e y9 ⟨rfl, hb_y9⟩)
                          go_wp2_with fail
                          have z11 := (z10).below hb_y9 (z10).lt
                          refine hK.out _ _ (hHeld.trans (hb_y9.mono hHeld.size)) (fun hHeld => ?_)
                          clear hK Kc
                          (try simp only [Act.put, List.setIfInBounds_toArray, List.set_cons_zero, List.set_cons_succ, Array.toArray_toList, List.getElem_toArray, List.getElem_cons_succ, List.getElem_cons_zero])
                          refine wpAnyH_ready (rs := [32]) (by kernel_rfl) (by simp) ?_
                          refine AllReadyH.cons rfl (fun Kc hK => ?_) (AllReadyH.nil)
                          · rw [if_pos (by rfl)]
                            go_simp
                            (go_at_call 62; (with_reducible refine (HI11.out _).mono ?_); rintro e y10 ⟨rfl, hb_y10⟩)
                            go_wp2_with fail
                            have z12 := (z11).below hb_y10 (z11).lt
                            refine hK.out _ _ (hHeld.trans (hb_y10.mono hHeld.size)) (fun hHeld => ?_)
                            clear hK Kc
                            (try simp only [Act.put, List.setIfInBounds_toArray, List.set_cons_zero, List.set_cons_succ, Array.toArray_toList, List.getElem_toArray, List.getElem_cons_succ, List.getElem_cons_zero])
                            refine wpAnyH_ready (rs := [37]) (by kernel_rfl) (by simp) ?_
                            refine AllReadyH.cons rfl (fun Kc hK => ?_) (AllReadyH.nil)
                            · rw [if_pos (by rfl)]
                              go_simp
                              (go_at_call 62; (with_reducible refine (HI12.out _).mono ?_); rintro e y11 ⟨rfl, hb_y11⟩)
                              go_wp2_with fail
                              have z13 := (z12).below hb_y11 (z12).lt
                              refine hK.out _ _ (hHeld.trans (hb_y11.mono hHeld.size)) (fun hHeld => ?_)
                              clear hK Kc
                              (try simp only [Act.put, List.setIfInBounds_toArray, List.set_cons_zero, List.set_cons_succ, Array.toArray_toList, List.getElem_toArray, List.getElem_cons_succ, List.getElem_cons_zero])
                              (refine wpAnyH_take (i := 38) (v := .agg (okC P)) rfl (by kernel_rfl) (by kernel_rfl) (by kernel_rfl) (fun _ _ _ h => h) (Or.inl ⟨by rfl, fun w _ => (by go_simp; rfl)⟩) (by assumption) ?_; (try simp only [Act.put, List.setIfInBounds_toArray, List.set_cons_zero, List.set_cons_succ, Array.toArray_toList, List.getElem_toArray, List.getElem_cons_succ, List.getElem_cons_zero]))
                              refine wpAnyH_ready (rs := [40]) (by kernel_rfl) (by simp) ?_
                              refine AllReadyH.cons rfl (fun Kc hK => ?_) (AllReadyH.nil)
                              · rw [if_pos (by rfl)]
                                refine wp_store_mid 89 _ _ rfl (y5.heap.size) 0 (okC P) rfl rfl (z13).there size61 (okC_one P) ?_
                                have z14 := (z13).put (ds := (okC P)) rfl
                                refine hK.out _ _ (below_setCells hg7 _ _ _ hHeld) (fun hHeld => ?_)
                                clear hK Kc
                                (try simp only [Act.put, List.setIfInBounds_toArray, List.set_cons_zero, List.set_cons_succ, Array.toArray_toList, List.getElem_toArray, List.getElem_cons_succ, List.getElem_cons_zero])
                                refine wpAnyH_done (by kernel_rfl) ?_ _
                                go_wp2_with fail
                                go_meet
                                exact ⟨_, rfl, hHeld, z14⟩
              · rw [if_pos (by rfl)]
                go_simp
                have z6 := RBlk.new (y4) Z12 89
                have hg6 := hHeld.size
                refine hK.out _ _ (hHeld.alloc hHeld.size _) (fun hHeld => ?_)
                clear hK Kc
                (try simp only [Act.put, List.setIfInBounds_toArray, List.set_cons_zero, List.set_cons_succ, Array.toArray_toList, List.getElem_toArray, List.getElem_cons_succ, List.getElem_cons_zero])
                refine wpAnyH_ready (rs := [17]) (by kernel_rfl) (by simp) ?_
                refine AllReadyH.cons rfl (fun Kc hK => ?_) (AllReadyH.nil)
                · rw [if_pos (by rfl)]
                  go_simp
                  (go_at_call 63; (with_reducible refine (HI6.out _).mono ?_); rintro e y5 ⟨rfl, hb_y5⟩)
                  go_wp2_with fail
                  have z7 := (z6).below hb_y5 (z6).lt
                  refine hK.out _ _ (hHeld.trans (hb_y5.mono hHeld.size)) (fun hHeld => ?_)
                  clear hK Kc
                  (try simp only [Act.put, List.setIfInBounds_toArray, List.set_cons_zero, List.set_cons_succ, Array.toArray_toList, List.getElem_toArray, List.getElem_cons_succ, List.getElem_cons_zero])
                  refine wpAnyH_ready (rs := [20]) (by kernel_rfl) (by simp) ?_
                  refine AllReadyH.cons rfl (fun Kc hK => ?_) (AllReadyH.nil)
                  · rw [if_pos (by rfl)]
                    go_simp
                    (go_at_call 62; (with_reducible refine (HI7.out _).mono ?_); rintro e y6 ⟨rfl, hb_y6⟩)
                    go_wp2_with fail
                    have z8 := (z7).below hb_y6 (z7).lt
                    refine hK.out _ _ (hHeld.trans (hb_y6.mono hHeld.size)) (fun hHeld => ?_)
                    clear hK Kc
                    (try simp only [Act.put, List.setIfInBounds_toArray, List.set_cons_zero, List.set_cons_succ, Array.toArray_toList, List.getElem_toArray, List.getElem_cons_succ, List.getElem_cons_zero])
                    refine wpAnyH_ready (rs := [23]) (by kernel_rfl) (by simp) ?_
                    refine AllReadyH.cons rfl (fun Kc hK => ?_) (AllReadyH.nil)
                    · rw [if_pos (by rfl)]
                      go_simp
                      (go_at_call 63; (with_reducible refine (HI8.out _).mono ?_); rintro e y7 ⟨rfl, hb_y7⟩)
                      go_wp2_with fail
                      have z9 := (z8).below hb_y7 (z8).lt
                      refine hK.out _ _ (hHeld.trans (hb_y7.mono hHeld.size)) (fun hHeld => ?_)
                      clear hK Kc
                      (try simp only [Act.put, List.setIfInBounds_toArray, List.set_cons_zero, List.set_cons_succ, Array.toArray_toList, List.getElem_toArray, List.getElem_cons_succ, List.getElem_cons_zero])
                      refine wpAnyH_ready (rs := [26]) (by kernel_rfl) (by simp) ?_
                      refine AllReadyH.cons rfl (fun Kc hK => ?_) (AllReadyH.nil)
                      · rw [if_pos (by rfl)]
                        go_simp
                        (go_at_call 62; (with_reducible refine (HI9.out _).mono ?_); rintro e y8 ⟨rfl, hb_y8⟩)
                        go_wp2_with fail
                        have z10 := (z9).below hb_y8 (z9).lt
                        refine hK.out _ _ (hHeld.trans (hb_y8.mono hHeld.size)) (fun hHeld => ?_)
                        clear hK Kc
                        (try simp only [Act.put, List.setIfInBounds_toArray, List.set_cons_zero, List.set_cons_succ, Array.toArray_toList, List.getElem_toArray, List.getElem_cons_succ, List.getElem_cons_zero])
                        refine wpAnyH_ready (rs := [29]) (by kernel_rfl) (by simp) ?_
                        refine AllReadyH.cons rfl (fun Kc hK => ?_) (AllReadyH.nil)
                        · rw [if_pos (by rfl)]
                          go_simp
                          (go_at_call 62; (with_reducible refine (HI10.out _).mono ?_); rintro e y9 ⟨rfl, hb_y9⟩)
                          go_wp2_with fail
                          have z11 := (z10).below hb_y9 (z10).lt
                          refine hK.out _ _ (hHeld.trans (hb_y9.mono hHeld.size)) (fun hHeld => ?_)
                          clear hK Kc
                          (try simp only [Act.put, List.setIfInBounds_toArray, List.set_cons_zero, List.set_cons_succ, Array.toArray_toList, List.getElem_toArray, List.getElem_cons_succ, List.getElem_cons_zero])
                          refine wpAnyH_ready (rs := [32]) (by kernel_rfl) (by simp) ?_
                          refine AllReadyH.cons rfl (fun Kc hK => ?_) (AllReadyH.nil)
                          · rw [if_pos (by rfl)]
                            go_simp
                            (go_at_call 62; (with_reducible refine (HI11.out _).mono ?_); rintro e y10 ⟨rfl, hb_y10⟩)
                            go_wp2_with fail
                            have z12 := (z11).below hb_y10 (z11).lt
                            refine hK.out _ _ (hHeld.trans (hb_y10.mono hHeld.size)) (fun hHeld => ?_)
                            clear hK Kc
                            (try simp only [Act.put, List.setIfInBounds_toArray, List.set_cons_zero, List.set_cons_succ, Array.toArray_toList, List.getElem_toArray, List.getElem_cons_succ, List.getElem_cons_zero])
                            refine wpAnyH_ready (rs := [37]) (by kernel_rfl) (by simp) ?_
                            refine AllReadyH.cons rfl (fun Kc hK => ?_) (AllReadyH.nil)
                            · rw [if_pos (by rfl)]
                              go_simp
                              (go_at_call 62; (with_reducible refine (HI12.out _).mono ?_); rintro e y11 ⟨rfl, hb_y11⟩)
                              go_wp2_with fail
                              have z13 := (z12).below hb_y11 (z12).lt
                              refine hK.out _ _ (hHeld.trans (hb_y11.mono hHeld.size)) (fun hHeld => ?_)
                              clear hK Kc
                              (try simp only [Act.put, List.setIfInBounds_toArray, List.set_cons_zero, List.set_cons_succ, Array.toArray_toList, List.getElem_toArray, List.getElem_cons_succ, List.getElem_cons_zero])
                              (refine wpAnyH_take (i := 38) (v := .agg (okC P)) rfl (by kernel_rfl) (by kernel_rfl) (by kernel_rfl) (fun _ _ _ h => h) (Or.inl ⟨by rfl, fun w _ => (by go_simp; rfl)⟩) (by assumption) ?_; (try simp only [Act.put, List.setIfInBounds_toArray, List.set_cons_zero, List.set_cons_succ, Array.toArray_toList, List.getElem_toArray, List.getElem_cons_succ, List.getElem_cons_zero]))
                              refine wpAnyH_ready (rs := [40]) (by kernel_rfl) (by simp) ?_
                              refine AllReadyH.cons rfl (fun Kc hK => ?_) (AllReadyH.nil)
                              · rw [if_pos (by rfl)]
                                refine wp_store_mid 89 _ _ rfl (y4.heap.size) 0 (okC P) rfl rfl (z13).there size61 (okC_one P) ?_
                                have z14 := (z13).put (ds := (okC P)) rfl
                                refine hK.out _ _ (below_setCells hg6 _ _ _ hHeld) (fun hHeld => ?_)
                                clear hK Kc
                                (try simp only [Act.put, List.setIfInBounds_toArray, List.set_cons_zero, List.set_cons_succ, Array.toArray_toList, List.getElem_toArray, List.getElem_cons_succ, List.getElem_cons_zero])
                                refine wpAnyH_done (by kernel_rfl) ?_ _
                                go_wp2_with fail
                                go_meet
                                exact ⟨_, rfl, hHeld, z14⟩
            · rw [if_pos (by rfl)]
              go_simp
              have z5 := RBlk.new (y3) Z12 89
              have hg5 := hHeld.size
              refine hK.out _ _ (hHeld.alloc hHeld.size _) (fun hHeld => ?_)
              clear hK Kc
              (try simp only [Act.put, List.setIfInBounds_toArray, List.set_cons_zero, List.set_cons_succ, Array.toArray_toList, List.getElem_toArray, List.getElem_cons_succ, List.getElem_cons_zero])
              refine wpAnyH_ready (rs := [14]) (by kernel_rfl) (by simp) ?_
              refine AllReadyH.cons rfl (fun Kc hK => ?_) (AllReadyH.nil)
              · rw [if_pos (by rfl)]
                go_simp
                (go_at_call 62; (with_reducible refine (HI5.out _).mono ?_); rintro e y4 ⟨rfl, hb_y4⟩)
                go_wp2_with fail
                have z6 := (z5).below hb_y4 (z5).lt
                refine hK.out _ _ (hHeld.trans (hb_y4.mono hHeld.size)) (fun hHeld => ?_)
                clear hK Kc
                (try simp only [Act.put, List.setIfInBounds_toArray, List.set_cons_zero, List.set_cons_succ, Array.toArray_toList, List.getElem_toArray, List.getElem_cons_succ, List.getElem_cons_zero])
                refine wpAnyH_ready (rs := [17]) (by kernel_rfl) (by simp) ?_
                refine AllReadyH.cons rfl (fun Kc hK => ?_) (AllReadyH.nil)
                · rw [if_pos (by rfl)]
                  go_simp
                  (go_at_call 63; (with_reducible refine (HI6.out _).mono ?_); rintro e y5 ⟨rfl, hb_y5⟩)
                  go_wp2_with fail
                  have z7 := (z6).below hb_y5 (z6).lt
                  refine hK.out _ _ (hHeld.trans (hb_y5.mono hHeld.size)) (fun hHeld => ?_)
                  clear hK Kc
                  (try simp only [Act.put, List.setIfInBounds_toArray, List.set_cons_zero, List.set_cons_succ, Array.toArray_toList, List.getElem_toArray, List.getElem_cons_succ, List.getElem_cons_zero])
                  refine wpAnyH_ready (rs := [20]) (by kernel_rfl) (by simp) ?_
                  refine AllReadyH.cons rfl (fun Kc hK => ?_) (AllReadyH.nil)
                  · rw [if_pos (by rfl)]
                    go_simp
                    (go_at_call 62; (with_reducible refine (HI7.out _).mono ?_); rintro e y6 ⟨rfl, hb_y6⟩)
                    go_wp2_with fail
                    have z8 := (z7).below hb_y6 (z7).lt
                    refine hK.out _ _ (hHeld.trans (hb_y6.mono hHeld.size)) (fun hHeld => ?_)
                    clear hK Kc
                    (try simp only [Act.put, List.setIfInBounds_toArray, List.set_cons_zero, List.set_cons_succ, Array.toArray_toList, List.getElem_toArray, List.getElem_cons_succ, List.getElem_cons_zero])
                    refine wpAnyH_ready (rs := [23]) (by kernel_rfl) (by simp) ?_
                    refine AllReadyH.cons rfl (fun Kc hK => ?_) (AllReadyH.nil)
                    · rw [if_pos (by rfl)]
                      go_simp
                      (go_at_call 63; (with_reducible refine (HI8.out _).mono ?_); rintro e y7 ⟨rfl, hb_y7⟩)
                      go_wp2_with fail
                      have z9 := (z8).below hb_y7 (z8).lt
                      refine hK.out _ _ (hHeld.trans (hb_y7.mono hHeld.size)) (fun hHeld => ?_)
                      clear hK Kc
                      (try simp only [Act.put, List.setIfInBounds_toArray, List.set_cons_zero, List.set_cons_succ, Array.toArray_toList, List.getElem_toArray, List.getElem_cons_succ, List.getElem_cons_zero])
                      refine wpAnyH_ready (rs := [26]) (by kernel_rfl) (by simp) ?_
                      refine AllReadyH.cons rfl (fun Kc hK => ?_) (AllReadyH.nil)
                      · rw [if_pos (by rfl)]
                        go_simp
                        (go_at_call 62; (with_reducible refine (HI9.out _).mono ?_); rintro e y8 ⟨rfl, hb_y8⟩)
                        go_wp2_with fail
                        have z10 := (z9).below hb_y8 (z9).lt
                        refine hK.out _ _ (hHeld.trans (hb_y8.mono hHeld.size)) (fun hHeld => ?_)
                        clear hK Kc
                        (try simp only [Act.put, List.setIfInBounds_toArray, List.set_cons_zero, List.set_cons_succ, Array.toArray_toList, List.getElem_toArray, List.getElem_cons_succ, List.getElem_cons_zero])
                        refine wpAnyH_ready (rs := [29]) (by kernel_rfl) (by simp) ?_
                        refine AllReadyH.cons rfl (fun Kc hK => ?_) (AllReadyH.nil)
                        · rw [if_pos (by rfl)]
                          go_simp
                          (go_at_call 62; (with_reducible refine (HI10.out _).mono ?_); rintro e y9 ⟨rfl, hb_y9⟩)
                          go_wp2_with fail
                          have z11 := (z10).below hb_y9 (z10).lt
                          refine hK.out _ _ (hHeld.trans (hb_y9.mono hHeld.size)) (fun hHeld => ?_)
                          clear hK Kc
                          (try simp only [Act.put, List.setIfInBounds_toArray, List.set_cons_zero, List.set_cons_succ, Array.toArray_toList, List.getElem_toArray, List.getElem_cons_succ, List.getElem_cons_zero])
                          refine wpAnyH_ready (rs := [32]) (by kernel_rfl) (by simp) ?_
                          refine AllReadyH.cons rfl (fun Kc hK => ?_) (AllReadyH.nil)
                          · rw [if_pos (by rfl)]
                            go_simp
                            (go_at_call 62; (with_reducible refine (HI11.out _).mono ?_); rintro e y10 ⟨rfl, hb_y10⟩)
                            go_wp2_with fail
                            have z12 := (z11).below hb_y10 (z11).lt
                            refine hK.out _ _ (hHeld.trans (hb_y10.mono hHeld.size)) (fun hHeld => ?_)
                            clear hK Kc
                            (try simp only [Act.put, List.setIfInBounds_toArray, List.set_cons_zero, List.set_cons_succ, Array.toArray_toList, List.getElem_toArray, List.getElem_cons_succ, List.getElem_cons_zero])
                            refine wpAnyH_ready (rs := [37]) (by kernel_rfl) (by simp) ?_
                            refine AllReadyH.cons rfl (fun Kc hK => ?_) (AllReadyH.nil)
                            · rw [if_pos (by rfl)]
                              go_simp
                              (go_at_call 62; (with_reducible refine (HI12.out _).mono ?_); rintro e y11 ⟨rfl, hb_y11⟩)
                              go_wp2_with fail
                              have z13 := (z12).below hb_y11 (z12).lt
                              refine hK.out _ _ (hHeld.trans (hb_y11.mono hHeld.size)) (fun hHeld => ?_)
                              clear hK Kc
                              (try simp only [Act.put, List.setIfInBounds_toArray, List.set_cons_zero, List.set_cons_succ, Array.toArray_toList, List.getElem_toArray, List.getElem_cons_succ, List.getElem_cons_zero])
                              (refine wpAnyH_take (i := 38) (v := .agg (okC P)) rfl (by kernel_rfl) (by kernel_rfl) (by kernel_rfl) (fun _ _ _ h => h) (Or.inl ⟨by rfl, fun w _ => (by go_simp; rfl)⟩) (by assumption) ?_; (try simp only [Act.put, List.setIfInBounds_toArray, List.set_cons_zero, List.set_cons_succ, Array.toArray_toList, List.getElem_toArray, List.getElem_cons_succ, List.getElem_cons_zero]))
                              refine wpAnyH_ready (rs := [40]) (by kernel_rfl) (by simp) ?_
                              refine AllReadyH.cons rfl (fun Kc hK => ?_) (AllReadyH.nil)
                              · rw [if_pos (by rfl)]
                                refine wp_store_mid 89 _ _ rfl (y3.heap.size) 0 (okC P) rfl rfl (z13).there size61 (okC_one P) ?_
                                have z14 := (z13).put (ds := (okC P)) rfl
                                refine hK.out _ _ (below_setCells hg5 _ _ _ hHeld) (fun hHeld => ?_)
                                clear hK Kc
                                (try simp only [Act.put, List.setIfInBounds_toArray, List.set_cons_zero, List.set_cons_succ, Array.toArray_toList, List.getElem_toArray, List.getElem_cons_succ, List.getElem_cons_zero])
                                refine wpAnyH_done (by kernel_rfl) ?_ _
                                go_wp2_with fail
                                go_meet
                                exact ⟨_, rfl, hHeld, z14⟩
          · rw [if_pos (by rfl)]
            go_simp
            have z4 := RBlk.new (y2) Z12 89
            have hg4 := hHeld.size
            refine hK.out _ _ (hHeld.alloc hHeld.size _) (fun hHeld => ?_)
            clear hK Kc
            (try simp only [Act.put, List.setIfInBounds_toArray, List.set_cons_zero, List.set_cons_succ, Array.toArray_toList, List.getElem_toArray, List.getElem_cons_succ, List.getElem_cons_zero])
            refine wpAnyH_ready (rs := [11]) (by kernel_rfl) (by simp) ?_
            refine AllReadyH.cons rfl (fun Kc hK => ?_) (AllReadyH.nil)
            · rw [if_pos (by rfl)]
              go_simp
              (go_at_call 63; (with_reducible refine (HI4.out _).mono ?_); rintro e y3 ⟨rfl, hb_y3⟩)
              go_wp2_with fail
              have z5 := (z4).below hb_y3 (z4).lt
              refine hK.out _ _ (hHeld.trans (hb_y3.mono hHeld.size)) (fun hHeld => ?_)
              clear hK Kc
              (try simp only [Act.put, List.setIfInBounds_toArray, List.set_cons_zero, List.set_cons_succ, Array.toArray_toList, List.getElem_toArray, List.getElem_cons_succ, List.getElem_cons_zero])
              refine wpAnyH_ready (rs := [14]) (by kernel_rfl) (by simp) ?_
              refine AllReadyH.cons rfl (fun Kc hK => ?_) (AllReadyH.nil)
              · rw [if_pos (by rfl)]
                go_simp
                (go_at_call 62; (with_reducible refine (HI5.out _).mono ?_); rintro e y4 ⟨rfl, hb_y4⟩)
                go_wp2_with fail
                have z6 := (z5).below hb_y4 (z5).lt
                refine hK.out _ _ (hHeld.trans (hb_y4.mono hHeld.size)) (fun hHeld => ?_)
                clear hK Kc
                (try simp only [Act.put, List.setIfInBounds_toArray, List.set_cons_zero, List.set_cons_succ, Array.toArray_toList, List.getElem_toArray, List.getElem_cons_succ, List.getElem_cons_zero])
                refine wpAnyH_ready (rs := [17]) (by kernel_rfl) (by simp) ?_
                refine AllReadyH.cons rfl (fun Kc hK => ?_) (AllReadyH.nil)
                · rw [if_pos (by rfl)]
                  go_simp
                  (go_at_call 63; (with_reducible refine (HI6.out _).mono ?_); rintro e y5 ⟨rfl, hb_y5⟩)
                  go_wp2_with fail
                  have z7 := (z6).below hb_y5 (z6).lt
                  refine hK.out _ _ (hHeld.trans (hb_y5.mono hHeld.size)) (fun hHeld => ?_)
                  clear hK Kc
                  (try simp only [Act.put, List.setIfInBounds_toArray, List.set_cons_zero, List.set_cons_succ, Array.toArray_toList, List.getElem_toArray, List.getElem_cons_succ, List.getElem_cons_zero])
                  refine wpAnyH_ready (rs := [20]) (by kernel_rfl) (by simp) ?_
                  refine AllReadyH.cons rfl (fun Kc hK => ?_) (AllReadyH.nil)
                  · rw [if_pos (by rfl)]
                    go_simp
                    (go_at_call 62; (with_reducible refine (HI7.out _).mono ?_); rintro e y6 ⟨rfl, hb_y6⟩)
                    go_wp2_with fail
                    have z8 := (z7).below hb_y6 (z7).lt
                    refine hK.out _ _ (hHeld.trans (hb_y6.mono hHeld.size)) (fun hHeld => ?_)
                    clear hK Kc
                    (try simp only [Act.put, List.setIfInBounds_toArray, List.set_cons_zero, List.set_cons_succ, Array.toArray_toList, List.getElem_toArray, List.getElem_cons_succ, List.getElem_cons_zero])
                    refine wpAnyH_ready (rs := [23]) (by kernel_rfl) (by simp) ?_
                    refine AllReadyH.cons rfl (fun Kc hK => ?_) (AllReadyH.nil)
                    · rw [if_pos (by rfl)]
                      go_simp
                      (go_at_call 63; (with_reducible refine (HI8.out _).mono ?_); rintro e y7 ⟨rfl, hb_y7⟩)
                      go_wp2_with fail
                      have z9 := (z8).below hb_y7 (z8).lt
                      refine hK.out _ _ (hHeld.trans (hb_y7.mono hHeld.size)) (fun hHeld => ?_)
                      clear hK Kc
                      (try simp only [Act.put, List.setIfInBounds_toArray, List.set_cons_zero, List.set_cons_succ, Array.toArray_toList, List.getElem_toArray, List.getElem_cons_succ, List.getElem_cons_zero])
                      refine wpAnyH_ready (rs := [26]) (by kernel_rfl) (by simp) ?_
                      refine AllReadyH.cons rfl (fun Kc hK => ?_) (AllReadyH.nil)
                      · rw [if_pos (by rfl)]
                        go_simp
                        (go_at_call 62; (with_reducible refine (HI9.out _).mono ?_); rintro e y8 ⟨rfl, hb_y8⟩)
                        go_wp2_with fail
                        have z10 := (z9).below hb_y8 (z9).lt
                        refine hK.out _ _ (hHeld.trans (hb_y8.mono hHeld.size)) (fun hHeld => ?_)
                        clear hK Kc
                        (try simp only [Act.put, List.setIfInBounds_toArray, List.set_cons_zero, List.set_cons_succ, Array.toArray_toList, List.getElem_toArray, List.getElem_cons_succ, List.getElem_cons_zero])
                        refine wpAnyH_ready (rs := [29]) (by kernel_rfl) (by simp) ?_
                        refine AllReadyH.cons rfl (fun Kc hK => ?_) (AllReadyH.nil)
                        · rw [if_pos (by rfl)]
                          go_simp
                          (go_at_call 62; (with_reducible refine (HI10.out _).mono ?_); rintro e y9 ⟨rfl, hb_y9⟩)
                          go_wp2_with fail
                          have z11 := (z10).below hb_y9 (z10).lt
                          refine hK.out _ _ (hHeld.trans (hb_y9.mono hHeld.size)) (fun hHeld => ?_)
                          clear hK Kc
                          (try simp only [Act.put, List.setIfInBounds_toArray, List.set_cons_zero, List.set_cons_succ, Array.toArray_toList, List.getElem_toArray, List.getElem_cons_succ, List.getElem_cons_zero])
                          refine wpAnyH_ready (rs := [32]) (by kernel_rfl) (by simp) ?_
                          refine AllReadyH.cons rfl (fun Kc hK => ?_) (AllReadyH.nil)
                          · rw [if_pos (by rfl)]
                            go_simp
                            (go_at_call 62; (with_reducible refine (HI11.out _).mono ?_); rintro e y10 ⟨rfl, hb_y10⟩)
                            go_wp2_with fail
                            have z12 := (z11).below hb_y10 (z11).lt
                            refine hK.out _ _ (hHeld.trans (hb_y10.mono hHeld.size)) (fun hHeld => ?_)
                            clear hK Kc
                            (try simp only [Act.put, List.setIfInBounds_toArray, List.set_cons_zero, List.set_cons_succ, Array.toArray_toList, List.getElem_toArray, List.getElem_cons_succ, List.getElem_cons_zero])
                            refine wpAnyH_ready (rs := [37]) (by kernel_rfl) (by simp) ?_
                            refine AllReadyH.cons rfl (fun Kc hK => ?_) (AllReadyH.nil)
                            · rw [if_pos (by rfl)]
                              go_simp
                              (go_at_call 62; (with_reducible refine (HI12.out _).mono ?_); rintro e y11 ⟨rfl, hb_y11⟩)
                              go_wp2_with fail
                              have z13 := (z12).below hb_y11 (z12).lt
                              refine hK.out _ _ (hHeld.trans (hb_y11.mono hHeld.size)) (fun hHeld => ?_)
                              clear hK Kc
                              (try simp only [Act.put, List.setIfInBounds_toArray, List.set_cons_zero, List.set_cons_succ, Array.toArray_toList, List.getElem_toArray, List.getElem_cons_succ, List.getElem_cons_zero])
                              (refine wpAnyH_take (i := 38) (v := .agg (okC P)) rfl (by kernel_rfl) (by kernel_rfl) (by kernel_rfl) (fun _ _ _ h => h) (Or.inl ⟨by rfl, fun w _ => (by go_simp; rfl)⟩) (by assumption) ?_; (try simp only [Act.put, List.setIfInBounds_toArray, List.set_cons_zero, List.set_cons_succ, Array.toArray_toList, List.getElem_toArray, List.getElem_cons_succ, List.getElem_cons_zero]))
                              refine wpAnyH_ready (rs := [40]) (by kernel_rfl) (by simp) ?_
                              refine AllReadyH.cons rfl (fun Kc hK => ?_) (AllReadyH.nil)
                              · rw [if_pos (by rfl)]
                                refine wp_store_mid 89 _ _ rfl (y2.heap.size) 0 (okC P) rfl rfl (z13).there size61 (okC_one P) ?_
                                have z14 := (z13).put (ds := (okC P)) rfl
                                refine hK.out _ _ (below_setCells hg4 _ _ _ hHeld) (fun hHeld => ?_)
                                clear hK Kc
                                (try simp only [Act.put, List.setIfInBounds_toArray, List.set_cons_zero, List.set_cons_succ, Array.toArray_toList, List.getElem_toArray, List.getElem_cons_succ, List.getElem_cons_zero])
                                refine wpAnyH_done (by kernel_rfl) ?_ _
                                go_wp2_with fail
                                go_meet
                                exact ⟨_, rfl, hHeld, z14⟩
        · rw [if_pos (by rfl)]
          go_simp
          have z3 := RBlk.new (y1) Z12 89
          have hg3 := hHeld.size
          refine hK.out _ _ (hHeld.alloc hHeld.size _) (fun hHeld => ?_)
          clear hK Kc
          (try simp only [Act.put, List.setIfInBounds_toArray, List.set_cons_zero, List.set_cons_succ, Array.toArray_toList, List.getElem_toArray, List.getElem_cons_succ, List.getElem_cons_zero])
          refine wpAnyH_ready (rs := [8]) (by kernel_rfl) (by simp) ?_
          refine AllReadyH.cons rfl (fun Kc hK => ?_) (AllReadyH.nil)
          · rw [if_pos (by rfl)]
            go_simp
            (go_at_call 62; (with_reducible refine (HI3.out _).mono ?_); rintro e y2 ⟨rfl, hb_y2⟩)
            go_wp2_with fail
            have z4 := (z3).below hb_y2 (z3).lt
            refine hK.out _ _ (hHeld.trans (hb_y2.mono hHeld.size)) (fun hHeld => ?_)
            clear hK Kc
            (try simp only [Act.put, List.setIfInBounds_toArray, List.set_cons_zero, List.set_cons_succ, Array.toArray_toList, List.getElem_toArray, List.getElem_cons_succ, List.getElem_cons_zero])
            refine wpAnyH_ready (rs := [11]) (by kernel_rfl) (by simp) ?_
            refine AllReadyH.cons rfl (fun Kc hK => ?_) (AllReadyH.nil)
            · rw [if_pos (by rfl)]
              go_simp
              (go_at_call 63; (with_reducible refine (HI4.out _).mono ?_); rintro e y3 ⟨rfl, hb_y3⟩)
              go_wp2_with fail
              have z5 := (z4).below hb_y3 (z4).lt
              refine hK.out _ _ (hHeld.trans (hb_y3.mono hHeld.size)) (fun hHeld => ?_)
              clear hK Kc
              (try simp only [Act.put, List.setIfInBounds_toArray, List.set_cons_zero, List.set_cons_succ, Array.toArray_toList, List.getElem_toArray, List.getElem_cons_succ, List.getElem_cons_zero])
              refine wpAnyH_ready (rs := [14]) (by kernel_rfl) (by simp) ?_
              refine AllReadyH.cons rfl (fun Kc hK => ?_) (AllReadyH.nil)
              · rw [if_pos (by rfl)]
                go_simp
                (go_at_call 62; (with_reducible refine (HI5.out _).mono ?_); rintro e y4 ⟨rfl, hb_y4⟩)
                go_wp2_with fail
                have z6 := (z5).below hb_y4 (z5).lt
                refine hK.out _ _ (hHeld.trans (hb_y4.mono hHeld.size)) (fun hHeld => ?_)
                clear hK Kc
                (try simp only [Act.put, List.setIfInBounds_toArray, List.set_cons_zero, List.set_cons_succ, Array.toArray_toList, List.getElem_toArray, List.getElem_cons_succ, List.getElem_cons_zero])
                refine wpAnyH_ready (rs := [17]) (by kernel_rfl) (by simp) ?_
                refine AllReadyH.cons rfl (fun Kc hK => ?_) (AllReadyH.nil)
                · rw [if_pos (by rfl)]
                  go_simp
                  (go_at_call 63; (with_reducible refine (HI6.out _).mono ?_); rintro e y5 ⟨rfl, hb_y5⟩)
                  go_wp2_with fail
                  have z7 := (z6).below hb_y5 (z6).lt
                  refine hK.out _ _ (hHeld.trans (hb_y5.mono hHeld.size)) (fun hHeld => ?_)
                  clear hK Kc
                  (try simp only [Act.put, List.setIfInBounds_toArray, List.set_cons_zero, List.set_cons_succ, Array.toArray_toList, List.getElem_toArray, List.getElem_cons_succ, List.getElem_cons_zero])
                  refine wpAnyH_ready (rs := [20]) (by kernel_rfl) (by simp) ?_
                  refine AllReadyH.cons rfl (fun Kc hK => ?_) (AllReadyH.nil)
                  · rw [if_pos (by rfl)]
                    go_simp
                    (go_at_call 62; (with_reducible refine (HI7.out _).mono ?_); rintro e y6 ⟨rfl, hb_y6⟩)
                    go_wp2_with fail
                    have z8 := (z7).below hb_y6 (z7).lt
                    refine hK.out _ _ (hHeld.trans (hb_y6.mono hHeld.size)) (fun hHeld => ?_)
                    clear hK Kc
                    (try simp only [Act.put, List.setIfInBounds_toArray, List.set_cons_zero, List.set_cons_succ, Array.toArray_toList, List.getElem_toArray, List.getElem_cons_succ, List.getElem_cons_zero])
                    refine wpAnyH_ready (rs := [23]) (by kernel_rfl) (by simp) ?_
                    refine AllReadyH.cons rfl (fun Kc hK => ?_) (AllReadyH.nil)
                    · rw [if_pos (by rfl)]
                      go_simp
                      (go_at_call 63; (with_reducible refine (HI8.out _).mono ?_); rintro e y7 ⟨rfl, hb_y7⟩)
                      go_wp2_with fail
                      have z9 := (z8).below hb_y7 (z8).lt
                      refine hK.out _ _ (hHeld.trans (hb_y7.mono hHeld.size)) (fun hHeld => ?_)
                      clear hK Kc
                      (try simp only [Act.put, List.setIfInBounds_toArray, List.set_cons_zero, List.set_cons_succ, Array.toArray_toList, List.getElem_toArray, List.getElem_cons_succ, List.getElem_cons_zero])
                      refine wpAnyH_ready (rs := [26]) (by kernel_rfl) (by simp) ?_
                      refine AllReadyH.cons rfl (fun Kc hK => ?_) (AllReadyH.nil)
                      · rw [if_pos (by rfl)]
                        go_simp
                        (go_at_call 62; (with_reducible refine (HI9.out _).mono ?_); rintro e y8 ⟨rfl, hb_y8⟩)
                        go_wp2_with fail
                        have z10 := (z9).below hb_y8 (z9).lt
                        refine hK.out _ _ (hHeld.trans (hb_y8.mono hHeld.size)) (fun hHeld => ?_)
                        clear hK Kc
                        (try simp only [Act.put, List.setIfInBounds_toArray, List.set_cons_zero, List.set_cons_succ, Array.toArray_toList, List.getElem_toArray, List.getElem_cons_succ, List.getElem_cons_zero])
                        refine wpAnyH_ready (rs := [29]) (by kernel_rfl) (by simp) ?_
                        refine AllReadyH.cons rfl (fun Kc hK => ?_) (AllReadyH.nil)
                        · rw [if_pos (by rfl)]
                          go_simp
                          (go_at_call 62; (with_reducible refine (HI10.out _).mono ?_); rintro e y9 ⟨rfl, hb_y9⟩)
                          go_wp2_with fail
                          have z11 := (z10).below hb_y9 (z10).lt
                          refine hK.out _ _ (hHeld.trans (hb_y9.mono hHeld.size)) (fun hHeld => ?_)
                          clear hK Kc
                          (try simp only [Act.put, List.setIfInBounds_toArray, List.set_cons_zero, List.set_cons_succ, Array.toArray_toList, List.getElem_toArray, List.getElem_cons_succ, List.getElem_cons_zero])
                          refine wpAnyH_ready (rs := [32]) (by kernel_rfl) (by simp) ?_
                          refine AllReadyH.cons rfl (fun Kc hK => ?_) (AllReadyH.nil)
                          · rw [if_pos (by rfl)]
                            go_simp
                            (go_at_call 62; (with_reducible refine (HI11.out _).mono ?_); rintro e y10 ⟨rfl, hb_y10⟩)
                            go_wp2_with fail
                            have z12 := (z11).below hb_y10 (z11).lt
                            refine hK.out _ _ (hHeld.trans (hb_y10.mono hHeld.size)) (fun hHeld => ?_)
                            clear hK Kc
                            (try simp only [Act.put, List.setIfInBounds_toArray, List.set_cons_zero, List.set_cons_succ, Array.toArray_toList, List.getElem_toArray, List.getElem_cons_succ, List.getElem_cons_zero])
                            refine wpAnyH_ready (rs := [37]) (by kernel_rfl) (by simp) ?_
                            refine AllReadyH.cons rfl (fun Kc hK => ?_) (AllReadyH.nil)
                            · rw [if_pos (by rfl)]
                              go_simp
                              (go_at_call 62; (with_reducible refine (HI12.out _).mono ?_); rintro e y11 ⟨rfl, hb_y11⟩)
                              go_wp2_with fail
                              have z13 := (z12).below hb_y11 (z12).lt
                              refine hK.out _ _ (hHeld.trans (hb_y11.mono hHeld.size)) (fun hHeld => ?_)
                              clear hK Kc
                              (try simp only [Act.put, List.setIfInBounds_toArray, List.set_cons_zero, List.set_cons_succ, Array.toArray_toList, List.getElem_toArray, List.getElem_cons_succ, List.getElem_cons_zero])
                              (refine wpAnyH_take (i := 38) (v := .agg (okC P)) rfl (by kernel_rfl) (by kernel_rfl) (by kernel_rfl) (fun _ _ _ h => h) (Or.inl ⟨by rfl, fun w _ => (by go_simp; rfl)⟩) (by assumption) ?_; (try simp only [Act.put, List.setIfInBounds_toArray, List.set_cons_zero, List.set_cons_succ, Array.toArray_toList, List.getElem_toArray, List.getElem_cons_succ, List.getElem_cons_zero]))
                              refine wpAnyH_ready (rs := [40]) (by kernel_rfl) (by simp) ?_
                              refine AllReadyH.cons rfl (fun Kc hK => ?_) (AllReadyH.nil)
                              · rw [if_pos (by rfl)]
                                refine wp_store_mid 89 _ _ rfl (y1.heap.size) 0 (okC P) rfl rfl (z13).there size61 (okC_one P) ?_
                                have z14 := (z13).put (ds := (okC P)) rfl
                                refine hK.out _ _ (below_setCells hg3 _ _ _ hHeld) (fun hHeld => ?_)
                                clear hK Kc
                                (try simp only [Act.put, List.setIfInBounds_toArray, List.set_cons_zero, List.set_cons_succ, Array.toArray_toList, List.getElem_toArray, List.getElem_cons_succ, List.getElem_cons_zero])
                                refine wpAnyH_done (by kernel_rfl) ?_ _
                                go_wp2_with fail
                                go_meet
                                exact ⟨_, rfl, hHeld, z14⟩
      · rw [if_pos (by rfl)]
        go_simp
        have z2 := RBlk.new (y0) Z12 89
        have hg2 := hHeld.size
        refine hK.out _ _ (hHeld.alloc hHeld.size _) (fun hHeld => ?_)
        clear hK Kc
        (try simp only [Act.put, List.setIfInBounds_toArray, List.set_cons_zero, List.set_cons_succ, Array.toArray_toList, List.getElem_toArray, List.getElem_cons_succ, List.getElem_cons_zero])
        refine wpAnyH_ready (rs := [5]) (by kernel_rfl) (by simp) ?_
        refine AllReadyH.cons rfl (fun Kc hK => ?_) (AllReadyH.nil)
        · rw [if_pos (by rfl)]
          go_simp
          (go_at_call 62; (with_reducible refine (HI2.out _).mono ?_); rintro e y1 ⟨rfl, hb_y1⟩)
          go_wp2_with fail
          have z3 := (z2).below hb_y1 (z2).lt
          refine hK.out _ _ (hHeld.trans (hb_y1.mono hHeld.size)) (fun hHeld => ?_)
          clear hK Kc
          (try simp only [Act.put, List.setIfInBounds_toArray, List.set_cons_zero, List.set_cons_succ, Array.toArray_toList, List.getElem_toArray, List.getElem_cons_succ, List.getElem_cons_zero])
          refine wpAnyH_ready (rs := [8]) (by kernel_rfl) (by simp) ?_
          refine AllReadyH.cons rfl (fun Kc hK => ?_) (AllReadyH.nil)
          · rw [if_pos (by rfl)]
            go_simp
            (go_at_call 62; (with_reducible refine (HI3.out _).mono ?_); rintro e y2 ⟨rfl, hb_y2⟩)
            go_wp2_with fail
            have z4 := (z3).below hb_y2 (z3).lt
            refine hK.out _ _ (hHeld.trans (hb_y2.mono hHeld.size)) (fun hHeld => ?_)
            clear hK Kc
            (try simp only [Act.put, List.setIfInBounds_toArray, List.set_cons_zero, List.set_cons_succ, Array.toArray_toList, List.getElem_toArray, List.getElem_cons_succ, List.getElem_cons_zero])
            refine wpAnyH_ready (rs := [11]) (by kernel_rfl) (by simp) ?_
            refine AllReadyH.cons rfl (fun Kc hK => ?_) (AllReadyH.nil)
            · rw [if_pos (by rfl)]
              go_simp
              (go_at_call 63; (with_reducible refine (HI4.out _).mono ?_); rintro e y3 ⟨rfl, hb_y3⟩)
              go_wp2_with fail
              have z5 := (z4).below hb_y3 (z4).lt
              refine hK.out _ _ (hHeld.trans (hb_y3.mono hHeld.size)) (fun hHeld => ?_)
              clear hK Kc
              (try simp only [Act.put, List.setIfInBounds_toArray, List.set_cons_zero, List.set_cons_succ, Array.toArray_toList, List.getElem_toArray, List.getElem_cons_succ, List.getElem_cons_zero])
              refine wpAnyH_ready (rs := [14]) (by kernel_rfl) (by simp) ?_
              refine AllReadyH.cons rfl (fun Kc hK => ?_) (AllReadyH.nil)
              · rw [if_pos (by rfl)]
                go_simp
                (go_at_call 62; (with_reducible refine (HI5.out _).mono ?_); rintro e y4 ⟨rfl, hb_y4⟩)
                go_wp2_with fail
                have z6 := (z5).below hb_y4 (z5).lt
                refine hK.out _ _ (hHeld.trans (hb_y4.mono hHeld.size)) (fun hHeld => ?_)
                clear hK Kc
                (try simp only [Act.put, List.setIfInBounds_toArray, List.set_cons_zero, List.set_cons_succ, Array.toArray_toList, List.getElem_toArray, List.getElem_cons_succ, List.getElem_cons_zero])
                refine wpAnyH_ready (rs := [17]) (by kernel_rfl) (by simp) ?_
                refine AllReadyH.cons rfl (fun Kc hK => ?_) (AllReadyH.nil)
                · rw [if_pos (by rfl)]
                  go_simp
                  (go_at_call 63; (with_reducible refine (HI6.out _).mono ?_); rintro e y5 ⟨rfl, hb_y5⟩)
                  go_wp2_with fail
                  have z7 := (z6).below hb_y5 (z6).lt
                  refine hK.out _ _ (hHeld.trans (hb_y5.mono hHeld.size)) (fun hHeld => ?_)
                  clear hK Kc
                  (try simp only [Act.put, List.setIfInBounds_toArray, List.set_cons_zero, List.set_cons_succ, Array.toArray_toList, List.getElem_toArray, List.getElem_cons_succ, List.getElem_cons_zero])
                  refine wpAnyH_ready (rs := [20]) (by kernel_rfl) (by simp) ?_
                  refine AllReadyH.cons rfl (fun Kc hK => ?_) (AllReadyH.nil)
                  · rw [if_pos (by rfl)]
                    go_simp
                    (go_at_call 62; (with_reducible refine (HI7.out _).mono ?_); rintro e y6 ⟨rfl, hb_y6⟩)
                    go_wp2_with fail
                    have z8 := (z7).below hb_y6 (z7).lt
                    refine hK.out _ _ (hHeld.trans (hb_y6.mono hHeld.size)) (fun hHeld => ?_)
                    clear hK Kc
                    (try simp only [Act.put, List.setIfInBounds_toArray, List.set_cons_zero, List.set_cons_succ, Array.toArray_toList, List.getElem_toArray, List.getElem_cons_succ, List.getElem_cons_zero])
                    refine wpAnyH_ready (rs := [23]) (by kernel_rfl) (by simp) ?_
                    refine AllReadyH.cons rfl (fun Kc hK => ?_) (AllReadyH.nil)
                    · rw [if_pos (by rfl)]
                      go_simp
                      (go_at_call 63; (with_reducible refine (HI8.out _).mono ?_); rintro e y7 ⟨rfl, hb_y7⟩)
                      go_wp2_with fail
                      have z9 := (z8).below hb_y7 (z8).lt
                      refine hK.out _ _ (hHeld.trans (hb_y7.mono hHeld.size)) (fun hHeld => ?_)
                      clear hK Kc
                      (try simp only [Act.put, List.setIfInBounds_toArray, List.set_cons_zero, List.set_cons_succ, Array.toArray_toList, List.getElem_toArray, List.getElem_cons_succ, List.getElem_cons_zero])
                      refine wpAnyH_ready (rs := [26]) (by kernel_rfl) (by simp) ?_
                      refine AllReadyH.cons rfl (fun Kc hK => ?_) (AllReadyH.nil)
                      · rw [if_pos (by rfl)]
                        go_simp
                        (go_at_call 62; (with_reducible refine (HI9.out _).mono ?_); rintro e y8 ⟨rfl, hb_y8⟩)
                        go_wp2_with fail
                        have z10 := (z9).below hb_y8 (z9).lt
                        refine hK.out _ _ (hHeld.trans (hb_y8.mono hHeld.size)) (fun hHeld => ?_)
                        clear hK Kc
                        (try simp only [Act.put, List.setIfInBounds_toArray, List.set_cons_zero, List.set_cons_succ, Array.toArray_toList, List.getElem_toArray, List.getElem_cons_succ, List.getElem_cons_zero])
                        refine wpAnyH_ready (rs := [29]) (by kernel_rfl) (by simp) ?_
                        refine AllReadyH.cons rfl (fun Kc hK => ?_) (AllReadyH.nil)
                        · rw [if_pos (by rfl)]
                          go_simp
                          (go_at_call 62; (with_reducible refine (HI10.out _).mono ?_); rintro e y9 ⟨rfl, hb_y9⟩)
                          go_wp2_with fail
                          have z11 := (z10).below hb_y9 (z10).lt
                          refine hK.out _ _ (hHeld.trans (hb_y9.mono hHeld.size)) (fun hHeld => ?_)
                          clear hK Kc
                          (try simp only [Act.put, List.setIfInBounds_toArray, List.set_cons_zero, List.set_cons_succ, Array.toArray_toList, List.getElem_toArray, List.getElem_cons_succ, List.getElem_cons_zero])
                          refine wpAnyH_ready (rs := [32]) (by kernel_rfl) (by simp) ?_
                          refine AllReadyH.cons rfl (fun Kc hK => ?_) (AllReadyH.nil)
                          · rw [if_pos (by rfl)]
                            go_simp
                            (go_at_call 62; (with_reducible refine (HI11.out _).mono ?_); rintro e y10 ⟨rfl, hb_y10⟩)
                            go_wp2_with fail
                            have z12 := (z11).below hb_y10 (z11).lt
                            refine hK.out _ _ (hHeld.trans (hb_y10.mono hHeld.size)) (fun hHeld => ?_)
                            clear hK Kc
                            (try simp only [Act.put, List.setIfInBounds_toArray, List.set_cons_zero, List.set_cons_succ, Array.toArray_toList, List.getElem_toArray, List.getElem_cons_succ, List.getElem_cons_zero])
                            refine wpAnyH_ready (rs := [37]) (by kernel_rfl) (by simp) ?_
                            refine AllReadyH.cons rfl (fun Kc hK => ?_) (AllReadyH.nil)
                            · rw [if_pos (by rfl)]
                              go_simp
                              (go_at_call 62; (with_reducible refine (HI12.out _).mono ?_); rintro e y11 ⟨rfl, hb_y11⟩)
                              go_wp2_with fail
                              have z13 := (z12).below hb_y11 (z12).lt
                              refine hK.out _ _ (hHeld.trans (hb_y11.mono hHeld.size)) (fun hHeld => ?_)
                              clear hK Kc
                              (try simp only [Act.put, List.setIfInBounds_toArray, List.set_cons_zero, List.set_cons_succ, Array.toArray_toList, List.getElem_toArray, List.getElem_cons_succ, List.getElem_cons_zero])
                              (refine wpAnyH_take (i := 38) (v := .agg (okC P)) rfl (by kernel_rfl) (by kernel_rfl) (by kernel_rfl) (fun _ _ _ h => h) (Or.inl ⟨by rfl, fun w _ => (by go_simp; rfl)⟩) (by assumption) ?_; (try simp only [Act.put, List.setIfInBounds_toArray, List.set_cons_zero, List.set_cons_succ, Array.toArray_toList, List.getElem_toArray, List.getElem_cons_succ, List.getElem_cons_zero]))
                              refine wpAnyH_ready (rs := [40]) (by kernel_rfl) (by simp) ?_
                              refine AllReadyH.cons rfl (fun Kc hK => ?_) (AllReadyH.nil)
                              · rw [if_pos (by rfl)]
                                refine wp_store_mid 89 _ _ rfl (y0.heap.size) 0 (okC P) rfl rfl (z13).there size61 (okC_one P) ?_
                                have z14 := (z13).put (ds := (okC P)) rfl
                                refine hK.out _ _ (below_setCells hg2 _ _ _ hHeld) (fun hHeld => ?_)
                                clear hK Kc
                                (try simp only [Act.put, List.setIfInBounds_toArray, List.set_cons_zero, List.set_cons_succ, Array.toArray_toList, List.getElem_toArray, List.getElem_cons_succ, List.getElem_cons_zero])
                                refine wpAnyH_done (by kernel_rfl) ?_ _
                                go_wp2_with fail
                                go_meet
                                exact ⟨_, rfl, hHeld, z14⟩
    · rw [if_pos (by rfl)]
      go_simp
      have z1 := RBlk.new (w0.drew) Z12 89
      have hg1 := hHeld.size
      refine hK.out _ _ (hHeld.alloc hHeld.size _) (fun hHeld => ?_)
      clear hK Kc
      (try simp only [Act.put, List.setIfInBounds_toArray, List.set_cons_zero, List.set_cons_succ, Array.toArray_toList, List.getElem_toArray, List.getElem_cons_succ, List.getElem_cons_zero])
      refine wpAnyH_ready (rs := [2]) (by kernel_rfl) (by simp) ?_
      refine AllReadyH.cons rfl (fun Kc hK => ?_) (AllReadyH.nil)
      · rw [if_pos (by rfl)]
        go_simp
        (go_at_call 62; (with_reducible refine (HI1.out _).mono ?_); rintro e y0 ⟨rfl, hb_y0⟩)
        go_wp2_with fail
        have z2 := (z1).below hb_y0 (z1).lt
        refine hK.out _ _ (hHeld.trans (hb_y0.mono hHeld.size)) (fun hHeld => ?_)
        clear hK Kc
        (try simp only [Act.put, List.setIfInBounds_toArray, List.set_cons_zero, List.set_cons_succ, Array.toArray_toList, List.getElem_toArray, List.getElem_cons_succ, List.getElem_cons_zero])
        refine wpAnyH_ready (rs := [5]) (by kernel_rfl) (by simp) ?_
        refine AllReadyH.cons rfl (fun Kc hK => ?_) (AllReadyH.nil)
        · rw [if_pos (by rfl)]
          go_simp
          (go_at_call 62; (with_reducible refine (HI2.out _).mono ?_); rintro e y1 ⟨rfl, hb_y1⟩)
          go_wp2_with fail
          have z3 := (z2).below hb_y1 (z2).lt
          refine hK.out _ _ (hHeld.trans (hb_y1.mono hHeld.size)) (fun hHeld => ?_)
          clear hK Kc
          (try simp only [Act.put, List.setIfInBounds_toArray, List.set_cons_zero, List.set_cons_succ, Array.toArray_toList, List.getElem_toArray, List.getElem_cons_succ, List.getElem_cons_zero])
          refine wpAnyH_ready (rs := [8]) (by kernel_rfl) (by simp) ?_
          refine AllReadyH.cons rfl (fun Kc hK => ?_) (AllReadyH.nil)
          · rw [if_pos (by rfl)]
            go_simp
            (go_at_call 62; (with_reducible refine (HI3.out _).mono ?_); rintro e y2 ⟨rfl, hb_y2⟩)
            go_wp2_with fail
            have z4 := (z3).below hb_y2 (z3).lt
            refine hK.out _ _ (hHeld.trans (hb_y2.mono hHeld.size)) (fun hHeld => ?_)
            clear hK Kc
            (try simp only [Act.put, List.setIfInBounds_toArray, List.set_cons_zero, List.set_cons_succ, Array.toArray_toList, List.getElem_toArray, List.getElem_cons_succ, List.getElem_cons_zero])
            refine wpAnyH_ready (rs := [11]) (by kernel_rfl) (by simp) ?_
            refine AllReadyH.cons rfl (fun Kc hK => ?_) (AllReadyH.nil)
            · rw [if_pos (by rfl)]
              go_simp
              (go_at_call 63; (with_reducible refine (HI4.out _).mono ?_); rintro e y3 ⟨rfl, hb_y3⟩)
              go_wp2_with fail
              have z5 := (z4).below hb_y3 (z4).lt
              refine hK.out _ _ (hHeld.trans (hb_y3.mono hHeld.size)) (fun hHeld => ?_)
              clear hK Kc
              (try simp only [Act.put, List.setIfInBounds_toArray, List.set_cons_zero, List.set_cons_succ, Array.toArray_toList, List.getElem_toArray, List.getElem_cons_succ, List.getElem_cons_zero])
              refine wpAnyH_ready (rs := [14]) (by kernel_rfl) (by simp) ?_
              refine AllReadyH.cons rfl (fun Kc hK => ?_) (AllReadyH.nil)
              · rw [if_pos (by rfl)]
                go_simp
                (go_at_call 62; (with_reducible refine (HI5.out _).mono ?_); rintro e y4 ⟨rfl, hb_y4⟩)
                go_wp2_with fail
                have z6 := (z5).below hb_y4 (z5).lt
                refine hK.out _ _ (hHeld.trans (hb_y4.mono hHeld.size)) (fun hHeld => ?_)
                clear hK Kc
                (try simp only [Act.put, List.setIfInBounds_toArray, List.set_cons_zero, List.set_cons_succ, Array.toArray_toList, List.getElem_toArray, List.getElem_cons_succ, List.getElem_cons_zero])
                refine wpAnyH_ready (rs := [17]) (by kernel_rfl) (by simp) ?_
                refine AllReadyH.cons rfl (fun Kc hK => ?_) (AllReadyH.nil)
                · rw [if_pos (by rfl)]
                  go_simp
                  (go_at_call 63; (with_reducible refine (HI6.out _).mono ?_); rintro e y5 ⟨rfl, hb_y5⟩)
                  go_wp2_with fail
                  have z7 := (z6).below hb_y5 (z6).lt
                  refine hK.out _ _ (hHeld.trans (hb_y5.mono hHeld.size)) (fun hHeld => ?_)
                  clear hK Kc
                  (try simp only [Act.put, List.setIfInBounds_toArray, List.set_cons_zero, List.set_cons_succ, Array.toArray_toList, List.getElem_toArray, List.getElem_cons_succ, List.getElem_cons_zero])
                  refine wpAnyH_ready (rs := [20]) (by kernel_rfl) (by simp) ?_
                  refine AllReadyH.cons rfl (fun Kc hK => ?_) (AllReadyH.nil)
                  · rw [if_pos (by rfl)]
                    go_simp
                    (go_at_call 62; (with_reducible refine (HI7.out _).mono ?_); rintro e y6 ⟨rfl, hb_y6⟩)
                    go_wp2_with fail
                    have z8 := (z7).below hb_y6 (z7).lt
                    refine hK.out _ _ (hHeld.trans (hb_y6.mono hHeld.size)) (fun hHeld => ?_)
                    clear hK Kc
                    (try simp only [Act.put, List.setIfInBounds_toArray, List.set_cons_zero, List.set_cons_succ, Array.toArray_toList, List.getElem_toArray, List.getElem_cons_succ, List.getElem_cons_zero])
                    refine wpAnyH_ready (rs := [23]) (by kernel_rfl) (by simp) ?_
                    refine AllReadyH.cons rfl (fun Kc hK => ?_) (AllReadyH.nil)
                    · rw [if_pos (by rfl)]
                      go_simp
                      (go_at_call 63; (with_reducible refine (HI8.out _).mono ?_); rintro e y7 ⟨rfl, hb_y7⟩)
                      go_wp2_with fail
                      have z9 := (z8).below hb_y7 (z8).lt
                      refine hK.out _ _ (hHeld.trans (hb_y7.mono hHeld.size)) (fun hHeld => ?_)
                      clear hK Kc
                      (try simp only [Act.put, List.setIfInBounds_toArray, List.set_cons_zero, List.set_cons_succ, Array.toArray_toList, List.getElem_toArray, List.getElem_cons_succ, List.getElem_cons_zero])
                      refine wpAnyH_ready (rs := [26]) (by kernel_rfl) (by simp) ?_
                      refine AllReadyH.cons rfl (fun Kc hK => ?_) (AllReadyH.nil)
                      · rw [if_pos (by rfl)]
                        go_simp
                        (go_at_call 62; (with_reducible refine (HI9.out _).mono ?_); rintro e y8 ⟨rfl, hb_y8⟩)
                        go_wp2_with fail
                        have z10 := (z9).below hb_y8 (z9).lt
                        refine hK.out _ _ (hHeld.trans (hb_y8.mono hHeld.size)) (fun hHeld => ?_)
                        clear hK Kc
                        (try simp only [Act.put, List.setIfInBounds_toArray, List.set_cons_zero, List.set_cons_succ, Array.toArray_toList, List.getElem_toArray, List.getElem_cons_succ, List.getElem_cons_zero])
                        refine wpAnyH_ready (rs := [29]) (by kernel_rfl) (by simp) ?_
                        refine AllReadyH.cons rfl (fun Kc hK => ?_) (AllReadyH.nil)
                        · rw [if_pos (by rfl)]
                          go_simp
                          (go_at_call 62; (with_reducible refine (HI10.out _).mono ?_); rintro e y9 ⟨rfl, hb_y9⟩)
                          go_wp2_with fail
                          have z11 := (z10).below hb_y9 (z10).lt
                          refine hK.out _ _ (hHeld.trans (hb_y9.mono hHeld.size)) (fun hHeld => ?_)
                          clear hK Kc
                          (try simp only [Act.put, List.setIfInBounds_toArray, List.set_cons_zero, List.set_cons_succ, Array.toArray_toList, List.getElem_toArray, List.getElem_cons_succ, List.getElem_cons_zero])
                          refine wpAnyH_ready (rs := [32]) (by kernel_rfl) (by simp) ?_
                          refine AllReadyH.cons rfl (fun Kc hK => ?_) (AllReadyH.nil)
                          · rw [if_pos (by rfl)]
                            go_simp
                            (go_at_call 62; (with_reducible refine (HI11.out _).mono ?_); rintro e y10 ⟨rfl, hb_y10⟩)
                            go_wp2_with fail
                            have z12 := (z11).below hb_y10 (z11).lt
                            refine hK.out _ _ (hHeld.trans (hb_y10.mono hHeld.size)) (fun hHeld => ?_)
                            clear hK Kc
                            (try simp only [Act.put, List.setIfInBounds_toArray, List.set_cons_zero, List.set_cons_succ, Array.toArray_toList, List.getElem_toArray, List.getElem_cons_succ, List.getElem_cons_zero])
                            refine wpAnyH_ready (rs := [37]) (by kernel_rfl) (by simp) ?_
                            refine AllReadyH.cons rfl (fun Kc hK => ?_) (AllReadyH.nil)
                            · rw [if_pos (by rfl)]
                              go_simp
                              (go_at_call 62; (with_reducible refine (HI12.out _).mono ?_); rintro e y11 ⟨rfl, hb_y11⟩)
                              go_wp2_with fail
                              have z13 := (z12).below hb_y11 (z12).lt
                              refine hK.out _ _ (hHeld.trans (hb_y11.mono hHeld.size)) (fun hHeld => ?_)
                              clear hK Kc
                              (try simp only [Act.put, List.setIfInBounds_toArray, List.set_cons_zero, List.set_cons_succ, Array.toArray_toList, List.getElem_toArray, List.getElem_cons_succ, List.getElem_cons_zero])
                              (refine wpAnyH_take (i := 38) (v := .agg (okC P)) rfl (by kernel_rfl) (by kernel_rfl) (by kernel_rfl) (fun _ _ _ h => h) (Or.inl ⟨by rfl, fun w _ => (by go_simp; rfl)⟩) (by assumption) ?_; (try simp only [Act.put, List.setIfInBounds_toArray, List.set_cons_zero, List.set_cons_succ, Array.toArray_toList, List.getElem_toArray, List.getElem_cons_succ, List.getElem_cons_zero]))
                              refine wpAnyH_ready (rs := [40]) (by kernel_rfl) (by simp) ?_
                              refine AllReadyH.cons rfl (fun Kc hK => ?_) (AllReadyH.nil)
                              · rw [if_pos (by rfl)]
                                refine wp_store_mid 89 _ _ rfl (w0.drew.heap.size) 0 (okC P) rfl rfl (z13).there size61 (okC_one P) ?_
                                have z14 := (z13).put (ds := (okC P)) rfl
                                refine hK.out _ _ (below_setCells hg1 _ _ _ hHeld) (fun hHeld => ?_)
                                clear hK Kc
                                (try simp only [Act.put, List.setIfInBounds_toArray, List.set_cons_zero, List.set_cons_succ, Array.toArray_toList, List.getElem_toArray, List.getElem_cons_succ, List.getElem_cons_zero])
                                refine wpAnyH_done (by kernel_rfl) ?_ _
                                go_wp2_with fail
                                go_meet
                                exact ⟨_, rfl, hHeld, z14⟩
  case rest =>
    obtain ⟨g, rfl, hb, hz⟩ := hcut
    have HZ := hide hz
    replace hB := hide (hB.out.trans (hb.mono hB.out.size))
    clear hb hz HP HI1 HI2 HI3 HI4 HI5 HI6 HI7 HI8 HI9 HI10 HI11 HI12
    go_wp2_with fail
    go_loop [4] (fun v4 => ∃ K : Nat, K ≤ 12 ∧ v4 = .int .i64 K ∧ Hid (fiGo P (12 - K) = fiV P)) (fun v4 => (12 - intOf v4).toNat)
    case atStart => exact ⟨0, by omega, rfl, hide rfl⟩
    case round =>
      obtain ⟨K, hK, rfl, HI⟩ := hrel
      rcases Nat.lt_or_ge K 12 with hlt | hge
      · have hc := (HZ.out.cell K).trans (okC_get P K hlt)
        have st := fi_step hlt HI.out
        have wk : IntKind.i64.wrap ((K : Int) + 1) = (K : Int) + 1 := by rw [IntKind.wrap_i64]; omega
        by_cases ho : okB P ((K : Int) + 1) = true
        · rw [if_pos ho] at st
          rw [ho] at hc
          have ST := hide st
          clear st ho
          go_wp2
          go_round
          case rel => exact ⟨K + 1, by omega, by go_num, ST⟩
          case measure => simp [intOf]; omega
        · rw [if_neg ho] at st
          rw [show okB P ((K : Int) + 1) = false by simpa using ho] at hc
          have ST := hide st
          clear st ho
          go_wp2
          go_ret
          exact ⟨ret_int ST.out.symm, hB.out⟩
      · obtain rfl : K = 12 := by omega
        have st : fiV P = 0 := HI.out.symm
        have ST := hide st
        clear st hge
        go_wp2
        go_ret
        exact ⟨ret_int ST.out.symm, hB.out⟩
set_option maxHeartbeats 4000000 in
theorem rvalid_c (P : Nat → Int) (hP : PW P) (w : World) :
    Calls Try.prog 33 #[.agg (pC P)] w fun e w' => e = .returned (.bool (fiV P == 0)) ∧ Below w.heap.size w w' := by
  have HF := hide (fun w => rfi_c P hP w)
  have HP := hide (PBlk.new w P)
  obtain ⟨F, hF⟩ : ∃ F, fiV P = F := ⟨_, rfl⟩
  rw [hF] at HF ⊢
  clear hF
  go_enter Try.func33, Try.ntmps33
  go_wp2_with (refine wpList_load_row26 (P := P) rfl (.tmp 1) rfl rfl HP.out ?_)
  refine (HF.out _).mono ?_
  rintro e w1 ⟨rfl, hb1⟩
  have hs1 := hb1.size
  try simp only [World.size_alloc, World.size_setCell, World.size_drew, size_drewN] at hs1
  go_wp2
  go_ret
  exact ⟨rfl, (by (repeat' (first | (with_reducible exact Below.refl _ _) | (with_reducible assumption) | (with_reducible refine Below.alloc ?_ ?_ _) | (with_reducible refine Below.drew ?_) | (with_reducible refine below_drewN ?_ _) | (with_reducible refine Below.setCell ?_ ?_ _) | (with_reducible refine below_step (by with_reducible assumption) ?_ ?_) | (first | (with_reducible exact Nat.le_refl _) | (with_reducible assumption) | omega | (simp only [World.size_alloc, World.size_setCell, World.size_drew, size_drewN]; omega) | (simp; omega) | (simp; done)))))⟩
end Go.Proofs.Ytkneiobohhhcpaa
