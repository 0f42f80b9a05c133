/- params, plain: what Set and Get answer one after the other. -/
import Derived.Test.YtkneiobohhhcpaaP0
namespace Go.Proofs.Ytkneiobohhhcpaa
set_option linter.unusedVariables false
theorem fiGo_zero {P : Nat → Int} : ∀ (m : Nat), m ≤ 12 → (fiGo P m = 0 ↔ ∀ j : Nat, j < m → okP P (12 - (j : Int)))
  | 0, _ => ⟨fun _ j hj => absurd hj (by omega), fun _ => rfl⟩
  | m + 1, hm => by
    have ih := fiGo_zero (P := P) m (by omega)
    rw [fiGo]
    by_cases h : okP P (12 - (m : Int))
    · rw [if_pos h, ih]
      constructor
      · intro hh j hj
        rcases Nat.lt_or_ge j m with h' | h'
        · exact hh j h'
        · obtain rfl : j = m := by omega
          exact h
      · exact fun hh j hj => hh j (by omega)
    · rw [if_neg h]
      constructor
      · intro hh; omega
      · intro hh; exact absurd (hh m (by omega)) h
theorem fi_zero {P : Nat → Int} : fiV P = 0 ↔ ∀ k : Int, 1 ≤ k → k ≤ 12 → okP P k := by
  rw [fiV, fiGo_zero 12 (Nat.le_refl _)]
  constructor
  · intro h k h1 h2
    have := h (12 - k).toNat (by omega)
    rwa [show (12 - ((12 - k).toNat : Int)) = k by omega] at this
  · intro h j hj
    exact h _ (by omega) (by omega)
theorem getL_congr {P Q : Nat → Int} {k : Int} (h : ∀ j, getL P k j = getL Q k j) : getN P k = getN Q k := by
  unfold getN
  rw [show getL P k = getL Q k from funext h]
theorem valL_small {n : Nat → Int} (h : ∀ j, 0 ≤ n j ∧ n j < 18446744073709551616) (hs : valL n < 18446744073709551616) : n 1 = 0 ∧ n 2 = 0 ∧ n 3 = 0 := by
  have h0 := h 0; have h1 := h 1; have h2 := h 2; have h3 := h 3
  unfold valL at hs
  omega
theorem get_same {P : Nat → Int} {k : Int} (h1 : 1 ≤ k) (h2 : k ≤ 12) {n : Nat → Int} (hs : f256 k = none → n 1 = 0 ∧ n 2 = 0 ∧ n 3 = 0) :
    getL (setP P k n) k 0 = n 0 ∧ getL (setP P k n) k 1 = n 1 ∧ getL (setP P k n) k 2 = n 2 ∧ getL (setP P k n) k 3 = n 3 := by
  obtain rfl | rfl | rfl | rfl | rfl | rfl | rfl | rfl | rfl | rfl | rfl | rfl : k = 1 ∨ k = 2 ∨ k = 3 ∨ k = 4 ∨ k = 5 ∨ k = 6 ∨ k = 7 ∨ k = 8 ∨ k = 9 ∨ k = 10 ∨ k = 11 ∨ k = 12 := by omega
  all_goals first
    | exact ⟨rfl, rfl, rfl, rfl⟩
    | (obtain ⟨a, b, c⟩ := hs rfl; exact ⟨rfl, a.symm, b.symm, c.symm⟩)
theorem get_other {P : Nat → Int} {k o : Int} (h1 : 1 ≤ k) (h2 : k ≤ 12) (o1 : 1 ≤ o) (o2 : o ≤ 12) (hne : o ≠ k) {n : Nat → Int} :
    getL (setP P k n) o 0 = getL P o 0 ∧ getL (setP P k n) o 1 = getL P o 1 ∧ getL (setP P k n) o 2 = getL P o 2 ∧ getL (setP P k n) o 3 = getL P o 3 := by
  obtain rfl | rfl | rfl | rfl | rfl | rfl | rfl | rfl | rfl | rfl | rfl | rfl : k = 1 ∨ k = 2 ∨ k = 3 ∨ k = 4 ∨ k = 5 ∨ k = 6 ∨ k = 7 ∨ k = 8 ∨ k = 9 ∨ k = 10 ∨ k = 11 ∨ k = 12 := by omega
  all_goals
    obtain rfl | rfl | rfl | rfl | rfl | rfl | rfl | rfl | rfl | rfl | rfl | rfl : o = 1 ∨ o = 2 ∨ o = 3 ∨ o = 4 ∨ o = 5 ∨ o = 6 ∨ o = 7 ∨ o = 8 ∨ o = 9 ∨ o = 10 ∨ o = 11 ∨ o = 12 := by omega
    all_goals first
      | exact absurd rfl hne
      | exact ⟨rfl, rfl, rfl, rfl⟩
theorem valL_congr {m n : Nat → Int} (h : m 0 = n 0 ∧ m 1 = n 1 ∧ m 2 = n 2 ∧ m 3 = n 3) : valL m = valL n := by
  unfold valL
  rw [h.1, h.2.1, h.2.2.1, h.2.2.2]
theorem getN_same {P : Nat → Int} {k : Int} (h1 : 1 ≤ k) (h2 : k ≤ 12) {n : Nat → Int} (hs : f256 k = none → n 1 = 0 ∧ n 2 = 0 ∧ n 3 = 0) : getN (setP P k n) k = valL n := valL_congr (get_same h1 h2 hs)
theorem getN_other {P : Nat → Int} {k o : Int} (h1 : 1 ≤ k) (h2 : k ≤ 12) (o1 : 1 ≤ o) (o2 : o ≤ 12) (hne : o ≠ k) {n : Nat → Int} : getN (setP P k n) o = getN P o := valL_congr (get_other h1 h2 o1 o2 hne)
theorem set19 {P : Nat → Int} {k : Int} (h1 : 1 ≤ k) (h2 : k ≤ 12) (h : k ≠ 11) {n : Nat → Int} : setP P k n 19 = P 19 := by
  obtain rfl | rfl | rfl | rfl | rfl | rfl | rfl | rfl | rfl | rfl | rfl | rfl : k = 1 ∨ k = 2 ∨ k = 3 ∨ k = 4 ∨ k = 5 ∨ k = 6 ∨ k = 7 ∨ k = 8 ∨ k = 9 ∨ k = 10 ∨ k = 11 ∨ k = 12 := by omega
  all_goals first
    | exact absurd rfl h
    | rfl
theorem bndL_set {P : Nat → Int} {k o : Int} (h1 : 1 ≤ k) (h2 : k ≤ 12) (h : ¬ (k = 11 ∧ o = 12)) {n : Nat → Int} : bndL (setP P k n) o = bndL P o := by
  by_cases h12 : o = 12
  · have := set19 (P := P) h1 h2 (by omega) (n := n)
    simp [bndL, h12, this]
  · simp [bndL, h12]
theorem ok_other {P : Nat → Int} {k o : Int} (h1 : 1 ≤ k) (h2 : k ≤ 12) (o1 : 1 ≤ o) (o2 : o ≤ 12) (hne : o ≠ k) (h : ¬ (k = 11 ∧ o = 12)) {n : Nat → Int} : okP (setP P k n) o ↔ okP P o := by
  rw [okP, okP, getN_other h1 h2 o1 o2 hne, bndL_set h1 h2 h]
/-- Set accepts a value exactly if it fits, is in its range, and a new least number of units does not exceed the greatest. -/
theorem set_zero {P : Nat → Int} {k : Int} (h1 : 1 ≤ k) (h2 : k ≤ 12) (hP : fiV P = 0) {n : Nat → Int} :
    setE P k n = 0 ↔ (f256 k = none → valL n < 18446744073709551616) ∧ okP (setP P k n) k ∧ (k = 11 → okP (setP P k n) 12) := by
  rw [setE, if_neg (fun h => h ⟨h1, h2⟩)]
  by_cases hf : f256 k = none ∧ ¬ valL n < 18446744073709551616
  · rw [if_pos (.inr hf)]
    constructor
    · intro h; omega
    · intro h; exact absurd (h.1 hf.1) hf.2
  · rw [if_neg (by intro h; rcases h with h | h; exact h hP; exact hf h)]
    have hff : f256 k = none → valL n < 18446744073709551616 := fun h => Classical.byContradiction fun h' => hf ⟨h, h'⟩
    by_cases hz : fiV (setP P k n) = 0
    · rw [if_neg (fun h => h hz)]
      have := fi_zero.1 hz
      exact ⟨fun _ => ⟨hff, this k h1 h2, fun _ => this 12 (by omega) (by omega)⟩, fun _ => rfl⟩
    · rw [if_pos hz]
      constructor
      · intro h; omega
      · rintro ⟨_, ha, hb⟩
        refine absurd (fi_zero.2 fun o o1 o2 => ?_) hz
        by_cases ho : o = k
        · rw [ho]; exact ha
        · by_cases h11 : k = 11 ∧ o = 12
          · rw [h11.2]; exact hb h11.1
          · exact (ok_other h1 h2 o1 o2 ho h11).2 (fi_zero.1 hP o o1 o2)
theorem set_valid {P : Nat → Int} {k : Int} {n : Nat → Int} (h : setE P k n = 0) : fiV (setP P k n) = 0 := by
  unfold setE at h
  split at h
  · omega
  · split at h
    · omega
    · split at h
      · omega
      · rename_i h'; exact Classical.byContradiction fun h'' => h' h''
theorem set_E {P : Nat → Int} {k : Int} (h1 : 1 ≤ k) (h2 : k ≤ 12) {n : Nat → Int} (h : setE P k n ≠ 0) : setE P k n = 15 := by
  unfold setE at h ⊢
  rw [if_neg (fun hh => hh ⟨h1, h2⟩)] at h ⊢
  repeat' split
  all_goals first
    | rfl
    | (rename_i a b; rw [if_neg a, if_neg b] at h; exact absurd rfl h)
/-- Two assignments in either order. -/
theorem set_comm {P : Nat → Int} {j k : Int} (hj1 : 1 ≤ j) (hj2 : j ≤ 12) (hk1 : 1 ≤ k) (hk2 : k ≤ 12) (hne : j ≠ k) {m n : Nat → Int} : setP (setP P j m) k n = setP (setP P k n) j m := by
  funext i
  obtain rfl | rfl | rfl | rfl | rfl | rfl | rfl | rfl | rfl | rfl | rfl | rfl : k = 1 ∨ k = 2 ∨ k = 3 ∨ k = 4 ∨ k = 5 ∨ k = 6 ∨ k = 7 ∨ k = 8 ∨ k = 9 ∨ k = 10 ∨ k = 11 ∨ k = 12 := by omega
  all_goals
    obtain rfl | rfl | rfl | rfl | rfl | rfl | rfl | rfl | rfl | rfl | rfl | rfl : j = 1 ∨ j = 2 ∨ j = 3 ∨ j = 4 ∨ j = 5 ∨ j = 6 ∨ j = 7 ∨ j = 8 ∨ j = 9 ∨ j = 10 ∨ j = 11 ∨ j = 12 := by omega
    all_goals first
      | exact absurd rfl hne
      | (simp only [setP, f64, f256]; simp only [Int.reduceEq, if_true, if_false]; (repeat' split) <;> first | rfl | omega)
theorem comm_E {P : Nat → Int} {j k : Int} (hj1 : 1 ≤ j) (hj2 : j ≤ 12) (hk1 : 1 ≤ k) (hk2 : k ≤ 12) (hne : j ≠ k) (hx : ¬ (j > 10 ∧ k > 10)) (hP : fiV P = 0) {m n : Nat → Int} (hm : setE P j m = 0) :
    (setE (setP P j m) k n = 0 ↔ setE P k n = 0) := by
  rw [set_zero hk1 hk2 (set_valid hm), set_zero hk1 hk2 hP, set_comm hj1 hj2 hk1 hk2 hne]
  have e1 := ok_other (P := setP P k n) hj1 hj2 hk1 hk2 (fun h => hne h.symm) (by omega) (n := m)
  have e2 : k = 11 → (okP (setP (setP P k n) j m) 12 ↔ okP (setP P k n) 12) := fun h => ok_other hj1 hj2 (by omega) (by omega) (by omega) (by omega)
  constructor
  · rintro ⟨a, b, c⟩
    exact ⟨a, e1.1 b, fun h => (e2 h).1 (c h)⟩
  · rintro ⟨a, b, c⟩
    exact ⟨a, e1.2 b, fun h => (e2 h).2 (c h)⟩
end Go.Proofs.Ytkneiobohhhcpaa
