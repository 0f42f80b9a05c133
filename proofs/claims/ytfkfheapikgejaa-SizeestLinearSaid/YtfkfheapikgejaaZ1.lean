/- The compressed form of a run; chains of matches; what the laws of chapter 9 ask. -/
import Derived.Test.YtfkfheapikgejaaZ0
namespace Go.Proofs.Ytfkfheapikgejaa
set_option linter.unusedVariables false
set_option linter.unusedSimpArgs false
theorem gb_rep {k i : Nat} {x : UInt8} (h : i < k) : gb (List.replicate k x) i = x := by
  unfold gb
  simp [List.getD, List.getElem?_replicate, h]
theorem mlen_rep {k a d most : Nat} {x : UInt8} (ha : a + most ≤ k) : mlen (List.replicate k x) a d most = most :=
  mlen_char (Nat.le_refl _) (fun j hj => by rw [gb_rep (by omega), gb_rep (by omega)]) (.inl rfl)
theorem best_rep {k a : Nat} {x : UInt8} (h1 : 1 ≤ a) (h2 : a < k) : best (List.replicate k x) a = (min 131 (k - a), 1) := by
  unfold best
  rw [List.length_replicate]
  have hm : mlen (List.replicate k x) a (0 + 1) (min 131 (k - a)) = min 131 (k - a) := mlen_rep (by omega)
  have h : bst (List.replicate k x) a (min 131 (k - a)) (0 + 1) = (min 131 (k - a), 1) := by
    rw [bst, hm, if_pos (by simp only [bst]; omega)]
  rw [bst_full' (k := 0 + 1) (by rw [h]) (by omega), h]
theorem best_zero (l : List UInt8) : best l 0 = (0, 0) := by
  unfold best
  rw [Nat.min_zero]
  rfl
theorem comp_tail {k : Nat} {x : UInt8} (m : Nat) : ∀ f a, 1 ≤ a → a ≤ k → k - a ≤ m → k - a < 4 → comp (List.replicate k x) f a = lits ((List.replicate k x).drop f) := by
  induction m with
  | zero => intro f a h1 h2 h3 h4; exact comp_end (by rw [List.length_replicate]; omega)
  | succ m ih =>
    intro f a h1 h2 h3 h4
    by_cases ha : a < k
    · rw [comp_skip (by rw [List.length_replicate]; exact ha) (by rw [best_rep h1 ha]; show min 131 (k - a) < 4; omega)]
      exact ih _ _ (by omega) (by omega) (by omega) (by omega)
    · exact comp_end (by rw [List.length_replicate]; omega)
def runLen (r : Nat) : Nat := 3 * (r / 131) + (if 4 ≤ r % 131 then 3 else if 0 < r % 131 then 1 + r % 131 else 0)
theorem comp_run {k : Nat} {x : UInt8} (m : Nat) : ∀ a, 1 ≤ a → a ≤ k → k - a ≤ m → (comp (List.replicate k x) a a).length = runLen (k - a) := by
  induction m with
  | zero =>
    intro a h1 h2 h3
    rw [comp_end (by rw [List.length_replicate]; omega), lits_len _ _ (Nat.le_refl _), List.length_drop, List.length_replicate]
    unfold runLen
    rw [show k - a = 0 by omega]
    rfl
  | succ m ih =>
    intro a h1 h2 h3
    by_cases hs : k - a < 4
    · rw [comp_tail (k - a) _ _ h1 h2 (Nat.le_refl _) hs, lits_len _ _ (Nat.le_refl _), List.length_drop, List.length_replicate]
      unfold runLen
      split
      · omega
      · split <;> omega
    · have hb : best (List.replicate k x) a = (min 131 (k - a), 1) := best_rep h1 (by omega)
      have e : (List.drop a (List.take a (List.replicate k x))).length = 0 := by rw [List.length_drop, List.length_take, List.length_replicate]; omega
      rw [comp_hit (by rw [List.length_replicate]; omega) (by rw [hb]; show ¬ min 131 (k - a) < 4; omega), hb]
      show (lits _ ++ ([_, _, _] ++ comp _ (a + min 131 (k - a)) (a + min 131 (k - a)))).length = _
      rw [List.length_append, List.length_append, lits_len _ _ (Nat.le_refl _), e, ih _ (by omega) (by omega) (by omega)]
      simp only [List.length_cons, List.length_nil]
      unfold runLen
      by_cases hl : k - a < 131
      · rw [Nat.min_eq_right (by omega), show k - (a + (k - a)) = 0 by omega]
        have e1 : (k - a) / 131 = 0 := by omega
        have e2 : (k - a) % 131 = k - a := by omega
        rw [e1, e2, if_pos (show 4 ≤ k - a by omega)]
        rfl
      · have e0 : k - (a + min 131 (k - a)) = k - (a + 131) := by omega
        rw [e0]
        have e1 : (k - a) / 131 = (k - (a + 131)) / 131 + 1 := by omega
        have e2 : (k - a) % 131 = (k - (a + 131)) % 131 := by omega
        rw [e1, e2]
        omega
def wantLen (k : Nat) : Nat := 2 + 3 * ((k - 1) / 131) + (if 4 ≤ (k - 1) % 131 then 3 else if 0 < (k - 1) % 131 ∧ 0 < (k - 1) / 131 then 1 + (k - 1) % 131 else (k - 1) % 131)
theorem comp_whole {k : Nat} {x : UInt8} (h : 1 ≤ k) : (comp (List.replicate k x) 0 0).length = wantLen k ∧ gb (comp (List.replicate k x) 0 0) 1 = x := by
  have hskip : comp (List.replicate k x) 0 0 = comp (List.replicate k x) 0 1 := comp_skip (by rw [List.length_replicate]; omega) (by rw [best_zero]; show 0 < 4; omega)
  rw [hskip]
  obtain ⟨j, rfl⟩ : ∃ j, k = j + 1 := ⟨k - 1, by omega⟩
  by_cases hs : j < 4
  · have hne : List.replicate (j + 1) x ≠ [] := by simp
    rw [comp_tail j 0 1 (by omega) (by omega) (by omega) (by omega), List.drop_zero]
    refine ⟨?_, ?_⟩
    · rw [lits_len _ _ (Nat.le_refl _), List.length_replicate]
      unfold wantLen
      rw [if_neg (by omega), if_neg (by omega)]
      omega
    · rw [lits_step hne]
      simp [gb, List.replicate_succ]
  · have hb : best (List.replicate (j + 1) x) 1 = (min 131 (j + 1 - 1), 1) := best_rep (by omega) (by omega)
    have e : (List.drop 0 (List.take 1 (List.replicate (j + 1) x))) = [x] := by simp [List.replicate_succ]
    have e2 : lits [x] = [1, x] := rfl
    rw [comp_hit (by rw [List.length_replicate]; omega) (by rw [hb]; show ¬ min 131 (j + 1 - 1) < 4; omega), hb, e, e2]
    refine ⟨?_, by simp [gb]⟩
    show ([1, x] ++ ([_, _, _] ++ comp _ (1 + min 131 (j + 1 - 1)) (1 + min 131 (j + 1 - 1)))).length = _
    rw [List.length_append, List.length_append, comp_run (j + 1) _ (by omega) (by omega) (by omega)]
    simp only [List.length_cons, List.length_nil, Nat.add_sub_cancel]
    unfold runLen wantLen
    simp only [Nat.add_sub_cancel]
    by_cases hl : j < 131
    · have e0 : j + 1 - (1 + min 131 j) = 0 := by omega
      have e1 : j / 131 = 0 := by omega
      have e3 : j % 131 = j := by omega
      rw [e0, e1, e3, if_pos (show 4 ≤ j by omega)]
      rfl
    · have e0 : j + 1 - (1 + min 131 j) = j - 131 := by omega
      have e1 : j / 131 = (j - 131) / 131 + 1 := by omega
      have e3 : j % 131 = (j - 131) % 131 := by omega
      rw [e0, e1, e3]
      by_cases h4 : 4 ≤ (j - 131) % 131
      · rw [if_pos h4, if_pos h4]; omega
      · rw [if_neg h4, if_neg h4]
        by_cases h5 : 0 < (j - 131) % 131
        · rw [if_pos h5, if_pos ⟨h5, by omega⟩]; omega
        · rw [if_neg h5, if_neg (by omega)]; omega
/-- k tokens of three bytes -/
def toks (a b c : UInt8) : Nat → List UInt8
  | 0 => []
  | k + 1 => a :: b :: c :: toks a b c k
theorem toks_snoc (a b c : UInt8) (k : Nat) : toks a b c (k + 1) = toks a b c k ++ [a, b, c] := by
  induction k with
  | zero => rfl
  | succ k ih =>
    show a :: b :: c :: toks a b c (k + 1) = a :: b :: c :: (toks a b c k ++ [a, b, c])
    rw [ih]
theorem toks_len (a b c : UInt8) (k : Nat) : (toks a b c k).length = 3 * k := by
  induction k with
  | zero => rfl
  | succ k ih => rw [toks]; simp only [List.length_cons, ih]; omega
def decOut (l : List UInt8) : List UInt8 := match dec l [] with | .ok x => x | .error _ => []
def decErr (l : List UInt8) : Nat := match dec l [] with | .ok _ => 0 | .error c => c
theorem decOut_ok {l x : List UInt8} (h : dec l [] = .ok x) : decOut l = x ∧ decErr l = 0 := by unfold decOut decErr; rw [h]; exact ⟨rfl, rfl⟩
theorem decOut_error {l : List UInt8} {c : Nat} (h : dec l [] = .error c) : decOut l = [] ∧ decErr l = c := by unfold decOut decErr; rw [h]; exact ⟨rfl, rfl⟩
theorem decOut_le (l : List UInt8) : (decOut l).length ≤ 65536 := by
  cases h : dec l [] with
  | ok x => rw [(decOut_ok h).1]; exact dec_max l.length l [] x (Nat.le_refl _) (by simp) h
  | error c => rw [(decOut_error h).1]; simp
theorem dec_toks {a b c : UInt8} (ha : 128 ≤ a.toNat) (hb : b.toNat = 0) (hc : c.toNat ≤ 1) (k : Nat) : ∀ out : List UInt8, 2 ≤ out.length → out.length ≤ 65536 →
    (∃ y, dec (toks a b c k) out = .ok y ∧ y.length = out.length + k * (a.toNat - 124) ∧ out.length + k * (a.toNat - 124) ≤ 65536) ∨ (dec (toks a b c k) out = .error 6 ∧ 65536 < out.length + k * (a.toNat - 124)) := by
  induction k with
  | zero => intro out h1 h2; exact .inl ⟨out, rfl, by omega, by omega⟩
  | succ k ih =>
    intro out h1 h2
    rw [toks, dec_match (by omega), hb, if_neg (by omega)]
    have e : (k + 1) * (a.toNat - 124) = k * (a.toNat - 124) + (a.toNat - 124) := by rw [Nat.succ_mul]
    by_cases h3 : 65536 < out.length + (a.toNat - 124)
    · rw [if_pos h3, e]
      exact .inr ⟨rfl, by omega⟩
    · rw [if_neg h3, e]
      have hl := copyd_len (0 * 256 + c.toNat + 1) (a.toNat - 124) out
      rcases ih (copyd (0 * 256 + c.toNat + 1) (a.toNat - 124) out) (by omega) (by omega) with ⟨y, h4, h5, h6⟩ | ⟨h4, h5⟩
      · exact .inl ⟨y, h4, by omega, by omega⟩
      · exact .inr ⟨h4, by omega⟩
theorem dec_limit {x y a b c : UInt8} (ha : 128 ≤ a.toNat) (hb : b.toNat = 0) (hc : c.toNat ≤ 1) (k : Nat) :
    (decErr ([2, x, y] ++ toks a b c k) = 0 ∧ (decOut ([2, x, y] ++ toks a b c k)).length = 2 + k * (a.toNat - 124) ∧ 2 + k * (a.toNat - 124) ≤ 65536) ∨ (decErr ([2, x, y] ++ toks a b c k) = 6 ∧ 65536 < 2 + k * (a.toNat - 124)) := by
  have h0 : dec ([2, x, y] ++ toks a b c k) [] = dec (toks a b c k) [x, y] := by
    show dec ((2 : UInt8) :: x :: y :: toks a b c k) [] = _
    rw [dec_lit (by decide) (by decide)]
    have : (2 : UInt8).toNat = 2 := rfl
    rw [this, if_neg (by simp only [List.length_cons]; omega), if_neg (by decide)]
    rfl
  rcases dec_toks ha hb hc k [x, y] (Nat.le_refl _) (show 2 ≤ 65536 by decide) with ⟨z, h1, h2, h3⟩ | ⟨h1, h2⟩
  · obtain ⟨e1, e2⟩ := decOut_ok (h0.trans h1)
    exact .inl ⟨e2, by rw [e1]; exact h2, h3⟩
  · obtain ⟨e1, e2⟩ := decOut_error (h0.trans h1)
    exact .inr ⟨e2, h2⟩
theorem trip_out (l : List UInt8) (h : l.length ≤ 65536) : decOut (comp l 0 0) = l ∧ decErr (comp l 0 0) = 0 := decOut_ok (round_trip l h)
theorem trip_two (l m : List UInt8) (h : l.length + m.length ≤ 65536) : decOut (comp l 0 0 ++ comp m 0 0) = l ++ m ∧ decErr (comp l 0 0 ++ comp m 0 0) = 0 := decOut_ok (concat_trip l m h)
theorem ex_comp1 : comp [97, 98, 99, 100] 0 0 = [4, 97, 98, 99, 100] := by decide
theorem ex_comp2 : comp [97, 97, 97, 97, 97, 97] 0 0 = [1, 97, 129, 0, 0] := by decide
theorem ex_dec : decErr [0] = 3 := rfl
end Go.Proofs.Ytfkfheapikgejaa
