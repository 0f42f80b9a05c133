/- The compressor and the decompressor, plainly. -/
namespace Go.Proofs.Ytfkfheapikgejaa
set_option linter.unusedVariables false
set_option linter.unusedSimpArgs false
def gb (l : List UInt8) (i : Nat) : UInt8 := l.getD i 0
def mlen (l : List UInt8) (a d : Nat) : Nat → Nat
  | 0 => 0
  | m + 1 => if mlen l a d m = m ∧ gb l (a + m) = gb l (a + m - d) then m + 1 else mlen l a d m
theorem mlen_le (l : List UInt8) (a d m : Nat) : mlen l a d m ≤ m := by
  induction m with
  | zero => simp [mlen]
  | succ m ih => simp only [mlen]; split <;> omega
theorem mlen_match (l : List UInt8) (a d m : Nat) : ∀ j, j < mlen l a d m → gb l (a + j) = gb l (a + j - d) := by
  induction m with
  | zero => intro j h; simp [mlen] at h
  | succ m ih =>
    intro j h
    simp only [mlen] at h
    split at h
    · rename_i hc
      rcases Nat.lt_or_ge j m with h1 | h1
      · exact ih j (by omega)
      · obtain rfl : j = m := by omega
        exact hc.2
    · exact ih j h
theorem mlen_char {l : List UInt8} {a d n m : Nat} (h : n ≤ m) (hm : ∀ j, j < n → gb l (a + j) = gb l (a + j - d)) (hs : n = m ∨ gb l (a + n) ≠ gb l (a + n - d)) : mlen l a d m = n := by
  induction m generalizing n with
  | zero => simp [mlen]; omega
  | succ m ih =>
    simp only [mlen]
    by_cases hn : n = m + 1
    · subst hn
      have h1 := ih (n := m) (Nat.le_refl _) (fun j hj => hm j (by omega)) (.inl rfl)
      rw [if_pos ⟨h1, hm m (by omega)⟩]
    · have hne : gb l (a + n) ≠ gb l (a + n - d) := by rcases hs with h1 | h1; exact absurd h1 hn; exact h1
      have h1 := ih (n := n) (by omega) hm (.inr hne)
      rw [if_neg]
      · exact h1
      · rintro ⟨h2, h3⟩
        rw [h1] at h2
        subst h2
        exact hne h3
/-- the best match of length at most 'most' at the distances 1 to k -/
def bst (l : List UInt8) (a most : Nat) : Nat → Nat × Nat
  | 0 => (0, 0)
  | k + 1 => if (bst l a most k).1 < mlen l a (k + 1) most then (mlen l a (k + 1) most, k + 1) else bst l a most k
theorem bst_le (l : List UInt8) (a most k : Nat) : (bst l a most k).1 ≤ most := by
  induction k with
  | zero => simp [bst]
  | succ k ih =>
    simp only [bst]
    split
    · exact mlen_le _ _ _ _
    · exact ih
theorem bst_full {l : List UInt8} {a most k : Nat} (h : (bst l a most k).1 = most) (j : Nat) : bst l a most (k + j) = bst l a most k := by
  induction j with
  | zero => rfl
  | succ j ih =>
    rw [← Nat.add_assoc]
    simp only [bst]
    rw [if_neg, ih]
    rw [ih, h]
    have := mlen_le l a (k + j + 1) most
    omega
theorem bst_full' {l : List UInt8} {a most k K : Nat} (h : (bst l a most k).1 = most) (hk : k ≤ K) : bst l a most K = bst l a most k := by
  obtain ⟨j, rfl⟩ : ∃ j, K = k + j := ⟨K - k, by omega⟩
  exact bst_full h j
theorem bst_dist (l : List UInt8) (a most k : Nat) : (bst l a most k).2 ≤ k ∧ (0 < (bst l a most k).1 → 1 ≤ (bst l a most k).2 ∧ (bst l a most k).1 = mlen l a (bst l a most k).2 most) := by
  induction k with
  | zero => simp [bst]
  | succ k ih =>
    simp only [bst]
    split
    · exact ⟨Nat.le_refl _, fun _ => ⟨by omega, rfl⟩⟩
    · exact ⟨by omega, ih.2⟩
def best (l : List UInt8) (a : Nat) : Nat × Nat := bst l a (min 131 (l.length - a)) (min 1024 a)
theorem best_n (l : List UInt8) (a : Nat) : (best l a).1 ≤ 131 ∧ (best l a).1 ≤ l.length - a := by
  have := bst_le l a (min 131 (l.length - a)) (min 1024 a)
  unfold best
  omega
theorem best_d (l : List UInt8) (a : Nat) (h : 0 < (best l a).1) : 1 ≤ (best l a).2 ∧ (best l a).2 ≤ 1024 ∧ (best l a).2 ≤ a ∧ ∀ j, j < (best l a).1 → gb l (a + j) = gb l (a + j - (best l a).2) := by
  have h1 := bst_dist l a (min 131 (l.length - a)) (min 1024 a)
  unfold best at h ⊢
  obtain ⟨h2, h3⟩ := h1
  obtain ⟨h4, h5⟩ := h3 h
  refine ⟨h4, by omega, by omega, ?_⟩
  intro j hj
  rw [h5] at hj
  exact mlen_match _ _ _ _ j hj
theorem best_d_le (l : List UInt8) (a : Nat) : (best l a).2 ≤ 1024 ∧ (best l a).2 ≤ a := by
  have h1 := bst_dist l a (min 131 (l.length - a)) (min 1024 a)
  unfold best
  omega
/-- literal runs -/
def litsF : Nat → List UInt8 → List UInt8
  | 0, _ => []
  | f + 1, b => if b = [] then [] else UInt8.ofNat (min b.length 127) :: (b.take 127 ++ litsF f (b.drop 127))
def lits (b : List UInt8) : List UInt8 := litsF b.length b
theorem litsF_nil (f : Nat) : litsF f [] = [] := by cases f <;> simp [litsF]
theorem litsF_more (f : Nat) : ∀ (b : List UInt8), b.length ≤ f → litsF f b = litsF (f + 1) b := by
  induction f with
  | zero => intro b h; obtain rfl : b = [] := List.eq_nil_of_length_eq_zero (by omega); simp [litsF]
  | succ f ih =>
    intro b h
    by_cases hb : b = []
    · subst hb; rw [litsF_nil, litsF_nil]
    · have hl : 0 < b.length := List.length_pos_iff.2 hb
      have h1 := ih (b.drop 127) (by rw [List.length_drop]; omega)
      rw [litsF, litsF, if_neg hb, if_neg hb, h1]
theorem litsF_eq {f : Nat} {b : List UInt8} (h : b.length ≤ f) : litsF f b = lits b := by
  obtain ⟨j, rfl⟩ : ∃ j, f = b.length + j := ⟨f - b.length, by omega⟩
  clear h
  induction j with
  | zero => rfl
  | succ j ih => rw [← Nat.add_assoc, ← litsF_more _ _ (by omega)]; exact ih
theorem lits_nil : lits [] = [] := rfl
theorem lits_step {b : List UInt8} (h : b ≠ []) : lits b = UInt8.ofNat (min b.length 127) :: (b.take 127 ++ lits (b.drop 127)) := by
  have hl : 0 < b.length := List.length_pos_iff.2 h
  obtain ⟨n, hn⟩ : ∃ n, b.length = n + 1 := ⟨b.length - 1, by omega⟩
  unfold lits
  rw [hn, litsF, if_neg h, litsF_eq (b := b.drop 127) (by rw [List.length_drop]; omega), hn]
  rfl
theorem lits_len (n : Nat) : ∀ (b : List UInt8), b.length ≤ n → (lits b).length = b.length + (b.length + 126) / 127 := by
  induction n with
  | zero => intro b h; obtain rfl : b = [] := List.eq_nil_of_length_eq_zero (by omega); simp [lits_nil]
  | succ n ih =>
    intro b h
    by_cases hb : b = []
    · subst hb; simp [lits_nil]
    · have hl : 0 < b.length := List.length_pos_iff.2 hb
      have h1 := ih (b.drop 127) (by rw [List.length_drop]; omega)
      rw [lits_step hb, List.length_cons, List.length_append, h1, List.length_take, List.length_drop]
      omega
/-- what is yet to be written, the bytes from f on not being written, at position a -/
def compF (l : List UInt8) : Nat → Nat → Nat → List UInt8
  | 0, f, _ => lits (l.drop f)
  | k + 1, f, a => if a < l.length then
      (if (best l a).1 < 4 then compF l k f (a + 1)
       else lits ((l.take a).drop f) ++ ([UInt8.ofNat ((best l a).1 + 124), UInt8.ofNat (((best l a).2 - 1) / 256), UInt8.ofNat (((best l a).2 - 1) % 256)] ++ compF l k (a + (best l a).1) (a + (best l a).1)))
      else lits (l.drop f)
def comp (l : List UInt8) (f a : Nat) : List UInt8 := compF l (l.length - a) f a
theorem compF_more (l : List UInt8) (k : Nat) : ∀ f a, l.length - a ≤ k → compF l k f a = compF l (k + 1) f a := by
  induction k with
  | zero => intro f a h; rw [compF, compF, if_neg (by omega)]
  | succ k ih =>
    intro f a h
    rw [compF, compF]
    by_cases ha : a < l.length
    · rw [if_pos ha, if_pos ha]
      by_cases hn : (best l a).1 < 4
      · rw [if_pos hn, if_pos hn, ih _ _ (by omega)]
      · rw [if_neg hn, if_neg hn, ih _ _ (by omega)]
    · rw [if_neg ha, if_neg ha]
theorem compF_eq {l : List UInt8} {k f a : Nat} (h : l.length - a ≤ k) : compF l k f a = comp l f a := by
  obtain ⟨j, rfl⟩ : ∃ j, k = (l.length - a) + j := ⟨k - (l.length - a), by omega⟩
  clear h
  induction j with
  | zero => rfl
  | succ j ih => rw [← Nat.add_assoc, ← compF_more _ _ _ _ (by omega)]; exact ih
theorem comp_end {l : List UInt8} {f a : Nat} (h : ¬ a < l.length) : comp l f a = lits (l.drop f) := by
  unfold comp
  rw [show l.length - a = 0 by omega, compF]
theorem comp_skip {l : List UInt8} {f a : Nat} (h : a < l.length) (hn : (best l a).1 < 4) : comp l f a = comp l f (a + 1) := by
  obtain ⟨k, hk⟩ : ∃ k, l.length - a = k + 1 := ⟨l.length - a - 1, by omega⟩
  rw [comp, hk, compF, if_pos h, if_pos hn, compF_eq (by omega)]
theorem comp_hit {l : List UInt8} {f a : Nat} (h : a < l.length) (hn : ¬ (best l a).1 < 4) : comp l f a = lits ((l.take a).drop f) ++ ([UInt8.ofNat ((best l a).1 + 124), UInt8.ofNat (((best l a).2 - 1) / 256), UInt8.ofNat (((best l a).2 - 1) % 256)] ++ comp l (a + (best l a).1) (a + (best l a).1)) := by
  obtain ⟨k, hk⟩ : ∃ k, l.length - a = k + 1 := ⟨l.length - a - 1, by omega⟩
  rw [comp, hk, compF, if_pos h, if_neg hn, compF_eq (by omega)]
theorem comp_len (l : List UInt8) (k : Nat) : ∀ f a, f ≤ a → a ≤ l.length → l.length - a ≤ k → (comp l f a).length ≤ (l.length - f) + (l.length - f + 126) / 127 := by
  induction k with
  | zero =>
    intro f a h1 h2 h3
    rw [comp_end (by omega), lits_len _ _ (Nat.le_refl _), List.length_drop]
    exact Nat.le_refl _
  | succ k ih =>
    intro f a h1 h2 h3
    by_cases ha : a < l.length
    · by_cases hn : (best l a).1 < 4
      · rw [comp_skip ha hn]
        exact ih _ _ (by omega) (by omega) (by omega)
      · have h4 := best_n l a
        have h5 := ih (a + (best l a).1) (a + (best l a).1) (Nat.le_refl _) (by omega) (by omega)
        rw [comp_hit ha hn, List.length_append, List.length_append, lits_len _ _ (Nat.le_refl _), List.length_drop, List.length_take]
        simp only [List.length_cons, List.length_nil]
        omega
    · rw [comp_end ha, lits_len _ _ (Nat.le_refl _), List.length_drop]
      exact Nat.le_refl _
/-- the bytes of a match -/
def copyd (d : Nat) : Nat → List UInt8 → List UInt8
  | 0, o => o
  | n + 1, o => copyd d n (o ++ [gb o (o.length - d)])
theorem copyd_len (d n : Nat) : ∀ o, (copyd d n o).length = o.length + n := by
  induction n with
  | zero => intro o; rfl
  | succ n ih => intro o; rw [copyd, ih, List.length_append]; simp; omega
/-- decompression of r, out being written: the output, or the error's number -/
def decM (go : List UInt8 → List UInt8 → Except Nat (List UInt8)) (t : UInt8) (out : List UInt8) : List UInt8 → Except Nat (List UInt8)
  | x :: y :: s => if out.length < x.toNat * 256 + y.toNat + 1 then .error 3 else if 65536 < out.length + (t.toNat - 124) then .error 6 else go s (copyd (x.toNat * 256 + y.toNat + 1) (t.toNat - 124) out)
  | _ => .error 3
def decS (go : List UInt8 → List UInt8 → Except Nat (List UInt8)) (out : List UInt8) : List UInt8 → Except Nat (List UInt8)
  | [] => .ok out
  | t :: r =>
      if t.toNat = 0 then .error 3 else
      if t.toNat < 128 then
        (if r.length < t.toNat then .error 3 else if 65536 < out.length + t.toNat then .error 6 else go (r.drop t.toNat) (out ++ r.take t.toNat))
      else decM go t out r
def decF : Nat → List UInt8 → List UInt8 → Except Nat (List UInt8)
  | 0, _, out => .ok out
  | f + 1, r, out => decS (decF f) out r
def dec (r out : List UInt8) : Except Nat (List UInt8) := decF r.length r out
theorem decS_cons (go : List UInt8 → List UInt8 → Except Nat (List UInt8)) (out : List UInt8) (t : UInt8) (r : List UInt8) : decS go out (t :: r) = if t.toNat = 0 then .error 3 else if t.toNat < 128 then
        (if r.length < t.toNat then .error 3 else if 65536 < out.length + t.toNat then .error 6 else go (r.drop t.toNat) (out ++ r.take t.toNat)) else decM go t out r := rfl
theorem decM_two (go : List UInt8 → List UInt8 → Except Nat (List UInt8)) (out : List UInt8) (t x y : UInt8) (s : List UInt8) : decM go t out (x :: y :: s) = if out.length < x.toNat * 256 + y.toNat + 1 then .error 3 else if 65536 < out.length + (t.toNat - 124) then .error 6 else go s (copyd (x.toNat * 256 + y.toNat + 1) (t.toNat - 124) out) := rfl
theorem decM_few (go : List UInt8 → List UInt8 → Except Nat (List UInt8)) (out : List UInt8) (t : UInt8) {r : List UInt8} (h : r.length < 2) : decM go t out r = .error 3 := by
  match r, h with
  | [], _ => rfl
  | [_], _ => rfl
theorem decF_more (k : Nat) : ∀ r out, r.length ≤ k → decF k r out = decF (k + 1) r out := by
  induction k with
  | zero => intro r out h; obtain rfl : r = [] := List.eq_nil_of_length_eq_zero (by omega); rfl
  | succ k ih =>
    intro r out h
    match r with
    | [] => rfl
    | t :: r =>
      simp only [List.length_cons] at h
      rw [decF, decF, decS_cons, decS_cons]
      by_cases h0 : t.toNat = 0
      · rw [if_pos h0, if_pos h0]
      · rw [if_neg h0, if_neg h0]
        by_cases h1 : t.toNat < 128
        · rw [if_pos h1, if_pos h1, ih (r.drop t.toNat) _ (by rw [List.length_drop]; omega)]
        · rw [if_neg h1, if_neg h1]
          match r with
          | [] => rfl
          | [_] => rfl
          | x :: y :: s =>
            simp only [List.length_cons] at h
            rw [decM_two, decM_two, ih s _ (by omega)]
theorem decF_eq {k : Nat} {r out : List UInt8} (h : r.length ≤ k) : decF k r out = dec r out := by
  obtain ⟨j, rfl⟩ : ∃ j, k = r.length + j := ⟨k - r.length, by omega⟩
  clear h
  induction j with
  | zero => rfl
  | succ j ih => rw [← Nat.add_assoc, ← decF_more _ _ _ (by omega)]; exact ih
theorem dec_nil (out : List UInt8) : dec [] out = .ok out := rfl
theorem dec_zero {t : UInt8} {r out : List UInt8} (h : t.toNat = 0) : dec (t :: r) out = .error 3 := by
  simp [dec, decF, decS, h]
theorem dec_lit {t : UInt8} {r out : List UInt8} (h0 : t.toNat ≠ 0) (h : t.toNat < 128) :
    dec (t :: r) out = if r.length < t.toNat then .error 3 else if 65536 < out.length + t.toNat then .error 6 else dec (r.drop t.toNat) (out ++ r.take t.toNat) := by
  rw [dec, List.length_cons, decF, decS_cons, if_neg h0, if_pos h, decF_eq (by rw [List.length_drop]; omega)]
theorem dec_short {t : UInt8} {r out : List UInt8} (h : ¬ t.toNat < 128) (hr : r.length < 2) : dec (t :: r) out = .error 3 := by
  rw [dec, List.length_cons, decF, decS_cons, if_neg (by omega), if_neg h, decM_few _ _ _ hr]
theorem dec_match {t x y : UInt8} {s out : List UInt8} (h : ¬ t.toNat < 128) :
    dec (t :: x :: y :: s) out = if out.length < x.toNat * 256 + y.toNat + 1 then .error 3 else if 65536 < out.length + (t.toNat - 124) then .error 6 else dec s (copyd (x.toNat * 256 + y.toNat + 1) (t.toNat - 124) out) := by
  rw [dec, List.length_cons, decF, decS_cons, if_neg (by omega), if_neg h, decM_two, decF_eq (by simp only [List.length_cons]; omega)]
/-- the output has at most 65536 bytes -/
theorem dec_max (k : Nat) : ∀ r out x, r.length ≤ k → out.length ≤ 65536 → dec r out = .ok x → x.length ≤ 65536 := by
  induction k with
  | zero => intro r out x h ho hd; obtain rfl : r = [] := List.eq_nil_of_length_eq_zero (by omega); rw [dec_nil] at hd; injection hd with hd; subst hd; exact ho
  | succ k ih =>
    intro r out x h ho hd
    match r with
    | [] => rw [dec_nil] at hd; injection hd with hd; subst hd; exact ho
    | t :: r =>
      simp only [List.length_cons] at h
      by_cases h0 : t.toNat = 0
      · rw [dec_zero h0] at hd; cases hd
      by_cases h1 : t.toNat < 128
      · rw [dec_lit h0 h1] at hd
        by_cases h2 : r.length < t.toNat
        · rw [if_pos h2] at hd; cases hd
        by_cases h3 : 65536 < out.length + t.toNat
        · rw [if_neg h2, if_pos h3] at hd; cases hd
        rw [if_neg h2, if_neg h3] at hd
        refine ih _ _ _ (by rw [List.length_drop]; omega) ?_ hd
        rw [List.length_append, List.length_take]; omega
      · match r with
        | [] => rw [dec_short h1 (by simp)] at hd; cases hd
        | [_] => rw [dec_short h1 (by simp)] at hd; cases hd
        | x :: y :: s =>
          rw [dec_match h1] at hd
          simp only [List.length_cons] at h
          by_cases h2 : out.length < x.toNat * 256 + y.toNat + 1
          · rw [if_pos h2] at hd; cases hd
          by_cases h3 : 65536 < out.length + (t.toNat - 124)
          · rw [if_neg h2, if_pos h3] at hd; cases hd
          rw [if_neg h2, if_neg h3] at hd
          refine ih _ _ _ (by omega) ?_ hd
          rw [copyd_len]; omega
theorem toNat_of {n : Nat} (h : n < 256) : (UInt8.ofNat n).toNat = n := by
  rw [UInt8.toNat_ofNat']; omega
theorem dec_lits (k : Nat) : ∀ b rest out, b.length ≤ k → out.length + b.length ≤ 65536 → dec (lits b ++ rest) out = dec rest (out ++ b) := by
  induction k with
  | zero => intro b rest out h _; obtain rfl : b = [] := List.eq_nil_of_length_eq_zero (by omega); simp [lits_nil]
  | succ k ih =>
    intro b rest out h hs
    by_cases hb : b = []
    · subst hb; simp [lits_nil]
    · have hl : 0 < b.length := List.length_pos_iff.2 hb
      rw [lits_step hb, List.cons_append]
      have ht : (UInt8.ofNat (min b.length 127)).toNat = min b.length 127 := toNat_of (by omega)
      have htl : (b.take 127).length = min b.length 127 := by rw [List.length_take]; omega
      rw [dec_lit (by rw [ht]; omega) (by rw [ht]; omega), ht, if_neg (by rw [List.length_append, List.length_append, htl]; omega), if_neg (by omega)]
      rw [List.append_assoc, List.drop_left' htl, List.take_left' htl, ih _ _ _ (by rw [List.length_drop]; omega) (by rw [List.length_append, List.length_drop, htl]; omega), List.append_assoc, List.take_append_drop]
theorem gb_append_right (p o : List UInt8) (i : Nat) : gb (p ++ o) (p.length + i) = gb o i := by
  unfold gb
  simp [List.getD, List.getElem?_append_right]
theorem gb_take {l : List UInt8} {i n : Nat} (h : i < n) : gb (l.take n) i = gb l i := by
  unfold gb
  simp [List.getD, List.getElem?_take_of_lt h]
theorem take_one {l : List UInt8} {a : Nat} (h : a < l.length) : l.take (a + 1) = l.take a ++ [gb l a] := by
  rw [List.take_add_one, List.getElem?_eq_getElem h, gb, List.getD, List.getElem?_eq_getElem h]
  rfl
theorem copyd_take {l pre : List UInt8} {d : Nat} (n : Nat) : ∀ a, 1 ≤ d → d ≤ a → a + n ≤ l.length → (∀ j, j < n → gb l (a + j) = gb l (a + j - d)) → copyd d n (pre ++ l.take a) = pre ++ l.take (a + n) := by
  induction n with
  | zero => intro a _ _ _ _; rfl
  | succ n ih =>
    intro a h1 h2 h3 h4
    have hta : (l.take a).length = a := by rw [List.length_take]; omega
    rw [copyd]
    have e : (pre ++ l.take a).length - d = pre.length + (a - d) := by rw [List.length_append, hta]; omega
    have e2 := h4 0 (by omega)
    rw [Nat.add_zero] at e2
    rw [e, gb_append_right, gb_take (by omega), ← e2, List.append_assoc, ← take_one (by omega), ih (a + 1) h1 (by omega) (by omega), show a + 1 + n = a + (n + 1) by omega]
    intro j hj
    have := h4 (j + 1) (by omega)
    rw [show a + 1 + j = a + (j + 1) by omega]
    exact this
theorem dec_comp (l pre : List UInt8) (hsz : pre.length + l.length ≤ 65536) (k : Nat) : ∀ f a rest, f ≤ a → a ≤ l.length → l.length - a ≤ k → dec (comp l f a ++ rest) (pre ++ l.take f) = dec rest (pre ++ l) := by
  have hend : ∀ f rest, f ≤ l.length → dec (lits (l.drop f) ++ rest) (pre ++ l.take f) = dec rest (pre ++ l) := by
    intro f rest hf
    rw [dec_lits _ _ _ _ (Nat.le_refl _) (by rw [List.length_append, List.length_take, List.length_drop]; omega), List.append_assoc, List.take_append_drop]
  induction k with
  | zero =>
    intro f a rest h1 h2 h3
    rw [comp_end (by omega)]
    exact hend f rest (by omega)
  | succ k ih =>
    intro f a rest h1 h2 h3
    by_cases ha : a < l.length
    · by_cases hn : (best l a).1 < 4
      · rw [comp_skip ha hn]
        exact ih _ _ _ (by omega) (by omega) (by omega)
      · have h4 := best_n l a
        obtain ⟨d1, d2, d3, d4⟩ := best_d l a (by omega)
        rw [comp_hit ha hn, List.append_assoc, dec_lits _ _ _ _ (Nat.le_refl _) (by rw [List.length_append, List.length_drop, List.length_take, List.length_take]; omega)]
        have e : (pre ++ List.take f l) ++ List.drop f (List.take a l) = pre ++ l.take a := by
          rw [List.append_assoc]
          have := List.take_append_drop f (l.take a)
          rw [List.take_take, Nat.min_eq_left h1] at this
          rw [this]
        rw [e]
        simp only [List.cons_append, List.nil_append]
        have t1 : (UInt8.ofNat ((best l a).1 + 124)).toNat = (best l a).1 + 124 := toNat_of (by omega)
        have t2 : (UInt8.ofNat (((best l a).2 - 1) / 256)).toNat = ((best l a).2 - 1) / 256 := toNat_of (by omega)
        have t3 : (UInt8.ofNat (((best l a).2 - 1) % 256)).toNat = ((best l a).2 - 1) % 256 := toNat_of (by omega)
        have t4 : ((best l a).2 - 1) / 256 * 256 + ((best l a).2 - 1) % 256 + 1 = (best l a).2 := by omega
        have hta : (pre ++ l.take a).length = pre.length + a := by rw [List.length_append, List.length_take]; omega
        rw [dec_match (by rw [t1]; omega), t1, t2, t3, t4, hta, if_neg (by omega), if_neg (by omega), Nat.add_sub_cancel, copyd_take _ _ d1 d3 (by omega) d4]
        exact ih _ _ _ (Nat.le_refl _) (by omega) (by omega)
    · rw [comp_end ha]
      exact hend f rest (by omega)
theorem round_trip (l : List UInt8) (h : l.length ≤ 65536) : dec (comp l 0 0) [] = .ok l := by
  have := dec_comp l [] (by simpa using h) l.length 0 0 [] (Nat.le_refl _) (by omega) (by omega)
  simpa [dec_nil] using this
theorem concat_trip (l m : List UInt8) (h : l.length + m.length ≤ 65536) : dec (comp l 0 0 ++ comp m 0 0) [] = .ok (l ++ m) := by
  have h1 := dec_comp l [] (by simp; omega) l.length 0 0 (comp m 0 0) (Nat.le_refl _) (by omega) (by omega)
  have h2 := dec_comp m l (by omega) m.length 0 0 [] (Nat.le_refl _) (by omega) (by omega)
  simp only [List.take_zero, List.append_nil, List.nil_append] at h1 h2
  rw [h1, h2, dec_nil]
theorem comp_bound (l : List UInt8) : (comp l 0 0).length ≤ l.length + (l.length + 126) / 127 := by
  simpa using comp_len l l.length 0 0 (Nat.le_refl _) (by omega) (by omega)
end Go.Proofs.Ytfkfheapikgejaa
