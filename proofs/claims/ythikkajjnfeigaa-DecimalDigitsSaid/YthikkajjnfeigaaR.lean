/- Numbers as lists of digits to the base 65536, the least first: plain lemmas. -/
import Derived.Test.YthikkajjnfeigaaB
namespace Go.Proofs.Ythikkajjnfeigaa
open Go.RowKit
set_option linter.unusedVariables false
/-- What a list of digits stands for. -/
def val : List Nat → Nat
  | [] => 0
  | d :: l => d + 65536 * val l
def Digs (l : List Nat) : Prop := ∀ d ∈ l, d < 65536
/-- The digits of N, without a leading zero. -/
def dig (N : Nat) : List Nat := if h : N = 0 then [] else N % 65536 :: dig (N / 65536)
termination_by N
decreasing_by omega
theorem dig_zero : dig 0 = [] := by rw [dig]; rfl
theorem dig_pos {N : Nat} (h : N ≠ 0) : dig N = N % 65536 :: dig (N / 65536) := by rw [dig, dif_neg h]
theorem val_dig (N : Nat) : val (dig N) = N := by
  induction N using Nat.strongRecOn with
  | _ N ih =>
    by_cases h : N = 0
    · subst h; rw [dig_zero]; rfl
    · rw [dig_pos h, val, ih (N / 65536) (by omega)]
      omega
theorem digs_dig (N : Nat) : Digs (dig N) := by
  induction N using Nat.strongRecOn with
  | _ N ih =>
    by_cases h : N = 0
    · subst h; rw [dig_zero]; intro d hd; simp at hd
    · rw [dig_pos h]
      intro d hd
      rcases List.mem_cons.1 hd with rfl | hd
      · omega
      · exact ih _ (by omega) d hd
theorem val_lt {l : List Nat} (h : Digs l) : val l < 65536 ^ l.length := by
  induction l with
  | nil => decide
  | cons d l ih =>
    have h1 := h d (.head _)
    have h2 := ih (fun x hx => h x (.tail _ hx))
    rw [val, List.length_cons, Nat.pow_succ]
    omega
theorem val_snoc (l : List Nat) (x : Nat) : val (l ++ [x]) = val l + x * 65536 ^ l.length := by
  induction l with
  | nil => simp [val]
  | cons d l ih =>
    rw [List.cons_append, val, ih, val, List.length_cons, Nat.pow_succ]
    rw [Nat.mul_add, ← Nat.mul_assoc 65536 x, Nat.mul_comm 65536 x, Nat.mul_assoc x, Nat.mul_comm 65536 (65536 ^ _)]
    omega
theorem val_set {l : List Nat} {i x : Nat} (hi : i < l.length) : val (l.set i x) + l.getD i 0 * 65536 ^ i = val l + x * 65536 ^ i := by
  induction l generalizing i with
  | nil => simp at hi
  | cons d l ih =>
    cases i with
    | zero => simp [val]; omega
    | succ i =>
      have := ih (i := i) (by simpa using hi)
      simp only [List.set_cons_succ, val, List.getD_cons_succ]
      rw [Nat.pow_succ, Nat.mul_comm (65536 ^ i) 65536, ← Nat.mul_assoc, ← Nat.mul_assoc, Nat.mul_comm _ 65536, Nat.mul_comm _ 65536, Nat.mul_assoc, Nat.mul_assoc]
      omega
theorem digs_set {l : List Nat} {i x : Nat} (h : Digs l) (hx : x < 65536) : Digs (l.set i x) := by
  intro d hd
  rcases List.mem_or_eq_of_mem_set hd with h' | rfl
  · exact h d h'
  · exact hx
theorem digs_snoc {l : List Nat} {x : Nat} (h : Digs l) (hx : x < 65536) : Digs (l ++ [x]) := by
  intro d hd
  rcases List.mem_append.1 hd with h' | h'
  · exact h d h'
  · simp at h'; omega
theorem digs_take {l : List Nat} (n : Nat) (h : Digs l) : Digs (l.take n) := fun d hd => h d (List.mem_of_mem_take hd)
theorem digs_drop {l : List Nat} (n : Nat) (h : Digs l) : Digs (l.drop n) := fun d hd => h d (List.mem_of_mem_drop hd)
theorem digs_rep (n : Nat) : Digs (List.replicate n 0) := fun d hd => by rw [(List.mem_replicate.1 hd).2]; omega
theorem val_rep (n : Nat) : val (List.replicate n 0) = 0 := by
  induction n with
  | zero => rfl
  | succ n ih => rw [List.replicate_succ, val, ih]
theorem val_append (a b : List Nat) : val (a ++ b) = val a + val b * 65536 ^ a.length := by
  induction a with
  | nil => simp [val]
  | cons d a ih =>
    rw [List.cons_append, val, ih, val, List.length_cons, Nat.pow_succ, Nat.mul_add, Nat.mul_comm (65536 ^ a.length) 65536, ← Nat.mul_assoc, ← Nat.mul_assoc, Nat.mul_comm (val b) 65536]
    omega
theorem val_take_drop (l : List Nat) (n : Nat) (h : n ≤ l.length) : val l = val (l.take n) + val (l.drop n) * 65536 ^ n := by
  have := val_append (l.take n) (l.drop n)
  rw [List.take_append_drop, List.length_take, Nat.min_eq_left h] at this
  exact this
theorem getD_lt {l : List Nat} (h : Digs l) (i : Nat) : l.getD i 0 < 65536 := by
  rw [List.getD_eq_getElem?_getD]
  by_cases hi : i < l.length
  · rw [List.getElem?_eq_getElem hi]; exact h _ (List.getElem_mem _)
  · rw [List.getElem?_eq_none (by omega)]; simp
theorem val_take_succ {l : List Nat} {k : Nat} (h : k < l.length) : val (l.take (k + 1)) = val (l.take k) + l.getD k 0 * 65536 ^ k := by
  rw [List.take_succ_eq_append_getElem h, val_snoc, List.length_take, Nat.min_eq_left (by omega), List.getD_eq_getElem?_getD, List.getElem?_eq_getElem h]
  rfl
theorem val_take_all {l : List Nat} {k : Nat} (h : l.length ≤ k) : val (l.take k) = val l := by rw [List.take_of_length_le h]
/-- The only list of digits that stands for a number and does not begin with zero. -/
theorem dig_unique : ∀ {l : List Nat}, Digs l → (l ≠ [] → 65536 ^ (l.length - 1) ≤ val l) → l = dig (val l)
  | [], _, _ => by rw [val, dig_zero]
  | [d], h, hn => by
    have h1 := h d (.head _)
    have h2 := hn (by simp)
    simp [val] at h2 ⊢
    rw [dig_pos (by omega), show d / 65536 = 0 by omega, dig_zero, Nat.mod_eq_of_lt h1]
  | d :: e :: l, h, hn => by
    have h1 := h d (.head _)
    have h2 := hn (by simp)
    have hh : Digs (e :: l) := fun x hx => h x (.tail _ hx)
    have hp : 0 < 65536 ^ l.length := Nat.pow_pos (by omega)
    have h3 : 65536 ^ ((e :: l).length - 1) ≤ val (e :: l) := by
      rw [val] at h2
      simp only [List.length_cons, Nat.add_sub_cancel] at h2 ⊢
      rw [Nat.pow_succ] at h2
      omega
    have ih := dig_unique hh (fun _ => h3)
    rw [val, dig_pos (by simp at h3; omega), show (d + 65536 * val (e :: l)) % 65536 = d by omega, show (d + 65536 * val (e :: l)) / 65536 = val (e :: l) by omega, ← ih]
/-- How many digits. -/
def nd (N : Nat) : Nat := (dig N).length
theorem nd_lt (N : Nat) : N < 65536 ^ nd N := by
  have := val_lt (digs_dig N)
  rwa [val_dig] at this
theorem nd_le {N : Nat} (h : N ≠ 0) : 65536 ^ (nd N - 1) ≤ N := by
  induction N using Nat.strongRecOn with
  | _ N ih =>
    unfold nd
    rw [dig_pos h, List.length_cons, Nat.add_sub_cancel]
    by_cases h0 : N / 65536 = 0
    · rw [h0, dig_zero]; simp; omega
    · have := ih (N / 65536) (by omega) h0
      have hl : 0 < (dig (N / 65536)).length := by rw [dig_pos h0]; simp
      obtain ⟨m, hm⟩ : ∃ m, (dig (N / 65536)).length = m + 1 := ⟨_, (Nat.sub_add_cancel hl).symm⟩
      unfold nd at this
      rw [hm, Nat.add_sub_cancel] at this
      rw [hm, Nat.pow_succ]
      omega
theorem nd_zero : nd 0 = 0 := by unfold nd; rw [dig_zero]; rfl
theorem nd_pos {N : Nat} (h : N ≠ 0) : 0 < nd N := by unfold nd; rw [dig_pos h]; simp
theorem nd_le_of {N k : Nat} (h : N < 65536 ^ k) : nd N ≤ k := by
  by_cases h0 : N = 0
  · subst h0; rw [nd_zero]; omega
  · have h1 := nd_le h0
    have h2 : 65536 ^ (nd N - 1) < 65536 ^ k := by omega
    have := (Nat.pow_lt_pow_iff_right (by omega)).1 h2
    omega
theorem lt_of_nd {N k : Nat} (h : nd N ≤ k) : N < 65536 ^ k := Nat.lt_of_lt_of_le (nd_lt N) (Nat.pow_le_pow_right (by omega) h)
/-- Digit i of N. -/
theorem dig_get (N i : Nat) : (dig N).getD i 0 = N / 65536 ^ i % 65536 := by
  induction i generalizing N with
  | zero =>
    by_cases h : N = 0
    · subst h; rw [dig_zero]; rfl
    · rw [dig_pos h]; simp
  | succ i ih =>
    by_cases h : N = 0
    · subst h; rw [dig_zero]; simp
    · rw [dig_pos h, List.getD_cons_succ, ih, Nat.div_div_eq_div_mul, Nat.pow_succ, Nat.mul_comm 65536]
theorem dig_val_take {l : List Nat} {n : Nat} (h : Digs l) (hn : n ≤ l.length) (hz : ∀ i, n ≤ i → i < l.length → l.getD i 0 = 0) (ht : n = 0 ∨ l.getD (n - 1) 0 ≠ 0) : l.take n = dig (val l) := by
  have hd : val (l.drop n) = 0 := by
    have : ∀ m : List Nat, (∀ x ∈ m, x = 0) → val m = 0 := by
      intro m hm
      induction m with
      | nil => rfl
      | cons x m ih => rw [val, hm x (.head _), ih (fun y hy => hm y (.tail _ hy))]
    refine this _ fun x hx => ?_
    obtain ⟨j, hj, rfl⟩ := List.mem_iff_getElem.1 hx
    have hj' : n + j < l.length := by simp at hj; omega
    have := hz (n + j) (by omega) hj'
    rw [List.getD_eq_getElem?_getD, List.getElem?_eq_getElem hj'] at this
    simpa using this
  have hv : val l = val (l.take n) := by rw [val_take_drop l n hn, hd]; omega
  rw [hv]
  refine dig_unique (digs_take n h) fun hne => ?_
  rcases ht with rfl | ht
  · simp at hne
  · have hn0 : 0 < n := Nat.pos_of_ne_zero fun e => by subst e; simp at hne
    have hlen : (l.take n).length = n := by rw [List.length_take]; omega
    rw [hlen]
    have := val_take_succ (l := l) (k := n - 1) (by omega)
    rw [Nat.sub_add_cancel hn0] at this
    rw [this]
    have h1 : 1 ≤ l.getD (n - 1) 0 := by omega
    have := Nat.mul_le_mul_right (65536 ^ (n - 1)) h1
    omega
/-- Comparing numbers of one length from the highest digit on. -/
theorem val_cmp {a b : List Nat} (ha : Digs a) (hb : Digs b) (i : Nat) (hia : i < a.length) (hl : a.length = b.length) (he : ∀ j, i < j → j < a.length → a.getD j 0 = b.getD j 0) (hlt : a.getD i 0 < b.getD i 0) : val a < val b := by
  have h1 := val_take_drop a (i + 1) (by omega)
  have h2 := val_take_drop b (i + 1) (by omega)
  have hd : a.drop (i + 1) = b.drop (i + 1) := by
    apply List.ext_getElem (by simp; omega)
    intro n hn1 hn2
    simp only [List.length_drop] at hn1 hn2
    have := he (i + 1 + n) (by omega) (by omega)
    rw [List.getD_eq_getElem?_getD, List.getD_eq_getElem?_getD, List.getElem?_eq_getElem (by omega), List.getElem?_eq_getElem (by omega)] at this
    simpa using this
  rw [hd] at h1
  rw [h1, h2, val_take_succ hia, val_take_succ (l := b) (by omega)]
  have h3 := val_lt (digs_take i ha)
  rw [List.length_take, Nat.min_eq_left (by omega)] at h3
  have := Nat.mul_le_mul_right (65536 ^ i) (show a.getD i 0 + 1 ≤ b.getD i 0 by omega)
  rw [Nat.add_mul] at this
  omega
theorem val_eq_of {a b : List Nat} (hl : a.length = b.length) (he : ∀ j, j < a.length → a.getD j 0 = b.getD j 0) : val a = val b := by
  have : a = b := by
    apply List.ext_getElem hl
    intro n h1 h2
    have := he n h1
    rw [List.getD_eq_getElem?_getD, List.getD_eq_getElem?_getD, List.getElem?_eq_getElem h1, List.getElem?_eq_getElem h2] at this
    simpa using this
  rw [this]
end Go.Proofs.Ythikkajjnfeigaa
