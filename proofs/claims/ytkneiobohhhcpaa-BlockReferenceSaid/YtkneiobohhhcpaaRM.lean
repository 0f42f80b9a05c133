/- Texts R, R1, R2, R3, R4, R5, R6, R7, R10, R11, R12, R13, R14, R15, in one. -/
import Derived.Test.YtkneiobohhhcpaaB
import Derived.WalkKit
import Derived.KernelRfl
import Derived.RowKit3
import Derived.Deep.LoopGhost
import Derived.Deep.QuietTactic
import Derived.BigQuiet
import Derived.WideLaws
import Derived.Laws.Rows
import Derived.Below
import Derived.Deep.Draws
import Derived.Outline
import Derived.LoopN
import Derived.Handy
import Derived.Laws.Externs
import Derived.Laws.BitsAllLaws
import Derived.Laws.BitsLemmas
import Derived.Deep.DeepCutAuto
import Derived.Deep.CutBlock
import Derived.Deep.RegionHeld3
import Derived.Test.YtkneiobohhhcpaaProg
import Derived.Test.YtkneiobohhhcpaaU
import Derived.OwnWalk
import Derived.Laws.MakeOwn
/- Numbers as lists of digits to the base 65536, the least first: plain lemmas. -/
namespace Go.Proofs.Ytkneiobohhhcpaa
open Go.RowKit
set_option linter.unusedVariables false
/-- What a list of digits stands for. -/
def val : List Nat → Nat
  | [] => 0
  | d :: l => d + 65536 * val l
def Digs (l : List Nat) : Prop := ∀ d ∈ l, d < 65536
/-- The digits of N, without a leading zero. -/
def dig (N : Nat) : List Nat := if h : N = 0 then [] else N % 65536 :: dig (N / 65536)
termination_by N
decreasing_by omega
theorem dig_zero : dig 0 = [] := by rw [dig]; rfl
theorem dig_pos {N : Nat} (h : N ≠ 0) : dig N = N % 65536 :: dig (N / 65536) := by rw [dig, dif_neg h]
theorem val_dig (N : Nat) : val (dig N) = N := by
  induction N using Nat.strongRecOn with
  | _ N ih =>
    by_cases h : N = 0
    · subst h; rw [dig_zero]; rfl
    · rw [dig_pos h, val, ih (N / 65536) (by omega)]
      omega
theorem digs_dig (N : Nat) : Digs (dig N) := by
  induction N using Nat.strongRecOn with
  | _ N ih =>
    by_cases h : N = 0
    · subst h; rw [dig_zero]; intro d hd; simp at hd
    · rw [dig_pos h]
      intro d hd
      rcases List.mem_cons.1 hd with rfl | hd
      · omega
      · exact ih _ (by omega) d hd
theorem val_lt {l : List Nat} (h : Digs l) : val l < 65536 ^ l.length := by
  induction l with
  | nil => decide
  | cons d l ih =>
    have h1 := h d (.head _)
    have h2 := ih (fun x hx => h x (.tail _ hx))
    rw [val, List.length_cons, Nat.pow_succ]
    omega
theorem val_snoc (l : List Nat) (x : Nat) : val (l ++ [x]) = val l + x * 65536 ^ l.length := by
  induction l with
  | nil => simp [val]
  | cons d l ih =>
    rw [List.cons_append, val, ih, val, List.length_cons, Nat.pow_succ]
    rw [Nat.mul_add, ← Nat.mul_assoc 65536 x, Nat.mul_comm 65536 x, Nat.mul_assoc x, Nat.mul_comm 65536 (65536 ^ _)]
    omega
theorem val_set {l : List Nat} {i x : Nat} (hi : i < l.length) : val (l.set i x) + l.getD i 0 * 65536 ^ i = val l + x * 65536 ^ i := by
  induction l generalizing i with
  | nil => simp at hi
  | cons d l ih =>
    cases i with
    | zero => simp [val]; omega
    | succ i =>
      have := ih (i := i) (by simpa using hi)
      simp only [List.set_cons_succ, val, List.getD_cons_succ]
      rw [Nat.pow_succ, Nat.mul_comm (65536 ^ i) 65536, ← Nat.mul_assoc, ← Nat.mul_assoc, Nat.mul_comm _ 65536, Nat.mul_comm _ 65536, Nat.mul_assoc, Nat.mul_assoc]
      omega
theorem digs_set {l : List Nat} {i x : Nat} (h : Digs l) (hx : x < 65536) : Digs (l.set i x) := by
  intro d hd
  rcases List.mem_or_eq_of_mem_set hd with h' | rfl
  · exact h d h'
  · exact hx
theorem digs_snoc {l : List Nat} {x : Nat} (h : Digs l) (hx : x < 65536) : Digs (l ++ [x]) := by
  intro d hd
  rcases List.mem_append.1 hd with h' | h'
  · exact h d h'
  · simp at h'; omega
theorem digs_take {l : List Nat} (n : Nat) (h : Digs l) : Digs (l.take n) := fun d hd => h d (List.mem_of_mem_take hd)
theorem digs_drop {l : List Nat} (n : Nat) (h : Digs l) : Digs (l.drop n) := fun d hd => h d (List.mem_of_mem_drop hd)
theorem digs_rep (n : Nat) : Digs (List.replicate n 0) := fun d hd => by rw [(List.mem_replicate.1 hd).2]; omega
theorem val_rep (n : Nat) : val (List.replicate n 0) = 0 := by
  induction n with
  | zero => rfl
  | succ n ih => rw [List.replicate_succ, val, ih]
theorem val_append (a b : List Nat) : val (a ++ b) = val a + val b * 65536 ^ a.length := by
  induction a with
  | nil => simp [val]
  | cons d a ih =>
    rw [List.cons_append, val, ih, val, List.length_cons, Nat.pow_succ, Nat.mul_add, Nat.mul_comm (65536 ^ a.length) 65536, ← Nat.mul_assoc, ← Nat.mul_assoc, Nat.mul_comm (val b) 65536]
    omega
theorem val_take_drop (l : List Nat) (n : Nat) (h : n ≤ l.length) : val l = val (l.take n) + val (l.drop n) * 65536 ^ n := by
  have := val_append (l.take n) (l.drop n)
  rw [List.take_append_drop, List.length_take, Nat.min_eq_left h] at this
  exact this
theorem getD_lt {l : List Nat} (h : Digs l) (i : Nat) : l.getD i 0 < 65536 := by
  rw [List.getD_eq_getElem?_getD]
  by_cases hi : i < l.length
  · rw [List.getElem?_eq_getElem hi]; exact h _ (List.getElem_mem _)
  · rw [List.getElem?_eq_none (by omega)]; simp
theorem val_take_succ {l : List Nat} {k : Nat} (h : k < l.length) : val (l.take (k + 1)) = val (l.take k) + l.getD k 0 * 65536 ^ k := by
  rw [List.take_succ_eq_append_getElem h, val_snoc, List.length_take, Nat.min_eq_left (by omega), List.getD_eq_getElem?_getD, List.getElem?_eq_getElem h]
  rfl
theorem val_take_all {l : List Nat} {k : Nat} (h : l.length ≤ k) : val (l.take k) = val l := by rw [List.take_of_length_le h]
/-- The only list of digits that stands for a number and does not begin with zero. -/
theorem dig_unique : ∀ {l : List Nat}, Digs l → (l ≠ [] → 65536 ^ (l.length - 1) ≤ val l) → l = dig (val l)
  | [], _, _ => by rw [val, dig_zero]
  | [d], h, hn => by
    have h1 := h d (.head _)
    have h2 := hn (by simp)
    simp [val] at h2 ⊢
    rw [dig_pos (by omega), show d / 65536 = 0 by omega, dig_zero, Nat.mod_eq_of_lt h1]
  | d :: e :: l, h, hn => by
    have h1 := h d (.head _)
    have h2 := hn (by simp)
    have hh : Digs (e :: l) := fun x hx => h x (.tail _ hx)
    have hp : 0 < 65536 ^ l.length := Nat.pow_pos (by omega)
    have h3 : 65536 ^ ((e :: l).length - 1) ≤ val (e :: l) := by
      rw [val] at h2
      simp only [List.length_cons, Nat.add_sub_cancel] at h2 ⊢
      rw [Nat.pow_succ] at h2
      omega
    have ih := dig_unique hh (fun _ => h3)
    rw [val, dig_pos (by simp at h3; omega), show (d + 65536 * val (e :: l)) % 65536 = d by omega, show (d + 65536 * val (e :: l)) / 65536 = val (e :: l) by omega, ← ih]
/-- How many digits. -/
def nd (N : Nat) : Nat := (dig N).length
theorem nd_lt (N : Nat) : N < 65536 ^ nd N := by
  have := val_lt (digs_dig N)
  rwa [val_dig] at this
theorem nd_le {N : Nat} (h : N ≠ 0) : 65536 ^ (nd N - 1) ≤ N := by
  induction N using Nat.strongRecOn with
  | _ N ih =>
    unfold nd
    rw [dig_pos h, List.length_cons, Nat.add_sub_cancel]
    by_cases h0 : N / 65536 = 0
    · rw [h0, dig_zero]; simp; omega
    · have := ih (N / 65536) (by omega) h0
      have hl : 0 < (dig (N / 65536)).length := by rw [dig_pos h0]; simp
      obtain ⟨m, hm⟩ : ∃ m, (dig (N / 65536)).length = m + 1 := ⟨_, (Nat.sub_add_cancel hl).symm⟩
      unfold nd at this
      rw [hm, Nat.add_sub_cancel] at this
      rw [hm, Nat.pow_succ]
      omega
theorem nd_zero : nd 0 = 0 := by unfold nd; rw [dig_zero]; rfl
theorem nd_pos {N : Nat} (h : N ≠ 0) : 0 < nd N := by unfold nd; rw [dig_pos h]; simp
theorem nd_le_of {N k : Nat} (h : N < 65536 ^ k) : nd N ≤ k := by
  by_cases h0 : N = 0
  · subst h0; rw [nd_zero]; omega
  · have h1 := nd_le h0
    have h2 : 65536 ^ (nd N - 1) < 65536 ^ k := by omega
    have := (Nat.pow_lt_pow_iff_right (by omega)).1 h2
    omega
theorem lt_of_nd {N k : Nat} (h : nd N ≤ k) : N < 65536 ^ k := Nat.lt_of_lt_of_le (nd_lt N) (Nat.pow_le_pow_right (by omega) h)
/-- Digit i of N. -/
theorem dig_get (N i : Nat) : (dig N).getD i 0 = N / 65536 ^ i % 65536 := by
  induction i generalizing N with
  | zero =>
    by_cases h : N = 0
    · subst h; rw [dig_zero]; rfl
    · rw [dig_pos h]; simp
  | succ i ih =>
    by_cases h : N = 0
    · subst h; rw [dig_zero]; simp
    · rw [dig_pos h, List.getD_cons_succ, ih, Nat.div_div_eq_div_mul, Nat.pow_succ, Nat.mul_comm 65536]
theorem dig_val_take {l : List Nat} {n : Nat} (h : Digs l) (hn : n ≤ l.length) (hz : ∀ i, n ≤ i → i < l.length → l.getD i 0 = 0) (ht : n = 0 ∨ l.getD (n - 1) 0 ≠ 0) : l.take n = dig (val l) := by
  have hd : val (l.drop n) = 0 := by
    have : ∀ m : List Nat, (∀ x ∈ m, x = 0) → val m = 0 := by
      intro m hm
      induction m with
      | nil => rfl
      | cons x m ih => rw [val, hm x (.head _), ih (fun y hy => hm y (.tail _ hy))]
    refine this _ fun x hx => ?_
    obtain ⟨j, hj, rfl⟩ := List.mem_iff_getElem.1 hx
    have hj' : n + j < l.length := by simp at hj; omega
    have := hz (n + j) (by omega) hj'
    rw [List.getD_eq_getElem?_getD, List.getElem?_eq_getElem hj'] at this
    simpa using this
  have hv : val l = val (l.take n) := by rw [val_take_drop l n hn, hd]; omega
  rw [hv]
  refine dig_unique (digs_take n h) fun hne => ?_
  rcases ht with rfl | ht
  · simp at hne
  · have hn0 : 0 < n := Nat.pos_of_ne_zero fun e => by subst e; simp at hne
    have hlen : (l.take n).length = n := by rw [List.length_take]; omega
    rw [hlen]
    have := val_take_succ (l := l) (k := n - 1) (by omega)
    rw [Nat.sub_add_cancel hn0] at this
    rw [this]
    have h1 : 1 ≤ l.getD (n - 1) 0 := by omega
    have := Nat.mul_le_mul_right (65536 ^ (n - 1)) h1
    omega
/-- Comparing numbers of one length from the highest digit on. -/
theorem val_cmp {a b : List Nat} (ha : Digs a) (hb : Digs b) (i : Nat) (hia : i < a.length) (hl : a.length = b.length) (he : ∀ j, i < j → j < a.length → a.getD j 0 = b.getD j 0) (hlt : a.getD i 0 < b.getD i 0) : val a < val b := by
  have h1 := val_take_drop a (i + 1) (by omega)
  have h2 := val_take_drop b (i + 1) (by omega)
  have hd : a.drop (i + 1) = b.drop (i + 1) := by
    apply List.ext_getElem (by simp; omega)
    intro n hn1 hn2
    simp only [List.length_drop] at hn1 hn2
    have := he (i + 1 + n) (by omega) (by omega)
    rw [List.getD_eq_getElem?_getD, List.getD_eq_getElem?_getD, List.getElem?_eq_getElem (by omega), List.getElem?_eq_getElem (by omega)] at this
    simpa using this
  rw [hd] at h1
  rw [h1, h2, val_take_succ hia, val_take_succ (l := b) (by omega)]
  have h3 := val_lt (digs_take i ha)
  rw [List.length_take, Nat.min_eq_left (by omega)] at h3
  have := Nat.mul_le_mul_right (65536 ^ i) (show a.getD i 0 + 1 ≤ b.getD i 0 by omega)
  rw [Nat.add_mul] at this
  omega
theorem val_eq_of {a b : List Nat} (hl : a.length = b.length) (he : ∀ j, j < a.length → a.getD j 0 = b.getD j 0) : val a = val b := by
  have : a = b := by
    apply List.ext_getElem hl
    intro n h1 h2
    have := he n h1
    rw [List.getD_eq_getElem?_getD, List.getD_eq_getElem?_getD, List.getElem?_eq_getElem h1, List.getElem?_eq_getElem h2] at this
    simpa using this
  rw [this]
end Go.Proofs.Ytkneiobohhhcpaa
/- Package pontageref1, walked: norm and Cmp. -/
namespace Go.Proofs.Ytkneiobohhhcpaa
open Go.RowKit
set_option linter.unusedVariables false
set_option linter.unusedSimpArgs false
/-- The cells at this address hold these digits. -/
def Row (w : World) (ad : Option Addr) (l : List Nat) : Prop := l ≠ [] → ∃ b o, ad = some ⟨b, o, none⟩ ∧ ∀ i, i < l.length → w.cell? ⟨b, o + i, none⟩ = some (.int .i64 ((l.getD i 0 : Nat) : Int))
theorem Row.below {w w' : World} {ad : Option Addr} {l : List Nat} {B : Nat} (h : Row w ad l) (hb : Below B w w') (hB : w.heap.size ≤ B) : Row w' ad l := by
  intro hl
  obtain ⟨b, o, rfl, hc⟩ := h hl
  refine ⟨b, o, rfl, fun i hi => ?_⟩
  have hbl : b < w.heap.size := World.block_lt_of_cell? w _ (hc i hi)
  exact (hb.cell (p := ⟨b, o + i, none⟩) (by show b < B; omega)).trans (hc i hi)
theorem Row.take {w : World} {ad : Option Addr} {l : List Nat} (h : Row w ad l) (n : Nat) : Row w ad (l.take n) := by
  intro hl
  obtain ⟨b, o, rfl, hc⟩ := h (fun e => hl (by rw [e]; simp))
  refine ⟨b, o, rfl, fun i hi => ?_⟩
  simp only [List.length_take] at hi
  rw [hc i (by omega), List.getD_eq_getElem?_getD, List.getD_eq_getElem?_getD, List.getElem?_take, if_pos (by omega)]
theorem Row.nil (w : World) (ad : Option Addr) : Row w ad [] := fun h => absurd rfl h
set_option maxHeartbeats 1000000 in
theorem norm_c {l : List Nat} (hd : Digs l) (ad : Option Addr) (n c : Nat) (hn : n = l.length) (hc : n ≤ c) (hlen : n ≤ 1000000) (w : World) (hrow : Row w ad l) :
    Calls Try.prog 52 #[.slice ad n c] w fun e w' => e = .returned (.slice ad (nd (val l)) c) ∧ w = w' := by
  have HN := hide hn
  have HR := hide hrow
  have HD := hide hd
  clear hn hrow hd
  go_enter Try.func52, Try.ntmps52
  go_wp2
  go_loop [3] (fun v3 => ∃ k : Nat, k ≤ n ∧ v3 = .int .i64 k ∧ Hid (∀ i, k ≤ i → i < l.length → l.getD i 0 = 0)) (fun v3 => (intOf v3).toNat)
  case atStart => exact ⟨n, Nat.le_refl _, rfl, hide (fun i h1 h2 => by have := HN.out; omega)⟩
  case round =>
    obtain ⟨k, hk, rfl, HZ⟩ := hrel
    by_cases h0 : 0 < k
    · obtain ⟨b, o, rfl, hcell⟩ := HR.out (by intro e; have := HN.out; rw [e] at this; simp at this; omega)
      have hx := hcell (k - 1) (by have := HN.out; omega)
      clear hcell
      obtain ⟨d, hdd⟩ : ∃ d, l.getD (k - 1) 0 = d := ⟨_, rfl⟩
      rw [hdd] at hx
      replace hdd := hide hdd
      by_cases hz : d = 0
      · subst hz
        go_wp2
        go_round
        case rel =>
          refine ⟨k - 1, by omega, by go_num, hide (fun i h1 h2 => ?_)⟩
          by_cases e : i = k - 1
          · subst e; exact hdd.out
          · exact HZ.out i (by omega) h2
        case measure => simp [intOf]; omega
      · have t : (((d : Nat) : Int) == 0) = false := by simpa using hz
        have HX := hide (dig_val_take (n := k) HD.out (by have := HN.out; omega) HZ.out (.inr (by rw [hdd.out]; exact hz)))
        clear hz
        go_wp2
        go_ret
        have e : nd (val l) = k := by unfold nd; rw [← HX.out, List.length_take]; have := HN.out; omega
        rw [e]
        exact ⟨rfl, rfl⟩
    · obtain rfl : k = 0 := by omega
      have HX := hide (dig_val_take (n := 0) HD.out (by omega) HZ.out (.inl rfl))
      go_wp2
      go_ret
      have e : nd (val l) = 0 := by unfold nd; rw [← HX.out, List.length_take]; omega
      rw [e]
      exact ⟨rfl, rfl⟩
theorem norm_row {l : List Nat} (hd : Digs l) : l.take (nd (val l)) = dig (val l) := by
  have hv := val_lt hd
  have h1 := nd_le_of hv
  by_cases h0 : val l = 0
  · rw [h0, nd_zero, dig_zero, List.take_zero]
  · have : ∀ i, i < nd (val l) → (l.take (nd (val l))).getD i 0 = (dig (val l)).getD i 0 := by
      intro i hi
      rw [dig_get, List.getD_eq_getElem?_getD, List.getElem?_take, if_pos hi]
      have h2 := val_take_drop l i (by omega)
      have h3 := val_lt (digs_take i hd)
      rw [List.length_take, Nat.min_eq_left (by omega)] at h3
      have h4 : val l / 65536 ^ i = val (l.drop i) := by
        rw [h2, Nat.add_mul_div_right _ _ (Nat.pow_pos (by omega)), Nat.div_eq_of_lt h3, Nat.zero_add]
      rw [h4, List.drop_eq_getElem_cons (by omega), val, List.getElem?_eq_getElem (by omega)]
      have := hd l[i] (List.getElem_mem _)
      simp only [Option.getD_some]
      omega
    apply List.ext_getElem
    · rw [List.length_take]; unfold nd at *; omega
    · intro n h3 h4
      have := this n (by unfold nd; exact h4)
      rw [List.getD_eq_getElem?_getD, List.getD_eq_getElem?_getD, List.getElem?_eq_getElem h3, List.getElem?_eq_getElem h4] at this
      simpa using this
theorem nd_cmp {A B : Nat} (h : nd A < nd B) : A < B := by
  have h1 := nd_lt A
  have h2 := nd_le (N := B) (fun e => by subst e; rw [nd_zero] at h; omega)
  have := Nat.pow_le_pow_right (n := 65536) (by omega) (show nd A ≤ nd B - 1 by omega)
  omega
theorem cmpV_lt {A B : Nat} (h : A < B) : cmpV A B = -1 := by rw [cmpV, if_pos h]
theorem cmpV_gt {A B : Nat} (h : B < A) : cmpV A B = 1 := by rw [cmpV, if_neg (by omega), if_pos h]
theorem cmpV_eq {A B : Nat} (h : A = B) : cmpV A B = 0 := by rw [cmpV, if_neg (by omega), if_neg (by omega)]
set_option maxHeartbeats 2000000 in
theorem rcmp_c {A B : Nat} (ad : Option Addr) (n c : Nat) (hn : Hid (n = nd A)) (ad' : Option Addr) (n' c' : Nat) (hn' : Hid (n' = nd B)) (hlen : n ≤ 100000) (hlen' : n' ≤ 100000) (w : World) (hrow : Hid (Row w ad (dig A))) (hrow' : Hid (Row w ad' (dig B))) :
    Calls Try.prog 51 #[.slice ad n c, .slice ad' n' c'] w fun e w' => e = .returned (.int .i64 (cmpV A B)) ∧ Below w.heap.size w w' := by
  by_cases hl : n = n'
  · subst hl
    have HL := hide (hn.out.symm.trans hn'.out)
    go_enter Try.func51, Try.ntmps51
    go_wp2
    go_loopw [5] (fun v5 wr => ∃ k : Nat, k ≤ n ∧ v5 = .int .i64 (k - 1) ∧ Hid (∀ j, k ≤ j → j < n → (dig A).getD j 0 = (dig B).getD j 0) ∧ Hid (Below w.heap.size w wr)) (fun v5 _ => (intOf v5 + 1).toNat)
    case atStart => exact ⟨n, Nat.le_refl _, rfl, hide (fun j h1 h2 => by omega), hide (Below.refl _ _)⟩
    case round =>
      obtain ⟨k, hk, rfl, HE, HB⟩ := hrel
      by_cases h0 : 0 < k
      · have tk : decide (0 ≤ ((k : Nat) : Int) - 1) = true := decide_eq_true (by omega)
        obtain ⟨b, o, rfl, hcell⟩ := hrow.out (by intro e; have := hn.out; unfold nd at this; rw [e] at this; simp at this; omega)
        obtain ⟨b', o', rfl, hcell'⟩ := hrow'.out (by intro e; have := hn'.out; unfold nd at this; rw [e] at this; simp at this; omega)
        have hx := hcell (k - 1) (by have := hn.out; unfold nd at this; omega)
        have hx' := hcell' (k - 1) (by have := hn'.out; unfold nd at this; omega)
        have hbl := World.block_lt_of_cell? w _ hx
        have hbl' := World.block_lt_of_cell? w _ hx'
        replace hx := (HB.out.cell (p := ⟨b, o + (k - 1), none⟩) hbl).trans hx
        replace hx' := (HB.out.cell (p := ⟨b', o' + (k - 1), none⟩) hbl').trans hx'
        clear hcell hcell' hbl hbl'
        obtain ⟨d, hd⟩ : ∃ d, (dig A).getD (k - 1) 0 = d := ⟨_, rfl⟩
        obtain ⟨d', hd'⟩ : ∃ d', (dig B).getD (k - 1) 0 = d' := ⟨_, rfl⟩
        rw [hd] at hx
        rw [hd'] at hx'
        replace hd := hide hd
        replace hd' := hide hd'
        have q1 : 0 ≤ ((k : Nat) : Int) - 1 := by omega
        have q2 : ((k : Nat) : Int) - 1 < (n : Int) := by omega
        have q3 : (((k : Nat) : Int) - 1).toNat = k - 1 := by omega
        have hca := hide (fun (h : d < d') => val_cmp (digs_dig A) (digs_dig B) (k - 1) (by have := hn.out; unfold nd at this; omega) HL.out (fun j h1 h2 => HE.out j (by omega) (by have := hn.out; unfold nd at this; omega)) (by rw [hd.out, hd'.out]; exact h))
        have hcb := hide (fun (h : d' < d) => val_cmp (digs_dig B) (digs_dig A) (k - 1) (by have := hn'.out; unfold nd at this; omega) HL.out.symm (fun j h1 h2 => (HE.out j (by omega) (by have := hn'.out; unfold nd at this; omega)).symm) (by rw [hd.out, hd'.out]; exact h))
        rcases Nat.lt_trichotomy d d' with h | h | h
        · have t : decide (d < d') = true := decide_eq_true (by omega)
          have hv := hca.out h
          rw [val_dig, val_dig] at hv
          have HV := hide hv
          clear h hv hca hcb
          go_wp2
          repeat' ((first | go_quiet (fail)); go_wp2)
          go_ret
          have hb := HB.out
          exact ⟨ret_int (cmpV_lt HV.out).symm, (by (repeat' (first | (with_reducible exact Below.refl _ _) | (with_reducible assumption) | (with_reducible refine Below.alloc ?_ ?_ _) | (with_reducible refine Below.drew ?_) | (with_reducible refine below_drewN ?_ _) | (with_reducible refine Below.setCell ?_ ?_ _) | (with_reducible refine below_step (by with_reducible assumption) ?_ ?_) | (first | (with_reducible exact Nat.le_refl _) | (with_reducible assumption) | omega | (simp only [World.size_alloc, World.size_setCell, World.size_drew, size_drewN]; omega) | (simp; omega) | (simp; done)))))⟩
        · have t : decide (d < d') = false := decide_eq_false (by omega)
          have t' : decide (d' < d) = false := decide_eq_false (by omega)
          have H := hide h
          clear h hca hcb
          go_wp2
          repeat' ((first | go_quiet (fail)); go_wp2)
          go_roundw
          case rel =>
            have hb := HB.out
            refine ⟨k - 1, by omega, by go_num, hide (fun j h1 h2 => ?_), hide (by (repeat' (first | (with_reducible exact Below.refl _ _) | (with_reducible assumption) | (with_reducible refine Below.alloc ?_ ?_ _) | (with_reducible refine Below.drew ?_) | (with_reducible refine below_drewN ?_ _) | (with_reducible refine Below.setCell ?_ ?_ _) | (with_reducible refine below_step (by with_reducible assumption) ?_ ?_) | (first | (with_reducible exact Nat.le_refl _) | (with_reducible assumption) | omega | (simp only [World.size_alloc, World.size_setCell, World.size_drew, size_drewN]; omega) | (simp; omega) | (simp; done)))))⟩
            by_cases e : j = k - 1
            · subst e; rw [hd.out, hd'.out, H.out]
            · exact HE.out j (by omega) h2
          case measure => simp [intOf]; omega
        · have t : decide (d < d') = false := decide_eq_false (by omega)
          have t' : decide (d' < d) = true := decide_eq_true (by omega)
          have hv := hcb.out h
          rw [val_dig, val_dig] at hv
          have HV := hide hv
          clear h hv hca hcb
          go_wp2
          repeat' ((first | go_quiet (fail)); go_wp2)
          go_ret
          have hb := HB.out
          exact ⟨ret_int (cmpV_gt HV.out).symm, (by (repeat' (first | (with_reducible exact Below.refl _ _) | (with_reducible assumption) | (with_reducible refine Below.alloc ?_ ?_ _) | (with_reducible refine Below.drew ?_) | (with_reducible refine below_drewN ?_ _) | (with_reducible refine Below.setCell ?_ ?_ _) | (with_reducible refine below_step (by with_reducible assumption) ?_ ?_) | (first | (with_reducible exact Nat.le_refl _) | (with_reducible assumption) | omega | (simp only [World.size_alloc, World.size_setCell, World.size_drew, size_drewN]; omega) | (simp; omega) | (simp; done)))))⟩
      · obtain rfl : k = 0 := by omega
        have hv : A = B := by
          have := val_eq_of HL.out (fun j hj => HE.out j (by omega) (by have := hn.out; unfold nd at this; omega))
          rwa [val_dig, val_dig] at this
        have HV := hide hv
        clear hv
        go_wp2
        go_ret
        have hb := HB.out
        exact ⟨ret_int (cmpV_eq HV.out).symm, (by (repeat' (first | (with_reducible exact Below.refl _ _) | (with_reducible assumption) | (with_reducible refine Below.alloc ?_ ?_ _) | (with_reducible refine Below.drew ?_) | (with_reducible refine below_drewN ?_ _) | (with_reducible refine Below.setCell ?_ ?_ _) | (with_reducible refine below_step (by with_reducible assumption) ?_ ?_) | (first | (with_reducible exact Nat.le_refl _) | (with_reducible assumption) | omega | (simp only [World.size_alloc, World.size_setCell, World.size_drew, size_drewN]; omega) | (simp; omega) | (simp; done)))))⟩
  · have t1 : (n != n') = true := by rw [bne_iff_ne]; omega
    have t0 : ((n : Int) != (n' : Int)) = true := by rw [bne_iff_ne]; omega
    rcases Nat.lt_or_gt_of_ne hl with h | h
    · have t2 : decide (n < n') = true := decide_eq_true (by omega)
      have hv := nd_cmp (A := A) (B := B) (by have := hn.out; have := hn'.out; omega)
      have HV := hide hv
      clear hv h hl
      go_enter Try.func51, Try.ntmps51
      go_wp2
      go_ret
      exact ⟨ret_int (cmpV_lt HV.out).symm, (by (repeat' (first | (with_reducible exact Below.refl _ _) | (with_reducible assumption) | (with_reducible refine Below.alloc ?_ ?_ _) | (with_reducible refine Below.drew ?_) | (with_reducible refine below_drewN ?_ _) | (with_reducible refine Below.setCell ?_ ?_ _) | (with_reducible refine below_step (by with_reducible assumption) ?_ ?_) | (first | (with_reducible exact Nat.le_refl _) | (with_reducible assumption) | omega | (simp only [World.size_alloc, World.size_setCell, World.size_drew, size_drewN]; omega) | (simp; omega) | (simp; done)))))⟩
    · have t2 : decide (n < n') = false := decide_eq_false (by omega)
      have hv := nd_cmp (A := B) (B := A) (by have := hn.out; have := hn'.out; omega)
      have HV := hide hv
      clear hv h hl
      go_enter Try.func51, Try.ntmps51
      go_wp2
      go_ret
      exact ⟨ret_int (cmpV_gt HV.out).symm, (by (repeat' (first | (with_reducible exact Below.refl _ _) | (with_reducible assumption) | (with_reducible refine Below.alloc ?_ ?_ _) | (with_reducible refine Below.drew ?_) | (with_reducible refine below_drewN ?_ _) | (with_reducible refine Below.setCell ?_ ?_ _) | (with_reducible refine below_step (by with_reducible assumption) ?_ ?_) | (first | (with_reducible exact Nat.le_refl _) | (with_reducible assumption) | omega | (simp only [World.size_alloc, World.size_setCell, World.size_drew, size_drewN]; omega) | (simp; omega) | (simp; done)))))⟩
end Go.Proofs.Ytkneiobohhhcpaa
/- Package pontageref1, walked: the conversions. -/
namespace Go.Proofs.Ytkneiobohhhcpaa
open Go.RowKit
set_option linter.unusedVariables false
set_option linter.unusedSimpArgs false
theorem and_u64 (x : Int) : bits .and .u64 x 65535 = x % 65536 := by
  show IntKind.u64.wrap ((BitVec.ofInt 64 x &&& BitVec.ofInt 64 65535).toNat : Int) = _
  rw [BitVec.toNat_and, show (BitVec.ofInt 64 65535).toNat = 2 ^ 16 - 1 from rfl, Nat.and_two_pow_sub_one_eq_mod, BitVec.toNat_ofInt, IntKind.wrap_u64]
  omega
theorem and_i64 (x : Int) : bits .and .i64 x 65535 = x % 65536 := by
  show IntKind.i64.wrap ((BitVec.ofInt 64 x &&& BitVec.ofInt 64 65535).toNat : Int) = _
  rw [BitVec.toNat_and, show (BitVec.ofInt 64 65535).toNat = 2 ^ 16 - 1 from rfl, Nat.and_two_pow_sub_one_eq_mod, BitVec.toNat_ofInt, IntKind.wrap_i64]
  omega
theorem make16 (W : World) : (Instr.makeSlice 60 (.int .i64 16) (.int .i64 16)).run Try.prog W = .ok (.slice (some ⟨W.heap.size, 0, none⟩) 16 16) (W.alloc (.cells #[.int .i64 0, .int .i64 0, .int .i64 0, .int .i64 0, .int .i64 0, .int .i64 0, .int .i64 0, .int .i64 0, .int .i64 0, .int .i64 0, .int .i64 0, .int .i64 0, .int .i64 0, .int .i64 0, .int .i64 0, .int .i64 0] 3)) := by kernel_rfl
theorem Row.alloc (W : World) (l : List Nat) (t : TypeId) : Row (W.alloc (.cells (l.map fun d : Nat => Value.int .i64 (d : Int)).toArray t)) (some ⟨W.heap.size, 0, none⟩) l := by
  intro _
  refine ⟨_, _, rfl, fun i hi => ?_⟩
  rw [Nat.zero_add, List.getD_eq_getElem?_getD, List.getElem?_eq_getElem hi]
  simp [go_sem, hi]
/-- A number in memory: n digits, at this address. -/
structure Big (w : World) (ad : Option Addr) (n c : Nat) (N : Nat) : Prop where
  hn : n = nd N
  hc : n ≤ c
  row : Row w ad (dig N)
theorem Big.below {w w' : World} {ad : Option Addr} {n c N B : Nat} (h : Big w ad n c N) (hb : Below B w w') (hB : w.heap.size ≤ B) : Big w' ad n c N := ⟨h.hn, h.hc, h.row.below hb hB⟩
theorem Big.lt {w : World} {ad : Option Addr} {n c N k : Nat} (h : Big w ad n c N) (hk : n ≤ k) : N < 65536 ^ k := lt_of_nd (by rw [← h.hn]; exact hk)
def dl16 (a0 a1 a2 a3 : Int) : List Nat := [(a0 % 65536).toNat, (a0 / 65536 % 65536).toNat, (a0 / 4294967296 % 65536).toNat, (a0 / 281474976710656 % 65536).toNat, (a1 % 65536).toNat, (a1 / 65536 % 65536).toNat, (a1 / 4294967296 % 65536).toNat, (a1 / 281474976710656 % 65536).toNat, (a2 % 65536).toNat, (a2 / 65536 % 65536).toNat, (a2 / 4294967296 % 65536).toNat, (a2 / 281474976710656 % 65536).toNat, (a3 % 65536).toNat, (a3 / 65536 % 65536).toNat, (a3 / 4294967296 % 65536).toNat, (a3 / 281474976710656 % 65536).toNat]
theorem tn (x : Int) : (x % 65536).toNat < 65536 := by omega
theorem limb4 {x : Int} (h0 : 0 ≤ x) (h1 : x < 18446744073709551616) : (x % 65536).toNat + 65536 * ((x / 65536 % 65536).toNat + 65536 * ((x / 4294967296 % 65536).toNat + 65536 * (x / 281474976710656 % 65536).toNat)) = x.toNat := by omega
theorem dl16_val {A : Nat} {a0 a1 a2 a3 : Int} (hA : isU A a0 a1 a2 a3) : val (dl16 a0 a1 a2 a3) = A ∧ Digs (dl16 a0 a1 a2 a3) := by
  obtain ⟨p0, p1, p2, p3, q0, q1, q2, q3, v⟩ := hA
  have hv : A = a0.toNat + 18446744073709551616 * a1.toNat + 340282366920938463463374607431768211456 * a2.toNat + 6277101735386680763835789423207666416102355444464034512896 * a3.toNat := by omega
  have h0 := limb4 p0 q0
  have h1 := limb4 p1 q1
  have h2 := limb4 p2 q2
  have h3 := limb4 p3 q3
  rw [hv, ← h0, ← h1, ← h2, ← h3]
  clear hv h0 h1 h2 h3 v p0 p1 p2 p3 q0 q1 q2 q3
  constructor
  · simp only [dl16, val]
    generalize (a0 % 65536).toNat = x0 at *
    generalize (a0 / 65536 % 65536).toNat = x1 at *
    generalize (a0 / 4294967296 % 65536).toNat = x2 at *
    generalize (a0 / 281474976710656 % 65536).toNat = x3 at *
    generalize (a1 % 65536).toNat = y0 at *
    generalize (a1 / 65536 % 65536).toNat = y1 at *
    generalize (a1 / 4294967296 % 65536).toNat = y2 at *
    generalize (a1 / 281474976710656 % 65536).toNat = y3 at *
    generalize (a2 % 65536).toNat = z0 at *
    generalize (a2 / 65536 % 65536).toNat = z1 at *
    generalize (a2 / 4294967296 % 65536).toNat = z2 at *
    generalize (a2 / 281474976710656 % 65536).toNat = z3 at *
    generalize (a3 % 65536).toNat = u0 at *
    generalize (a3 / 65536 % 65536).toNat = u1 at *
    generalize (a3 / 4294967296 % 65536).toNat = u2 at *
    generalize (a3 / 281474976710656 % 65536).toNat = u3 at *
    omega
  · unfold Digs dl16
    rw [List.forall_mem_cons, List.forall_mem_cons, List.forall_mem_cons, List.forall_mem_cons, List.forall_mem_cons, List.forall_mem_cons, List.forall_mem_cons, List.forall_mem_cons, List.forall_mem_cons, List.forall_mem_cons, List.forall_mem_cons, List.forall_mem_cons, List.forall_mem_cons, List.forall_mem_cons, List.forall_mem_cons, List.forall_mem_cons]
    exact ⟨tn _, tn _, tn _, tn _, tn _, tn _, tn _, tn _, tn _, tn _, tn _, tn _, tn _, tn _, tn _, tn _, fun d hd => by simp at hd⟩
theorem dl16_cells {A : Nat} {a0 a1 a2 a3 : Int} (hA : isU A a0 a1 a2 a3) : ((dl16 a0 a1 a2 a3).map fun d : Nat => Value.int .i64 (d : Int)).toArray = #[.int .i64 (a0 % 65536), .int .i64 (a0 / 65536 % 65536), .int .i64 (a0 / 4294967296 % 65536), .int .i64 (a0 / 281474976710656 % 65536), .int .i64 (a1 % 65536), .int .i64 (a1 / 65536 % 65536), .int .i64 (a1 / 4294967296 % 65536), .int .i64 (a1 / 281474976710656 % 65536), .int .i64 (a2 % 65536), .int .i64 (a2 / 65536 % 65536), .int .i64 (a2 / 4294967296 % 65536), .int .i64 (a2 / 281474976710656 % 65536), .int .i64 (a3 % 65536), .int .i64 (a3 / 65536 % 65536), .int .i64 (a3 / 4294967296 % 65536), .int .i64 (a3 / 281474976710656 % 65536)] := by
  obtain ⟨p0, p1, p2, p3, q0, q1, q2, q3, v⟩ := hA
  simp only [dl16, List.map_cons, List.map_nil]
  rw [Int.toNat_of_nonneg (show 0 ≤ a0 % 65536 by omega), Int.toNat_of_nonneg (show 0 ≤ a0 / 65536 % 65536 by omega), Int.toNat_of_nonneg (show 0 ≤ a0 / 4294967296 % 65536 by omega), Int.toNat_of_nonneg (show 0 ≤ a0 / 281474976710656 % 65536 by omega), Int.toNat_of_nonneg (show 0 ≤ a1 % 65536 by omega), Int.toNat_of_nonneg (show 0 ≤ a1 / 65536 % 65536 by omega), Int.toNat_of_nonneg (show 0 ≤ a1 / 4294967296 % 65536 by omega), Int.toNat_of_nonneg (show 0 ≤ a1 / 281474976710656 % 65536 by omega), Int.toNat_of_nonneg (show 0 ≤ a2 % 65536 by omega), Int.toNat_of_nonneg (show 0 ≤ a2 / 65536 % 65536 by omega), Int.toNat_of_nonneg (show 0 ≤ a2 / 4294967296 % 65536 by omega), Int.toNat_of_nonneg (show 0 ≤ a2 / 281474976710656 % 65536 by omega), Int.toNat_of_nonneg (show 0 ≤ a3 % 65536 by omega), Int.toNat_of_nonneg (show 0 ≤ a3 / 65536 % 65536 by omega), Int.toNat_of_nonneg (show 0 ≤ a3 / 4294967296 % 65536 by omega), Int.toNat_of_nonneg (show 0 ≤ a3 / 281474976710656 % 65536 by omega)]
set_option maxHeartbeats 4000000 in
set_option maxRecDepth 100000 in
theorem from256_c {A : Nat} {a0 a1 a2 a3 : Int} (hA : isU A a0 a1 a2 a3) (w : World) :
    Calls Try.prog 54 #[.agg #[.int .u64 a0, .int .u64 a1, .int .u64 a2, .int .u64 a3]] w fun e w' => ∃ ad n c, e = .returned (.slice ad n c) ∧ Hid (Big w' ad n c A) ∧ n ≤ 16 ∧ Below w.heap.size w w' := by
  have N1 := and_u64
  have hmk := make16
  have V := hide (dl16_val hA)
  have C := hide (dl16_cells hA)
  clear hA
  go_enter Try.func54, Try.ntmps54
  go_wp2
  refine wp_loop_rounds 17 ?_
  rw [rounds_succ]
  go_wp2
  rw [rounds_succ]
  go_wp2
  rw [rounds_succ]
  go_wp2
  rw [rounds_succ]
  go_wp2
  rw [rounds_succ]
  go_wp2
  rw [rounds_succ]
  go_wp2
  rw [rounds_succ]
  go_wp2
  rw [rounds_succ]
  go_wp2
  rw [rounds_succ]
  go_wp2
  rw [rounds_succ]
  go_wp2
  rw [rounds_succ]
  go_wp2
  rw [rounds_succ]
  go_wp2
  rw [rounds_succ]
  go_wp2
  rw [rounds_succ]
  go_wp2
  rw [rounds_succ]
  go_wp2
  rw [rounds_succ]
  go_wp2
  rw [rounds_succ]
  clear N1 hmk
  go_wp2_with fail
  rw [← C.out]
  have HR := hide (Row.alloc (w.alloc (.cells #[.int .u64 a0, .int .u64 a1, .int .u64 a2, .int .u64 a3] 25)) (dl16 a0 a1 a2 a3) 3)
  refine (norm_c V.out.2 _ _ _ rfl (Nat.le_refl _) (by simp [dl16]) _ (by have := HR.out; simpa using this)).mono ?_
  rintro e w1 ⟨rfl, rfl⟩
  rw [V.out.1]
  go_wp2
  go_ret
  have hn : nd A ≤ 16 := by have := nd_le_of (val_lt V.out.2); rwa [V.out.1] at this
  refine ⟨_, _, _, rfl, hide ⟨rfl, hn, ?_⟩, hn, ?_⟩
  · have h1 := norm_row V.out.2
    rw [V.out.1] at h1
    rw [← h1]
    have := HR.out.take (nd A)
    simpa using this
  · exact (by (repeat' (first | (with_reducible exact Below.refl _ _) | (with_reducible assumption) | (with_reducible refine Below.alloc ?_ ?_ _) | (with_reducible refine Below.drew ?_) | (with_reducible refine below_drewN ?_ _) | (with_reducible refine Below.setCell ?_ ?_ _) | (with_reducible refine below_step (by with_reducible assumption) ?_ ?_) | (first | (with_reducible exact Nat.le_refl _) | (with_reducible assumption) | omega | (simp only [World.size_alloc, World.size_setCell, World.size_drew, size_drewN]; omega) | (simp; omega) | (simp; done)))))
end Go.Proofs.Ytkneiobohhhcpaa
/- Package pontageref1, walked: ToUint256. -/
namespace Go.Proofs.Ytkneiobohhhcpaa
open Go.RowKit
set_option linter.unusedVariables false
set_option linter.unusedSimpArgs false
/-- One cell of a block written. -/
theorem Box.set0 {w : World} {g : Nat} {a0 a1 a2 a3 : Int} (h : Box w g a0 a1 a2 a3) (b : Int) : Box (w.setCell ⟨g, 0, none⟩ (.int .u64 b)) g b a1 a2 a3 := by
  obtain ⟨c0, c1, c2, c3, f0, f1, f2, f3, lt⟩ := h
  constructor <;> simp [go_sem, *]
theorem Box.set1 {w : World} {g : Nat} {a0 a1 a2 a3 : Int} (h : Box w g a0 a1 a2 a3) (b : Int) : Box (w.setCell ⟨g, 1, none⟩ (.int .u64 b)) g a0 b a2 a3 := by
  obtain ⟨c0, c1, c2, c3, f0, f1, f2, f3, lt⟩ := h
  constructor <;> simp [go_sem, *]
theorem Box.set2 {w : World} {g : Nat} {a0 a1 a2 a3 : Int} (h : Box w g a0 a1 a2 a3) (b : Int) : Box (w.setCell ⟨g, 2, none⟩ (.int .u64 b)) g a0 a1 b a3 := by
  obtain ⟨c0, c1, c2, c3, f0, f1, f2, f3, lt⟩ := h
  constructor <;> simp [go_sem, *]
theorem Box.set3 {w : World} {g : Nat} {a0 a1 a2 a3 : Int} (h : Box w g a0 a1 a2 a3) (b : Int) : Box (w.setCell ⟨g, 3, none⟩ (.int .u64 b)) g a0 a1 a2 b := by
  obtain ⟨c0, c1, c2, c3, f0, f1, f2, f3, lt⟩ := h
  constructor <;> simp [go_sem, *]
theorem val_step {l : List Nat} (hd : Digs l) {k : Nat} (h : k < l.length) : ∃ V d, V = val (l.take k) ∧ d = l.getD k 0 ∧ V < 65536 ^ k ∧ d < 65536 ∧ val (l.take (k + 1)) = V + d * 65536 ^ k := by
  have h1 := val_lt (digs_take k hd)
  rw [List.length_take, Nat.min_eq_left (by omega)] at h1
  exact ⟨_, _, rfl, rfl, h1, getD_lt hd k, val_take_succ h⟩
theorem lims0 {V d : Nat} (hV : V < 65536 ^ 0) (hd : d < 65536) : lim (V + d * 65536 ^ 0) 1 = lim V 1 ∧ lim (V + d * 65536 ^ 0) 2 = lim V 2 ∧ lim (V + d * 65536 ^ 0) 3 = lim V 3 ∧ lim (V + d * 65536 ^ 0) 0 = lim V 0 + (d : Int) ∧ lim V 0 < 1 := by
  rw [lim0, lim1, lim2, lim3, lim0, lim1, lim2, lim3]
  omega
theorem lims1 {V d : Nat} (hV : V < 65536 ^ 1) (hd : d < 65536) : lim (V + d * 65536 ^ 1) 1 = lim V 1 ∧ lim (V + d * 65536 ^ 1) 2 = lim V 2 ∧ lim (V + d * 65536 ^ 1) 3 = lim V 3 ∧ lim (V + d * 65536 ^ 1) 0 = lim V 0 + (d : Int) * 65536 ∧ lim V 0 < 65536 := by
  rw [lim0, lim1, lim2, lim3, lim0, lim1, lim2, lim3]
  omega
theorem lims2 {V d : Nat} (hV : V < 65536 ^ 2) (hd : d < 65536) : lim (V + d * 65536 ^ 2) 1 = lim V 1 ∧ lim (V + d * 65536 ^ 2) 2 = lim V 2 ∧ lim (V + d * 65536 ^ 2) 3 = lim V 3 ∧ lim (V + d * 65536 ^ 2) 0 = lim V 0 + (d : Int) * 4294967296 ∧ lim V 0 < 4294967296 := by
  rw [lim0, lim1, lim2, lim3, lim0, lim1, lim2, lim3]
  omega
theorem lims3 {V d : Nat} (hV : V < 65536 ^ 3) (hd : d < 65536) : lim (V + d * 65536 ^ 3) 1 = lim V 1 ∧ lim (V + d * 65536 ^ 3) 2 = lim V 2 ∧ lim (V + d * 65536 ^ 3) 3 = lim V 3 ∧ lim (V + d * 65536 ^ 3) 0 = lim V 0 + (d : Int) * 281474976710656 ∧ lim V 0 < 281474976710656 := by
  rw [lim0, lim1, lim2, lim3, lim0, lim1, lim2, lim3]
  omega
theorem lims4 {V d : Nat} (hV : V < 65536 ^ 4) (hd : d < 65536) : lim (V + d * 65536 ^ 4) 0 = lim V 0 ∧ lim (V + d * 65536 ^ 4) 2 = lim V 2 ∧ lim (V + d * 65536 ^ 4) 3 = lim V 3 ∧ lim (V + d * 65536 ^ 4) 1 = lim V 1 + (d : Int) ∧ lim V 1 < 1 := by
  rw [lim0, lim1, lim2, lim3, lim0, lim1, lim2, lim3]
  omega
theorem lims5 {V d : Nat} (hV : V < 65536 ^ 5) (hd : d < 65536) : lim (V + d * 65536 ^ 5) 0 = lim V 0 ∧ lim (V + d * 65536 ^ 5) 2 = lim V 2 ∧ lim (V + d * 65536 ^ 5) 3 = lim V 3 ∧ lim (V + d * 65536 ^ 5) 1 = lim V 1 + (d : Int) * 65536 ∧ lim V 1 < 65536 := by
  rw [lim0, lim1, lim2, lim3, lim0, lim1, lim2, lim3]
  omega
theorem lims6 {V d : Nat} (hV : V < 65536 ^ 6) (hd : d < 65536) : lim (V + d * 65536 ^ 6) 0 = lim V 0 ∧ lim (V + d * 65536 ^ 6) 2 = lim V 2 ∧ lim (V + d * 65536 ^ 6) 3 = lim V 3 ∧ lim (V + d * 65536 ^ 6) 1 = lim V 1 + (d : Int) * 4294967296 ∧ lim V 1 < 4294967296 := by
  rw [lim0, lim1, lim2, lim3, lim0, lim1, lim2, lim3]
  omega
theorem lims7 {V d : Nat} (hV : V < 65536 ^ 7) (hd : d < 65536) : lim (V + d * 65536 ^ 7) 0 = lim V 0 ∧ lim (V + d * 65536 ^ 7) 2 = lim V 2 ∧ lim (V + d * 65536 ^ 7) 3 = lim V 3 ∧ lim (V + d * 65536 ^ 7) 1 = lim V 1 + (d : Int) * 281474976710656 ∧ lim V 1 < 281474976710656 := by
  rw [lim0, lim1, lim2, lim3, lim0, lim1, lim2, lim3]
  omega
theorem lims8 {V d : Nat} (hV : V < 65536 ^ 8) (hd : d < 65536) : lim (V + d * 65536 ^ 8) 0 = lim V 0 ∧ lim (V + d * 65536 ^ 8) 1 = lim V 1 ∧ lim (V + d * 65536 ^ 8) 3 = lim V 3 ∧ lim (V + d * 65536 ^ 8) 2 = lim V 2 + (d : Int) ∧ lim V 2 < 1 := by
  rw [lim0, lim1, lim2, lim3, lim0, lim1, lim2, lim3]
  omega
theorem lims9 {V d : Nat} (hV : V < 65536 ^ 9) (hd : d < 65536) : lim (V + d * 65536 ^ 9) 0 = lim V 0 ∧ lim (V + d * 65536 ^ 9) 1 = lim V 1 ∧ lim (V + d * 65536 ^ 9) 3 = lim V 3 ∧ lim (V + d * 65536 ^ 9) 2 = lim V 2 + (d : Int) * 65536 ∧ lim V 2 < 65536 := by
  rw [lim0, lim1, lim2, lim3, lim0, lim1, lim2, lim3]
  omega
theorem lims10 {V d : Nat} (hV : V < 65536 ^ 10) (hd : d < 65536) : lim (V + d * 65536 ^ 10) 0 = lim V 0 ∧ lim (V + d * 65536 ^ 10) 1 = lim V 1 ∧ lim (V + d * 65536 ^ 10) 3 = lim V 3 ∧ lim (V + d * 65536 ^ 10) 2 = lim V 2 + (d : Int) * 4294967296 ∧ lim V 2 < 4294967296 := by
  rw [lim0, lim1, lim2, lim3, lim0, lim1, lim2, lim3]
  omega
theorem lims11 {V d : Nat} (hV : V < 65536 ^ 11) (hd : d < 65536) : lim (V + d * 65536 ^ 11) 0 = lim V 0 ∧ lim (V + d * 65536 ^ 11) 1 = lim V 1 ∧ lim (V + d * 65536 ^ 11) 3 = lim V 3 ∧ lim (V + d * 65536 ^ 11) 2 = lim V 2 + (d : Int) * 281474976710656 ∧ lim V 2 < 281474976710656 := by
  rw [lim0, lim1, lim2, lim3, lim0, lim1, lim2, lim3]
  omega
theorem lims12 {V d : Nat} (hV : V < 65536 ^ 12) (hd : d < 65536) : lim (V + d * 65536 ^ 12) 0 = lim V 0 ∧ lim (V + d * 65536 ^ 12) 1 = lim V 1 ∧ lim (V + d * 65536 ^ 12) 2 = lim V 2 ∧ lim (V + d * 65536 ^ 12) 3 = lim V 3 + (d : Int) ∧ lim V 3 < 1 := by
  rw [lim0, lim1, lim2, lim3, lim0, lim1, lim2, lim3]
  omega
theorem lims13 {V d : Nat} (hV : V < 65536 ^ 13) (hd : d < 65536) : lim (V + d * 65536 ^ 13) 0 = lim V 0 ∧ lim (V + d * 65536 ^ 13) 1 = lim V 1 ∧ lim (V + d * 65536 ^ 13) 2 = lim V 2 ∧ lim (V + d * 65536 ^ 13) 3 = lim V 3 + (d : Int) * 65536 ∧ lim V 3 < 65536 := by
  rw [lim0, lim1, lim2, lim3, lim0, lim1, lim2, lim3]
  omega
theorem lims14 {V d : Nat} (hV : V < 65536 ^ 14) (hd : d < 65536) : lim (V + d * 65536 ^ 14) 0 = lim V 0 ∧ lim (V + d * 65536 ^ 14) 1 = lim V 1 ∧ lim (V + d * 65536 ^ 14) 2 = lim V 2 ∧ lim (V + d * 65536 ^ 14) 3 = lim V 3 + (d : Int) * 4294967296 ∧ lim V 3 < 4294967296 := by
  rw [lim0, lim1, lim2, lim3, lim0, lim1, lim2, lim3]
  omega
theorem lims15 {V d : Nat} (hV : V < 65536 ^ 15) (hd : d < 65536) : lim (V + d * 65536 ^ 15) 0 = lim V 0 ∧ lim (V + d * 65536 ^ 15) 1 = lim V 1 ∧ lim (V + d * 65536 ^ 15) 2 = lim V 2 ∧ lim (V + d * 65536 ^ 15) 3 = lim V 3 + (d : Int) * 281474976710656 ∧ lim V 3 < 281474976710656 := by
  rw [lim0, lim1, lim2, lim3, lim0, lim1, lim2, lim3]
  omega
set_option maxHeartbeats 16000000 in
set_option maxRecDepth 100000 in
theorem toU_c {l : List Nat} (hd : Digs l) (ad : Option Addr) (n c : Nat) (hn : Hid (n = l.length)) (hlen : n ≤ 100000) (w : World) (hrow : Hid (Row w ad l)) :
    Calls Try.prog 38 #[.slice ad n c] w fun e w' => e = .returned (.agg #[.int .u64 (lim (val (l.take 16)) 0), .int .u64 (lim (val (l.take 16)) 1), .int .u64 (lim (val (l.take 16)) 2), .int .u64 (lim (val (l.take 16)) 3)]) ∧ Below w.heap.size w w' := by
  have HD := hide hd
  clear hd
  have l0 := lim_zero 0
  have l1 := lim_zero 1
  have l2 := lim_zero 2
  have l3 := lim_zero 3
  go_enter Try.func38, Try.ntmps38
  go_wp2
  go_loopw [4] (fun v4 wr => ∃ k : Nat, k ≤ 16 ∧ k ≤ n ∧ v4 = .int .i64 k ∧ Hid (Box wr (w.heap.size + 1) (lim (val (l.take k)) 0) (lim (val (l.take k)) 1) (lim (val (l.take k)) 2) (lim (val (l.take k)) 3)) ∧ Hid (Box wr w.heap.size 0 0 0 0) ∧ Hid (Below w.heap.size w wr)) (fun v4 _ => 16 - (intOf v4).toNat)
  case atStart =>
    refine ⟨0, by omega, by omega, rfl, hide ?_, hide ((Box.new _ _ _ _ _ _).alloc _), hide (by (repeat' (first | (with_reducible exact Below.refl _ _) | (with_reducible assumption) | (with_reducible refine Below.alloc ?_ ?_ _) | (with_reducible refine Below.drew ?_) | (with_reducible refine below_drewN ?_ _) | (with_reducible refine Below.setCell ?_ ?_ _) | (with_reducible refine below_step (by with_reducible assumption) ?_ ?_) | (first | (with_reducible exact Nat.le_refl _) | (with_reducible assumption) | omega | (simp only [World.size_alloc, World.size_setCell, World.size_drew, size_drewN]; omega) | (simp; omega) | (simp; done)))))⟩
    have := Box.new (w.alloc (.cells #[.int .u64 0, .int .u64 0, .int .u64 0, .int .u64 0] 25)) 0 0 0 0 25
    rw [List.take_zero, val, l0, l1, l2, l3]
    simpa using this
  case round =>
    clear l0 l1 l2 l3
    obtain ⟨k, hk, hkn, rfl, HX, HY, HB⟩ := hrel
    by_cases hend : k = 16 ∨ k = n
    · have ht : l.take k = l.take 16 := by
        rcases hend with rfl | rfl
        · rfl
        · rw [List.take_of_length_le (by rw [hn.out]; omega), List.take_of_length_le (by rw [← hn.out]; omega)]
      rw [ht] at HX
      obtain ⟨x0, x1, x2, x3, g0, g1, g2, g3, xl⟩ := HX.out
      obtain ⟨y0, y1, y2, y3, h0, h1, h2, h3, yl⟩ := HY.out
      by_cases hkn' : k = n
      · subst hkn'
        go_wp2
        refine bodyPost_ret (v := .agg #[.int .u64 (lim (val (l.take 16)) 0), .int .u64 (lim (val (l.take 16)) 1), .int .u64 (lim (val (l.take 16)) 2), .int .u64 (lim (val (l.take 16)) 3)]) (by simp [results, Try.results38, go_sem, *]) rfl ?_
        have hb := HB.out
        exact ⟨rfl, (by (repeat' (first | (with_reducible exact Below.refl _ _) | (with_reducible assumption) | (with_reducible refine Below.alloc ?_ ?_ _) | (with_reducible refine Below.drew ?_) | (with_reducible refine below_drewN ?_ _) | (with_reducible refine Below.setCell ?_ ?_ _) | (with_reducible refine below_step (by with_reducible assumption) ?_ ?_) | (first | (with_reducible exact Nat.le_refl _) | (with_reducible assumption) | omega | (simp only [World.size_alloc, World.size_setCell, World.size_drew, size_drewN]; omega) | (simp; omega) | (simp; done)))))⟩
      · obtain rfl : k = 16 := by omega
        have q : (16 : Int) < (n : Int) := by omega
        have q' : 16 < n := by omega
        go_wp2
        refine bodyPost_ret (v := .agg #[.int .u64 (lim (val (l.take 16)) 0), .int .u64 (lim (val (l.take 16)) 1), .int .u64 (lim (val (l.take 16)) 2), .int .u64 (lim (val (l.take 16)) 3)]) (by simp [results, Try.results38, go_sem, *]) rfl ?_
        have hb := HB.out
        exact ⟨rfl, (by (repeat' (first | (with_reducible exact Below.refl _ _) | (with_reducible assumption) | (with_reducible refine Below.alloc ?_ ?_ _) | (with_reducible refine Below.drew ?_) | (with_reducible refine below_drewN ?_ _) | (with_reducible refine Below.setCell ?_ ?_ _) | (with_reducible refine below_step (by with_reducible assumption) ?_ ?_) | (first | (with_reducible exact Nat.le_refl _) | (with_reducible assumption) | omega | (simp only [World.size_alloc, World.size_setCell, World.size_drew, size_drewN]; omega) | (simp; omega) | (simp; done)))))⟩
    · have hlt : k < l.length := by have := hn.out; omega
      obtain ⟨b, o, rfl, hcell⟩ := hrow.out (by intro e; rw [e] at hlt; simp at hlt)
      have hx := hcell k hlt
      clear hcell
      have hbl : b < w.heap.size := World.block_lt_of_cell? w _ hx
      replace hx := (HB.out.cell (p := ⟨b, o + k, none⟩) hbl).trans hx
      obtain ⟨V, d, eV, ed, hV, hd, hs⟩ := val_step HD.out hlt
      rw [← ed] at hx
      rw [← eV] at HX
      have HS := hide hs
      clear ed eV hs hlt
      have qn : k < n := by omega
      have q16 : k < 16 := by omega
      clear hend hkn hk
      rcases (show k = 0 ∨ k = 1 ∨ k = 2 ∨ k = 3 ∨ k = 4 ∨ k = 5 ∨ k = 6 ∨ k = 7 ∨ k = 8 ∨ k = 9 ∨ k = 10 ∨ k = 11 ∨ k = 12 ∨ k = 13 ∨ k = 14 ∨ k = 15 by omega) with rfl | rfl | rfl | rfl | rfl | rfl | rfl | rfl | rfl | rfl | rfl | rfl | rfl | rfl | rfl | rfl
      · have hl := lims0 hV hd
        obtain ⟨o1, o2, o3, lj, lt⟩ := hl
        rw [← HS.out] at o1 o2 o3 lj
        have ge := lim_nonneg V 0
        have HL := hide (And.intro lj (And.intro o1 (And.intro o2 o3)))
        clear lj o1 o2 o3 HS hV
        obtain ⟨L0, E0⟩ : ∃ x, lim V 0 = x := ⟨_, rfl⟩
        obtain ⟨L1, E1⟩ : ∃ x, lim V 1 = x := ⟨_, rfl⟩
        obtain ⟨L2, E2⟩ : ∃ x, lim V 2 = x := ⟨_, rfl⟩
        obtain ⟨L3, E3⟩ : ∃ x, lim V 3 = x := ⟨_, rfl⟩
        rw [E0, E1, E2, E3] at HX
        rw [E0] at lt ge
        simp only [E0, E1, E2, E3] at HL
        clear E0 E1 E2 E3
        obtain ⟨x0, x1, x2, x3, g0, g1, g2, g3, xl⟩ := HX.out
        have q0 : (0 : Int) < (n : Int) := by omega
        rw [Nat.add_zero] at hx
        go_wp2
        go_region
        go_wp2
        go_roundw
        case rel =>
          have hb := HB.out
          obtain ⟨m1, m2, m3, m4⟩ := HL.out
          refine ⟨1, by omega, by omega, by go_num, hide ?_, hide ?_, hide (by (repeat' (first | (with_reducible exact Below.refl _ _) | (with_reducible assumption) | (with_reducible refine Below.alloc ?_ ?_ _) | (with_reducible refine Below.drew ?_) | (with_reducible refine below_drewN ?_ _) | (with_reducible refine Below.setCell ?_ ?_ _) | (with_reducible refine below_step (by with_reducible assumption) ?_ ?_) | (first | (with_reducible exact Nat.le_refl _) | (with_reducible assumption) | omega | (simp only [World.size_alloc, World.size_setCell, World.size_drew, size_drewN]; omega) | (simp; omega) | (simp; done)))))⟩
          · show Box _ _ (lim (val (l.take (0 + 1))) 0) (lim (val (l.take (0 + 1))) 1) (lim (val (l.take (0 + 1))) 2) (lim (val (l.take (0 + 1))) 3)
            rw [m1, m2, m3, m4]
            first | exact (HX.out.set0 _).drew | exact (HX.out.drew).set0 _
          · first | exact (HY.out.other (by simp) _).drew | exact (HY.out.drew).other (by simp) _
        case measure => simp [intOf]
      · have hl := lims1 hV hd
        obtain ⟨o1, o2, o3, lj, lt⟩ := hl
        rw [← HS.out] at o1 o2 o3 lj
        have ge := lim_nonneg V 0
        have HL := hide (And.intro lj (And.intro o1 (And.intro o2 o3)))
        clear lj o1 o2 o3 HS hV
        obtain ⟨L0, E0⟩ : ∃ x, lim V 0 = x := ⟨_, rfl⟩
        obtain ⟨L1, E1⟩ : ∃ x, lim V 1 = x := ⟨_, rfl⟩
        obtain ⟨L2, E2⟩ : ∃ x, lim V 2 = x := ⟨_, rfl⟩
        obtain ⟨L3, E3⟩ : ∃ x, lim V 3 = x := ⟨_, rfl⟩
        rw [E0, E1, E2, E3] at HX
        rw [E0] at lt ge
        simp only [E0, E1, E2, E3] at HL
        clear E0 E1 E2 E3
        obtain ⟨x0, x1, x2, x3, g0, g1, g2, g3, xl⟩ := HX.out
        have q0 : (1 : Int) < (n : Int) := by omega
        go_wp2
        go_region
        go_wp2
        go_roundw
        case rel =>
          have hb := HB.out
          obtain ⟨m1, m2, m3, m4⟩ := HL.out
          refine ⟨2, by omega, by omega, by go_num, hide ?_, hide ?_, hide (by (repeat' (first | (with_reducible exact Below.refl _ _) | (with_reducible assumption) | (with_reducible refine Below.alloc ?_ ?_ _) | (with_reducible refine Below.drew ?_) | (with_reducible refine below_drewN ?_ _) | (with_reducible refine Below.setCell ?_ ?_ _) | (with_reducible refine below_step (by with_reducible assumption) ?_ ?_) | (first | (with_reducible exact Nat.le_refl _) | (with_reducible assumption) | omega | (simp only [World.size_alloc, World.size_setCell, World.size_drew, size_drewN]; omega) | (simp; omega) | (simp; done)))))⟩
          · show Box _ _ (lim (val (l.take (1 + 1))) 0) (lim (val (l.take (1 + 1))) 1) (lim (val (l.take (1 + 1))) 2) (lim (val (l.take (1 + 1))) 3)
            rw [m1, m2, m3, m4]
            first | exact (HX.out.set0 _).drew | exact (HX.out.drew).set0 _
          · first | exact (HY.out.other (by simp) _).drew | exact (HY.out.drew).other (by simp) _
        case measure => simp [intOf]
      · have hl := lims2 hV hd
        obtain ⟨o1, o2, o3, lj, lt⟩ := hl
        rw [← HS.out] at o1 o2 o3 lj
        have ge := lim_nonneg V 0
        have HL := hide (And.intro lj (And.intro o1 (And.intro o2 o3)))
        clear lj o1 o2 o3 HS hV
        obtain ⟨L0, E0⟩ : ∃ x, lim V 0 = x := ⟨_, rfl⟩
        obtain ⟨L1, E1⟩ : ∃ x, lim V 1 = x := ⟨_, rfl⟩
        obtain ⟨L2, E2⟩ : ∃ x, lim V 2 = x := ⟨_, rfl⟩
        obtain ⟨L3, E3⟩ : ∃ x, lim V 3 = x := ⟨_, rfl⟩
        rw [E0, E1, E2, E3] at HX
        rw [E0] at lt ge
        simp only [E0, E1, E2, E3] at HL
        clear E0 E1 E2 E3
        obtain ⟨x0, x1, x2, x3, g0, g1, g2, g3, xl⟩ := HX.out
        have q0 : (2 : Int) < (n : Int) := by omega
        go_wp2
        go_region
        go_wp2
        go_roundw
        case rel =>
          have hb := HB.out
          obtain ⟨m1, m2, m3, m4⟩ := HL.out
          refine ⟨3, by omega, by omega, by go_num, hide ?_, hide ?_, hide (by (repeat' (first | (with_reducible exact Below.refl _ _) | (with_reducible assumption) | (with_reducible refine Below.alloc ?_ ?_ _) | (with_reducible refine Below.drew ?_) | (with_reducible refine below_drewN ?_ _) | (with_reducible refine Below.setCell ?_ ?_ _) | (with_reducible refine below_step (by with_reducible assumption) ?_ ?_) | (first | (with_reducible exact Nat.le_refl _) | (with_reducible assumption) | omega | (simp only [World.size_alloc, World.size_setCell, World.size_drew, size_drewN]; omega) | (simp; omega) | (simp; done)))))⟩
          · show Box _ _ (lim (val (l.take (2 + 1))) 0) (lim (val (l.take (2 + 1))) 1) (lim (val (l.take (2 + 1))) 2) (lim (val (l.take (2 + 1))) 3)
            rw [m1, m2, m3, m4]
            first | exact (HX.out.set0 _).drew | exact (HX.out.drew).set0 _
          · first | exact (HY.out.other (by simp) _).drew | exact (HY.out.drew).other (by simp) _
        case measure => simp [intOf]
      · have hl := lims3 hV hd
        obtain ⟨o1, o2, o3, lj, lt⟩ := hl
        rw [← HS.out] at o1 o2 o3 lj
        have ge := lim_nonneg V 0
        have HL := hide (And.intro lj (And.intro o1 (And.intro o2 o3)))
        clear lj o1 o2 o3 HS hV
        obtain ⟨L0, E0⟩ : ∃ x, lim V 0 = x := ⟨_, rfl⟩
        obtain ⟨L1, E1⟩ : ∃ x, lim V 1 = x := ⟨_, rfl⟩
        obtain ⟨L2, E2⟩ : ∃ x, lim V 2 = x := ⟨_, rfl⟩
        obtain ⟨L3, E3⟩ : ∃ x, lim V 3 = x := ⟨_, rfl⟩
        rw [E0, E1, E2, E3] at HX
        rw [E0] at lt ge
        simp only [E0, E1, E2, E3] at HL
        clear E0 E1 E2 E3
        obtain ⟨x0, x1, x2, x3, g0, g1, g2, g3, xl⟩ := HX.out
        have q0 : (3 : Int) < (n : Int) := by omega
        go_wp2
        go_region
        go_wp2
        go_roundw
        case rel =>
          have hb := HB.out
          obtain ⟨m1, m2, m3, m4⟩ := HL.out
          refine ⟨4, by omega, by omega, by go_num, hide ?_, hide ?_, hide (by (repeat' (first | (with_reducible exact Below.refl _ _) | (with_reducible assumption) | (with_reducible refine Below.alloc ?_ ?_ _) | (with_reducible refine Below.drew ?_) | (with_reducible refine below_drewN ?_ _) | (with_reducible refine Below.setCell ?_ ?_ _) | (with_reducible refine below_step (by with_reducible assumption) ?_ ?_) | (first | (with_reducible exact Nat.le_refl _) | (with_reducible assumption) | omega | (simp only [World.size_alloc, World.size_setCell, World.size_drew, size_drewN]; omega) | (simp; omega) | (simp; done)))))⟩
          · show Box _ _ (lim (val (l.take (3 + 1))) 0) (lim (val (l.take (3 + 1))) 1) (lim (val (l.take (3 + 1))) 2) (lim (val (l.take (3 + 1))) 3)
            rw [m1, m2, m3, m4]
            first | exact (HX.out.set0 _).drew | exact (HX.out.drew).set0 _
          · first | exact (HY.out.other (by simp) _).drew | exact (HY.out.drew).other (by simp) _
        case measure => simp [intOf]
      · have hl := lims4 hV hd
        obtain ⟨o0, o2, o3, lj, lt⟩ := hl
        rw [← HS.out] at o0 o2 o3 lj
        have ge := lim_nonneg V 1
        have HL := hide (And.intro lj (And.intro o0 (And.intro o2 o3)))
        clear lj o0 o2 o3 HS hV
        obtain ⟨L0, E0⟩ : ∃ x, lim V 0 = x := ⟨_, rfl⟩
        obtain ⟨L1, E1⟩ : ∃ x, lim V 1 = x := ⟨_, rfl⟩
        obtain ⟨L2, E2⟩ : ∃ x, lim V 2 = x := ⟨_, rfl⟩
        obtain ⟨L3, E3⟩ : ∃ x, lim V 3 = x := ⟨_, rfl⟩
        rw [E0, E1, E2, E3] at HX
        rw [E1] at lt ge
        simp only [E0, E1, E2, E3] at HL
        clear E0 E1 E2 E3
        obtain ⟨x0, x1, x2, x3, g0, g1, g2, g3, xl⟩ := HX.out
        have q0 : (4 : Int) < (n : Int) := by omega
        go_wp2
        go_region
        go_wp2
        go_roundw
        case rel =>
          have hb := HB.out
          obtain ⟨m1, m2, m3, m4⟩ := HL.out
          refine ⟨5, by omega, by omega, by go_num, hide ?_, hide ?_, hide (by (repeat' (first | (with_reducible exact Below.refl _ _) | (with_reducible assumption) | (with_reducible refine Below.alloc ?_ ?_ _) | (with_reducible refine Below.drew ?_) | (with_reducible refine below_drewN ?_ _) | (with_reducible refine Below.setCell ?_ ?_ _) | (with_reducible refine below_step (by with_reducible assumption) ?_ ?_) | (first | (with_reducible exact Nat.le_refl _) | (with_reducible assumption) | omega | (simp only [World.size_alloc, World.size_setCell, World.size_drew, size_drewN]; omega) | (simp; omega) | (simp; done)))))⟩
          · show Box _ _ (lim (val (l.take (4 + 1))) 0) (lim (val (l.take (4 + 1))) 1) (lim (val (l.take (4 + 1))) 2) (lim (val (l.take (4 + 1))) 3)
            rw [m1, m2, m3, m4]
            first | exact (HX.out.set1 _).drew | exact (HX.out.drew).set1 _
          · first | exact (HY.out.other (by simp) _).drew | exact (HY.out.drew).other (by simp) _
        case measure => simp [intOf]
      · have hl := lims5 hV hd
        obtain ⟨o0, o2, o3, lj, lt⟩ := hl
        rw [← HS.out] at o0 o2 o3 lj
        have ge := lim_nonneg V 1
        have HL := hide (And.intro lj (And.intro o0 (And.intro o2 o3)))
        clear lj o0 o2 o3 HS hV
        obtain ⟨L0, E0⟩ : ∃ x, lim V 0 = x := ⟨_, rfl⟩
        obtain ⟨L1, E1⟩ : ∃ x, lim V 1 = x := ⟨_, rfl⟩
        obtain ⟨L2, E2⟩ : ∃ x, lim V 2 = x := ⟨_, rfl⟩
        obtain ⟨L3, E3⟩ : ∃ x, lim V 3 = x := ⟨_, rfl⟩
        rw [E0, E1, E2, E3] at HX
        rw [E1] at lt ge
        simp only [E0, E1, E2, E3] at HL
        clear E0 E1 E2 E3
        obtain ⟨x0, x1, x2, x3, g0, g1, g2, g3, xl⟩ := HX.out
        have q0 : (5 : Int) < (n : Int) := by omega
        go_wp2
        go_region
        go_wp2
        go_roundw
        case rel =>
          have hb := HB.out
          obtain ⟨m1, m2, m3, m4⟩ := HL.out
          refine ⟨6, by omega, by omega, by go_num, hide ?_, hide ?_, hide (by (repeat' (first | (with_reducible exact Below.refl _ _) | (with_reducible assumption) | (with_reducible refine Below.alloc ?_ ?_ _) | (with_reducible refine Below.drew ?_) | (with_reducible refine below_drewN ?_ _) | (with_reducible refine Below.setCell ?_ ?_ _) | (with_reducible refine below_step (by with_reducible assumption) ?_ ?_) | (first | (with_reducible exact Nat.le_refl _) | (with_reducible assumption) | omega | (simp only [World.size_alloc, World.size_setCell, World.size_drew, size_drewN]; omega) | (simp; omega) | (simp; done)))))⟩
          · show Box _ _ (lim (val (l.take (5 + 1))) 0) (lim (val (l.take (5 + 1))) 1) (lim (val (l.take (5 + 1))) 2) (lim (val (l.take (5 + 1))) 3)
            rw [m1, m2, m3, m4]
            first | exact (HX.out.set1 _).drew | exact (HX.out.drew).set1 _
          · first | exact (HY.out.other (by simp) _).drew | exact (HY.out.drew).other (by simp) _
        case measure => simp [intOf]
      · have hl := lims6 hV hd
        obtain ⟨o0, o2, o3, lj, lt⟩ := hl
        rw [← HS.out] at o0 o2 o3 lj
        have ge := lim_nonneg V 1
        have HL := hide (And.intro lj (And.intro o0 (And.intro o2 o3)))
        clear lj o0 o2 o3 HS hV
        obtain ⟨L0, E0⟩ : ∃ x, lim V 0 = x := ⟨_, rfl⟩
        obtain ⟨L1, E1⟩ : ∃ x, lim V 1 = x := ⟨_, rfl⟩
        obtain ⟨L2, E2⟩ : ∃ x, lim V 2 = x := ⟨_, rfl⟩
        obtain ⟨L3, E3⟩ : ∃ x, lim V 3 = x := ⟨_, rfl⟩
        rw [E0, E1, E2, E3] at HX
        rw [E1] at lt ge
        simp only [E0, E1, E2, E3] at HL
        clear E0 E1 E2 E3
        obtain ⟨x0, x1, x2, x3, g0, g1, g2, g3, xl⟩ := HX.out
        have q0 : (6 : Int) < (n : Int) := by omega
        go_wp2
        go_region
        go_wp2
        go_roundw
        case rel =>
          have hb := HB.out
          obtain ⟨m1, m2, m3, m4⟩ := HL.out
          refine ⟨7, by omega, by omega, by go_num, hide ?_, hide ?_, hide (by (repeat' (first | (with_reducible exact Below.refl _ _) | (with_reducible assumption) | (with_reducible refine Below.alloc ?_ ?_ _) | (with_reducible refine Below.drew ?_) | (with_reducible refine below_drewN ?_ _) | (with_reducible refine Below.setCell ?_ ?_ _) | (with_reducible refine below_step (by with_reducible assumption) ?_ ?_) | (first | (with_reducible exact Nat.le_refl _) | (with_reducible assumption) | omega | (simp only [World.size_alloc, World.size_setCell, World.size_drew, size_drewN]; omega) | (simp; omega) | (simp; done)))))⟩
          · show Box _ _ (lim (val (l.take (6 + 1))) 0) (lim (val (l.take (6 + 1))) 1) (lim (val (l.take (6 + 1))) 2) (lim (val (l.take (6 + 1))) 3)
            rw [m1, m2, m3, m4]
            first | exact (HX.out.set1 _).drew | exact (HX.out.drew).set1 _
          · first | exact (HY.out.other (by simp) _).drew | exact (HY.out.drew).other (by simp) _
        case measure => simp [intOf]
      · have hl := lims7 hV hd
        obtain ⟨o0, o2, o3, lj, lt⟩ := hl
        rw [← HS.out] at o0 o2 o3 lj
        have ge := lim_nonneg V 1
        have HL := hide (And.intro lj (And.intro o0 (And.intro o2 o3)))
        clear lj o0 o2 o3 HS hV
        obtain ⟨L0, E0⟩ : ∃ x, lim V 0 = x := ⟨_, rfl⟩
        obtain ⟨L1, E1⟩ : ∃ x, lim V 1 = x := ⟨_, rfl⟩
        obtain ⟨L2, E2⟩ : ∃ x, lim V 2 = x := ⟨_, rfl⟩
        obtain ⟨L3, E3⟩ : ∃ x, lim V 3 = x := ⟨_, rfl⟩
        rw [E0, E1, E2, E3] at HX
        rw [E1] at lt ge
        simp only [E0, E1, E2, E3] at HL
        clear E0 E1 E2 E3
        obtain ⟨x0, x1, x2, x3, g0, g1, g2, g3, xl⟩ := HX.out
        have q0 : (7 : Int) < (n : Int) := by omega
        go_wp2
        go_region
        go_wp2
        go_roundw
        case rel =>
          have hb := HB.out
          obtain ⟨m1, m2, m3, m4⟩ := HL.out
          refine ⟨8, by omega, by omega, by go_num, hide ?_, hide ?_, hide (by (repeat' (first | (with_reducible exact Below.refl _ _) | (with_reducible assumption) | (with_reducible refine Below.alloc ?_ ?_ _) | (with_reducible refine Below.drew ?_) | (with_reducible refine below_drewN ?_ _) | (with_reducible refine Below.setCell ?_ ?_ _) | (with_reducible refine below_step (by with_reducible assumption) ?_ ?_) | (first | (with_reducible exact Nat.le_refl _) | (with_reducible assumption) | omega | (simp only [World.size_alloc, World.size_setCell, World.size_drew, size_drewN]; omega) | (simp; omega) | (simp; done)))))⟩
          · show Box _ _ (lim (val (l.take (7 + 1))) 0) (lim (val (l.take (7 + 1))) 1) (lim (val (l.take (7 + 1))) 2) (lim (val (l.take (7 + 1))) 3)
            rw [m1, m2, m3, m4]
            first | exact (HX.out.set1 _).drew | exact (HX.out.drew).set1 _
          · first | exact (HY.out.other (by simp) _).drew | exact (HY.out.drew).other (by simp) _
        case measure => simp [intOf]
      · have hl := lims8 hV hd
        obtain ⟨o0, o1, o3, lj, lt⟩ := hl
        rw [← HS.out] at o0 o1 o3 lj
        have ge := lim_nonneg V 2
        have HL := hide (And.intro lj (And.intro o0 (And.intro o1 o3)))
        clear lj o0 o1 o3 HS hV
        obtain ⟨L0, E0⟩ : ∃ x, lim V 0 = x := ⟨_, rfl⟩
        obtain ⟨L1, E1⟩ : ∃ x, lim V 1 = x := ⟨_, rfl⟩
        obtain ⟨L2, E2⟩ : ∃ x, lim V 2 = x := ⟨_, rfl⟩
        obtain ⟨L3, E3⟩ : ∃ x, lim V 3 = x := ⟨_, rfl⟩
        rw [E0, E1, E2, E3] at HX
        rw [E2] at lt ge
        simp only [E0, E1, E2, E3] at HL
        clear E0 E1 E2 E3
        obtain ⟨x0, x1, x2, x3, g0, g1, g2, g3, xl⟩ := HX.out
        have q0 : (8 : Int) < (n : Int) := by omega
        go_wp2
        go_region
        go_wp2
        go_roundw
        case rel =>
          have hb := HB.out
          obtain ⟨m1, m2, m3, m4⟩ := HL.out
          refine ⟨9, by omega, by omega, by go_num, hide ?_, hide ?_, hide (by (repeat' (first | (with_reducible exact Below.refl _ _) | (with_reducible assumption) | (with_reducible refine Below.alloc ?_ ?_ _) | (with_reducible refine Below.drew ?_) | (with_reducible refine below_drewN ?_ _) | (with_reducible refine Below.setCell ?_ ?_ _) | (with_reducible refine below_step (by with_reducible assumption) ?_ ?_) | (first | (with_reducible exact Nat.le_refl _) | (with_reducible assumption) | omega | (simp only [World.size_alloc, World.size_setCell, World.size_drew, size_drewN]; omega) | (simp; omega) | (simp; done)))))⟩
          · show Box _ _ (lim (val (l.take (8 + 1))) 0) (lim (val (l.take (8 + 1))) 1) (lim (val (l.take (8 + 1))) 2) (lim (val (l.take (8 + 1))) 3)
            rw [m1, m2, m3, m4]
            first | exact (HX.out.set2 _).drew | exact (HX.out.drew).set2 _
          · first | exact (HY.out.other (by simp) _).drew | exact (HY.out.drew).other (by simp) _
        case measure => simp [intOf]
      · have hl := lims9 hV hd
        obtain ⟨o0, o1, o3, lj, lt⟩ := hl
        rw [← HS.out] at o0 o1 o3 lj
        have ge := lim_nonneg V 2
        have HL := hide (And.intro lj (And.intro o0 (And.intro o1 o3)))
        clear lj o0 o1 o3 HS hV
        obtain ⟨L0, E0⟩ : ∃ x, lim V 0 = x := ⟨_, rfl⟩
        obtain ⟨L1, E1⟩ : ∃ x, lim V 1 = x := ⟨_, rfl⟩
        obtain ⟨L2, E2⟩ : ∃ x, lim V 2 = x := ⟨_, rfl⟩
        obtain ⟨L3, E3⟩ : ∃ x, lim V 3 = x := ⟨_, rfl⟩
        rw [E0, E1, E2, E3] at HX
        rw [E2] at lt ge
        simp only [E0, E1, E2, E3] at HL
        clear E0 E1 E2 E3
        obtain ⟨x0, x1, x2, x3, g0, g1, g2, g3, xl⟩ := HX.out
        have q0 : (9 : Int) < (n : Int) := by omega
        go_wp2
        go_region
        go_wp2
        go_roundw
        case rel =>
          have hb := HB.out
          obtain ⟨m1, m2, m3, m4⟩ := HL.out
          refine ⟨10, by omega, by omega, by go_num, hide ?_, hide ?_, hide (by (repeat' (first | (with_reducible exact Below.refl _ _) | (with_reducible assumption) | (with_reducible refine Below.alloc ?_ ?_ _) | (with_reducible refine Below.drew ?_) | (with_reducible refine below_drewN ?_ _) | (with_reducible refine Below.setCell ?_ ?_ _) | (with_reducible refine below_step (by with_reducible assumption) ?_ ?_) | (first | (with_reducible exact Nat.le_refl _) | (with_reducible assumption) | omega | (simp only [World.size_alloc, World.size_setCell, World.size_drew, size_drewN]; omega) | (simp; omega) | (simp; done)))))⟩
          · show Box _ _ (lim (val (l.take (9 + 1))) 0) (lim (val (l.take (9 + 1))) 1) (lim (val (l.take (9 + 1))) 2) (lim (val (l.take (9 + 1))) 3)
            rw [m1, m2, m3, m4]
            first | exact (HX.out.set2 _).drew | exact (HX.out.drew).set2 _
          · first | exact (HY.out.other (by simp) _).drew | exact (HY.out.drew).other (by simp) _
        case measure => simp [intOf]
      · have hl := lims10 hV hd
        obtain ⟨o0, o1, o3, lj, lt⟩ := hl
        rw [← HS.out] at o0 o1 o3 lj
        have ge := lim_nonneg V 2
        have HL := hide (And.intro lj (And.intro o0 (And.intro o1 o3)))
        clear lj o0 o1 o3 HS hV
        obtain ⟨L0, E0⟩ : ∃ x, lim V 0 = x := ⟨_, rfl⟩
        obtain ⟨L1, E1⟩ : ∃ x, lim V 1 = x := ⟨_, rfl⟩
        obtain ⟨L2, E2⟩ : ∃ x, lim V 2 = x := ⟨_, rfl⟩
        obtain ⟨L3, E3⟩ : ∃ x, lim V 3 = x := ⟨_, rfl⟩
        rw [E0, E1, E2, E3] at HX
        rw [E2] at lt ge
        simp only [E0, E1, E2, E3] at HL
        clear E0 E1 E2 E3
        obtain ⟨x0, x1, x2, x3, g0, g1, g2, g3, xl⟩ := HX.out
        have q0 : (10 : Int) < (n : Int) := by omega
        go_wp2
        go_region
        go_wp2
        go_roundw
        case rel =>
          have hb := HB.out
          obtain ⟨m1, m2, m3, m4⟩ := HL.out
          refine ⟨11, by omega, by omega, by go_num, hide ?_, hide ?_, hide (by (repeat' (first | (with_reducible exact Below.refl _ _) | (with_reducible assumption) | (with_reducible refine Below.alloc ?_ ?_ _) | (with_reducible refine Below.drew ?_) | (with_reducible refine below_drewN ?_ _) | (with_reducible refine Below.setCell ?_ ?_ _) | (with_reducible refine below_step (by with_reducible assumption) ?_ ?_) | (first | (with_reducible exact Nat.le_refl _) | (with_reducible assumption) | omega | (simp only [World.size_alloc, World.size_setCell, World.size_drew, size_drewN]; omega) | (simp; omega) | (simp; done)))))⟩
          · show Box _ _ (lim (val (l.take (10 + 1))) 0) (lim (val (l.take (10 + 1))) 1) (lim (val (l.take (10 + 1))) 2) (lim (val (l.take (10 + 1))) 3)
            rw [m1, m2, m3, m4]
            first | exact (HX.out.set2 _).drew | exact (HX.out.drew).set2 _
          · first | exact (HY.out.other (by simp) _).drew | exact (HY.out.drew).other (by simp) _
        case measure => simp [intOf]
      · have hl := lims11 hV hd
        obtain ⟨o0, o1, o3, lj, lt⟩ := hl
        rw [← HS.out] at o0 o1 o3 lj
        have ge := lim_nonneg V 2
        have HL := hide (And.intro lj (And.intro o0 (And.intro o1 o3)))
        clear lj o0 o1 o3 HS hV
        obtain ⟨L0, E0⟩ : ∃ x, lim V 0 = x := ⟨_, rfl⟩
        obtain ⟨L1, E1⟩ : ∃ x, lim V 1 = x := ⟨_, rfl⟩
        obtain ⟨L2, E2⟩ : ∃ x, lim V 2 = x := ⟨_, rfl⟩
        obtain ⟨L3, E3⟩ : ∃ x, lim V 3 = x := ⟨_, rfl⟩
        rw [E0, E1, E2, E3] at HX
        rw [E2] at lt ge
        simp only [E0, E1, E2, E3] at HL
        clear E0 E1 E2 E3
        obtain ⟨x0, x1, x2, x3, g0, g1, g2, g3, xl⟩ := HX.out
        have q0 : (11 : Int) < (n : Int) := by omega
        go_wp2
        go_region
        go_wp2
        go_roundw
        case rel =>
          have hb := HB.out
          obtain ⟨m1, m2, m3, m4⟩ := HL.out
          refine ⟨12, by omega, by omega, by go_num, hide ?_, hide ?_, hide (by (repeat' (first | (with_reducible exact Below.refl _ _) | (with_reducible assumption) | (with_reducible refine Below.alloc ?_ ?_ _) | (with_reducible refine Below.drew ?_) | (with_reducible refine below_drewN ?_ _) | (with_reducible refine Below.setCell ?_ ?_ _) | (with_reducible refine below_step (by with_reducible assumption) ?_ ?_) | (first | (with_reducible exact Nat.le_refl _) | (with_reducible assumption) | omega | (simp only [World.size_alloc, World.size_setCell, World.size_drew, size_drewN]; omega) | (simp; omega) | (simp; done)))))⟩
          · show Box _ _ (lim (val (l.take (11 + 1))) 0) (lim (val (l.take (11 + 1))) 1) (lim (val (l.take (11 + 1))) 2) (lim (val (l.take (11 + 1))) 3)
            rw [m1, m2, m3, m4]
            first | exact (HX.out.set2 _).drew | exact (HX.out.drew).set2 _
          · first | exact (HY.out.other (by simp) _).drew | exact (HY.out.drew).other (by simp) _
        case measure => simp [intOf]
      · have hl := lims12 hV hd
        obtain ⟨o0, o1, o2, lj, lt⟩ := hl
        rw [← HS.out] at o0 o1 o2 lj
        have ge := lim_nonneg V 3
        have HL := hide (And.intro lj (And.intro o0 (And.intro o1 o2)))
        clear lj o0 o1 o2 HS hV
        obtain ⟨L0, E0⟩ : ∃ x, lim V 0 = x := ⟨_, rfl⟩
        obtain ⟨L1, E1⟩ : ∃ x, lim V 1 = x := ⟨_, rfl⟩
        obtain ⟨L2, E2⟩ : ∃ x, lim V 2 = x := ⟨_, rfl⟩
        obtain ⟨L3, E3⟩ : ∃ x, lim V 3 = x := ⟨_, rfl⟩
        rw [E0, E1, E2, E3] at HX
        rw [E3] at lt ge
        simp only [E0, E1, E2, E3] at HL
        clear E0 E1 E2 E3
        obtain ⟨x0, x1, x2, x3, g0, g1, g2, g3, xl⟩ := HX.out
        have q0 : (12 : Int) < (n : Int) := by omega
        go_wp2
        go_region
        go_wp2
        go_roundw
        case rel =>
          have hb := HB.out
          obtain ⟨m1, m2, m3, m4⟩ := HL.out
          refine ⟨13, by omega, by omega, by go_num, hide ?_, hide ?_, hide (by (repeat' (first | (with_reducible exact Below.refl _ _) | (with_reducible assumption) | (with_reducible refine Below.alloc ?_ ?_ _) | (with_reducible refine Below.drew ?_) | (with_reducible refine below_drewN ?_ _) | (with_reducible refine Below.setCell ?_ ?_ _) | (with_reducible refine below_step (by with_reducible assumption) ?_ ?_) | (first | (with_reducible exact Nat.le_refl _) | (with_reducible assumption) | omega | (simp only [World.size_alloc, World.size_setCell, World.size_drew, size_drewN]; omega) | (simp; omega) | (simp; done)))))⟩
          · show Box _ _ (lim (val (l.take (12 + 1))) 0) (lim (val (l.take (12 + 1))) 1) (lim (val (l.take (12 + 1))) 2) (lim (val (l.take (12 + 1))) 3)
            rw [m1, m2, m3, m4]
            first | exact (HX.out.set3 _).drew | exact (HX.out.drew).set3 _
          · first | exact (HY.out.other (by simp) _).drew | exact (HY.out.drew).other (by simp) _
        case measure => simp [intOf]
      · have hl := lims13 hV hd
        obtain ⟨o0, o1, o2, lj, lt⟩ := hl
        rw [← HS.out] at o0 o1 o2 lj
        have ge := lim_nonneg V 3
        have HL := hide (And.intro lj (And.intro o0 (And.intro o1 o2)))
        clear lj o0 o1 o2 HS hV
        obtain ⟨L0, E0⟩ : ∃ x, lim V 0 = x := ⟨_, rfl⟩
        obtain ⟨L1, E1⟩ : ∃ x, lim V 1 = x := ⟨_, rfl⟩
        obtain ⟨L2, E2⟩ : ∃ x, lim V 2 = x := ⟨_, rfl⟩
        obtain ⟨L3, E3⟩ : ∃ x, lim V 3 = x := ⟨_, rfl⟩
        rw [E0, E1, E2, E3] at HX
        rw [E3] at lt ge
        simp only [E0, E1, E2, E3] at HL
        clear E0 E1 E2 E3
        obtain ⟨x0, x1, x2, x3, g0, g1, g2, g3, xl⟩ := HX.out
        have q0 : (13 : Int) < (n : Int) := by omega
        go_wp2
        go_region
        go_wp2
        go_roundw
        case rel =>
          have hb := HB.out
          obtain ⟨m1, m2, m3, m4⟩ := HL.out
          refine ⟨14, by omega, by omega, by go_num, hide ?_, hide ?_, hide (by (repeat' (first | (with_reducible exact Below.refl _ _) | (with_reducible assumption) | (with_reducible refine Below.alloc ?_ ?_ _) | (with_reducible refine Below.drew ?_) | (with_reducible refine below_drewN ?_ _) | (with_reducible refine Below.setCell ?_ ?_ _) | (with_reducible refine below_step (by with_reducible assumption) ?_ ?_) | (first | (with_reducible exact Nat.le_refl _) | (with_reducible assumption) | omega | (simp only [World.size_alloc, World.size_setCell, World.size_drew, size_drewN]; omega) | (simp; omega) | (simp; done)))))⟩
          · show Box _ _ (lim (val (l.take (13 + 1))) 0) (lim (val (l.take (13 + 1))) 1) (lim (val (l.take (13 + 1))) 2) (lim (val (l.take (13 + 1))) 3)
            rw [m1, m2, m3, m4]
            first | exact (HX.out.set3 _).drew | exact (HX.out.drew).set3 _
          · first | exact (HY.out.other (by simp) _).drew | exact (HY.out.drew).other (by simp) _
        case measure => simp [intOf]
      · have hl := lims14 hV hd
        obtain ⟨o0, o1, o2, lj, lt⟩ := hl
        rw [← HS.out] at o0 o1 o2 lj
        have ge := lim_nonneg V 3
        have HL := hide (And.intro lj (And.intro o0 (And.intro o1 o2)))
        clear lj o0 o1 o2 HS hV
        obtain ⟨L0, E0⟩ : ∃ x, lim V 0 = x := ⟨_, rfl⟩
        obtain ⟨L1, E1⟩ : ∃ x, lim V 1 = x := ⟨_, rfl⟩
        obtain ⟨L2, E2⟩ : ∃ x, lim V 2 = x := ⟨_, rfl⟩
        obtain ⟨L3, E3⟩ : ∃ x, lim V 3 = x := ⟨_, rfl⟩
        rw [E0, E1, E2, E3] at HX
        rw [E3] at lt ge
        simp only [E0, E1, E2, E3] at HL
        clear E0 E1 E2 E3
        obtain ⟨x0, x1, x2, x3, g0, g1, g2, g3, xl⟩ := HX.out
        have q0 : (14 : Int) < (n : Int) := by omega
        go_wp2
        go_region
        go_wp2
        go_roundw
        case rel =>
          have hb := HB.out
          obtain ⟨m1, m2, m3, m4⟩ := HL.out
          refine ⟨15, by omega, by omega, by go_num, hide ?_, hide ?_, hide (by (repeat' (first | (with_reducible exact Below.refl _ _) | (with_reducible assumption) | (with_reducible refine Below.alloc ?_ ?_ _) | (with_reducible refine Below.drew ?_) | (with_reducible refine below_drewN ?_ _) | (with_reducible refine Below.setCell ?_ ?_ _) | (with_reducible refine below_step (by with_reducible assumption) ?_ ?_) | (first | (with_reducible exact Nat.le_refl _) | (with_reducible assumption) | omega | (simp only [World.size_alloc, World.size_setCell, World.size_drew, size_drewN]; omega) | (simp; omega) | (simp; done)))))⟩
          · show Box _ _ (lim (val (l.take (14 + 1))) 0) (lim (val (l.take (14 + 1))) 1) (lim (val (l.take (14 + 1))) 2) (lim (val (l.take (14 + 1))) 3)
            rw [m1, m2, m3, m4]
            first | exact (HX.out.set3 _).drew | exact (HX.out.drew).set3 _
          · first | exact (HY.out.other (by simp) _).drew | exact (HY.out.drew).other (by simp) _
        case measure => simp [intOf]
      · have hl := lims15 hV hd
        obtain ⟨o0, o1, o2, lj, lt⟩ := hl
        rw [← HS.out] at o0 o1 o2 lj
        have ge := lim_nonneg V 3
        have HL := hide (And.intro lj (And.intro o0 (And.intro o1 o2)))
        clear lj o0 o1 o2 HS hV
        obtain ⟨L0, E0⟩ : ∃ x, lim V 0 = x := ⟨_, rfl⟩
        obtain ⟨L1, E1⟩ : ∃ x, lim V 1 = x := ⟨_, rfl⟩
        obtain ⟨L2, E2⟩ : ∃ x, lim V 2 = x := ⟨_, rfl⟩
        obtain ⟨L3, E3⟩ : ∃ x, lim V 3 = x := ⟨_, rfl⟩
        rw [E0, E1, E2, E3] at HX
        rw [E3] at lt ge
        simp only [E0, E1, E2, E3] at HL
        clear E0 E1 E2 E3
        obtain ⟨x0, x1, x2, x3, g0, g1, g2, g3, xl⟩ := HX.out
        have q0 : (15 : Int) < (n : Int) := by omega
        go_wp2
        go_region
        go_wp2
        go_roundw
        case rel =>
          have hb := HB.out
          obtain ⟨m1, m2, m3, m4⟩ := HL.out
          refine ⟨16, by omega, by omega, by go_num, hide ?_, hide ?_, hide (by (repeat' (first | (with_reducible exact Below.refl _ _) | (with_reducible assumption) | (with_reducible refine Below.alloc ?_ ?_ _) | (with_reducible refine Below.drew ?_) | (with_reducible refine below_drewN ?_ _) | (with_reducible refine Below.setCell ?_ ?_ _) | (with_reducible refine below_step (by with_reducible assumption) ?_ ?_) | (first | (with_reducible exact Nat.le_refl _) | (with_reducible assumption) | omega | (simp only [World.size_alloc, World.size_setCell, World.size_drew, size_drewN]; omega) | (simp; omega) | (simp; done)))))⟩
          · show Box _ _ (lim (val (l.take (15 + 1))) 0) (lim (val (l.take (15 + 1))) 1) (lim (val (l.take (15 + 1))) 2) (lim (val (l.take (15 + 1))) 3)
            rw [m1, m2, m3, m4]
            first | exact (HX.out.set3 _).drew | exact (HX.out.drew).set3 _
          · first | exact (HY.out.other (by simp) _).drew | exact (HY.out.drew).other (by simp) _
        case measure => simp [intOf]
end Go.Proofs.Ytkneiobohhhcpaa
/- Package pontageref1, walked: Checked, Uint64, Max256, FromUint64. -/
namespace Go.Proofs.Ytkneiobohhhcpaa
open Go.RowKit
set_option linter.unusedVariables false
set_option linter.unusedSimpArgs false
theorem m256_16 : M256 = 65536 ^ 16 := by decide +kernel
theorem nd16 {N : Nat} : nd N ≤ 16 ↔ N < M256 := by
  rw [m256_16]
  exact ⟨lt_of_nd, nd_le_of⟩
def chkV (N : Nat) : Nat := if N < M256 then N else 0
def chkE (N : Nat) : Int := if N < M256 then 0 else 4
theorem chkV_add (A B : Nat) : chkV (A + B) = addV A B := rfl
theorem chkE_add (A B : Nat) : chkE (A + B) = addE A B := rfl
theorem chkV_mul (A B : Nat) : chkV (A * B) = mulV A B := rfl
theorem chkE_mul (A B : Nat) : chkE (A * B) = mulE A B := rfl
theorem chkV_lt (N : Nat) : chkV N < M256 := by unfold chkV; split <;> first | assumption | decide
/-- ToUint256 of a number that fits. -/
theorem toU_big {N n c : Nat} {ad : Option Addr} {w : World} (h : Hid (Big w ad n c N)) (hlen : n ≤ 100000) (hN : N < M256) :
    Calls Try.prog 38 #[.slice ad n c] w fun e w' => e = .returned (.agg #[.int .u64 (lim N 0), .int .u64 (lim N 1), .int .u64 (lim N 2), .int .u64 (lim N 3)]) ∧ Below w.heap.size w w' := by
  have := toU_c (digs_dig N) ad n c (hide h.out.hn) hlen w (hide h.out.row)
  rwa [List.take_of_length_le (nd16.2 hN), val_dig] at this
theorem fits_c (ad : Option Addr) (n c : Nat) (w : World) :
    Calls Try.prog 64 #[.slice ad n c] w fun e w' => e = .returned (.bool (decide (n ≤ 16))) ∧ w = w' := by
  go_enter Try.func64, Try.ntmps64
  go_wp2
  go_ret
  refine ⟨?_, rfl⟩
  show Ending.returned (Value.bool (decide ((n : Int) ≤ 16))) = _
  rw [decide_eq_decide.2 (show (n : Int) ≤ 16 ↔ n ≤ 16 by omega)]
set_option maxHeartbeats 1000000 in
theorem checked_c {N n c : Nat} {ad : Option Addr} {w : World} (h : Hid (Big w ad n c N)) (hlen : n ≤ 100000) :
    Calls Try.prog 56 #[.slice ad n c] w fun e w' => e = .returned (.tuple #[.agg #[.int .u64 (lim (chkV N) 0), .int .u64 (lim (chkV N) 1), .int .u64 (lim (chkV N) 2), .int .u64 (lim (chkV N) 3)], .int .i64 (chkE N)]) ∧ Below w.heap.size w w' := by
  by_cases hN : N < M256
  · have t : decide (n ≤ 16) = true := decide_eq_true (by rw [h.out.hn]; exact nd16.2 hN)
    rw [chkV, chkE, if_pos hN, if_pos hN]
    have HN := hide hN
    clear hN
    go_enter Try.func56, Try.ntmps56
    go_wp2_with fail
    refine (fits_c _ _ _ _).mono ?_
    rintro e w1 ⟨rfl, rfl⟩
    go_wp2_with fail
    refine (toU_big (N := N) (hide (h.out.below ((Below.refl _ _).alloc (Nat.le_refl _) _) (Nat.le_refl _))) hlen HN.out).mono ?_
    rintro e w2 ⟨rfl, hb2⟩
    have hc2_0 : ∀ o, w2.cell? ⟨w.heap.size, o, none⟩ = _ := fun o => hb2.cell (p := ⟨w.heap.size, o, none⟩) (by simp)
    have hf2_0 : ∀ o, w2.frozen? ⟨w.heap.size, o, none⟩ = _ := fun o => hb2.frozen (p := ⟨w.heap.size, o, none⟩) (by simp)
    go_wp2
    refine bodyPost_ret (v := .tuple #[.agg #[.int .u64 (lim N 0), .int .u64 (lim N 1), .int .u64 (lim N 2), .int .u64 (lim N 3)], .int .i64 0]) (by simp [results, Try.results56, go_sem, *]) rfl ?_
    exact ⟨rfl, (by (repeat' (first | (with_reducible exact Below.refl _ _) | (with_reducible assumption) | (with_reducible refine Below.alloc ?_ ?_ _) | (with_reducible refine Below.drew ?_) | (with_reducible refine below_drewN ?_ _) | (with_reducible refine Below.setCell ?_ ?_ _) | (with_reducible refine below_step (by with_reducible assumption) ?_ ?_) | (first | (with_reducible exact Nat.le_refl _) | (with_reducible assumption) | omega | (simp only [World.size_alloc, World.size_setCell, World.size_drew, size_drewN]; omega) | (simp; omega) | (simp; done)))))⟩
  · have t : decide (n ≤ 16) = false := decide_eq_false (by rw [h.out.hn]; exact fun x => hN (nd16.1 x))
    rw [chkV, chkE, if_neg hN, if_neg hN, lim_zero, lim_zero, lim_zero, lim_zero]
    clear hN
    go_enter Try.func56, Try.ntmps56
    go_wp2_with fail
    refine (fits_c _ _ _ _).mono ?_
    rintro e w1 ⟨rfl, rfl⟩
    go_wp2
    go_returns
    exact ⟨rfl, (by (repeat' (first | (with_reducible exact Below.refl _ _) | (with_reducible assumption) | (with_reducible refine Below.alloc ?_ ?_ _) | (with_reducible refine Below.drew ?_) | (with_reducible refine below_drewN ?_ _) | (with_reducible refine Below.setCell ?_ ?_ _) | (with_reducible refine below_step (by with_reducible assumption) ?_ ?_) | (first | (with_reducible exact Nat.le_refl _) | (with_reducible assumption) | omega | (simp only [World.size_alloc, World.size_setCell, World.size_drew, size_drewN]; omega) | (simp; omega) | (simp; done)))))⟩
theorem from64_c {x : Int} (h0 : 0 ≤ x) (h1 : x < 18446744073709551616) (w : World) :
    Calls Try.prog 37 #[.int .u64 x] w fun e w' => ∃ ad n c, e = .returned (.slice ad n c) ∧ Hid (Big w' ad n c x.toNat) ∧ n ≤ 16 ∧ Below w.heap.size w w' := by
  have HX := hide (isU_one h0 h1)
  go_enter Try.func37, Try.ntmps37
  go_wp2_with fail
  refine (from256_c HX.out _).mono ?_
  rintro e w1 ⟨ad, n, c, rfl, hB, hn, hb⟩
  go_wp2
  go_ret
  exact ⟨_, _, _, rfl, hB, hn, hb⟩
end Go.Proofs.Ytkneiobohhhcpaa
/- Package pontageref1, walked: Add. -/
namespace Go.Proofs.Ytkneiobohhhcpaa
open Go.RowKit
set_option linter.unusedVariables false
set_option linter.unusedSimpArgs false
theorem infoI : (Try.prog.info? 3).map (fun i => (i.zero, i.size, i.bytes)) = some (some (.int .i64 0), 1, 8) := by kernel_rfl
/-- What the loop of Add keeps. -/
structure AddInv (A B k t : Nat) (L : List Nat) : Prop where
  len : L.length = k
  dg : Digs L
  eq : val L + t * 65536 ^ k = val ((dig A).take k) + val ((dig B).take k)
  t1 : t ≤ 1
  top : k = 0 ∨ 65536 ^ (k - 1) ≤ A + B
  le : t = 0 ∨ k ≤ nd A ∨ k ≤ nd B
theorem one_cell (wr : World) (v : Value) (e : TypeId) : ∀ j u, [v][j]? = some u → (wr.alloc (.cells #[v] e)).cell? ((⟨wr.heap.size, 0, none⟩ : Addr).add j) = some u := by
  intro j u hj
  match j, hj with
  | 0, hj => simp at hj; subst hj; simp [Addr.add, go_sem]
theorem below_step2 {w wr w1 : World} {o : Obj} {v : Value} {E n : Nat} {xs : List Value} (hg : (wr.alloc o).grownBy w1 v.ownBlock) (hb : Below w.heap.size w wr) (ho : wr.ownsRow w.heap.size E 1 v n xs) : Below w.heap.size w w1 :=
  (hb.alloc hb.size o).grown hg (by have := hb.size; simp; omega) (fun k hk => (ho.lt k hk).1)
theorem owns_row {w : World} {B E k : Nat} {v : Value} {L : List Nat} (h : w.ownsRow B E 1 v k (L.map fun d : Nat => Value.int .i64 (d : Int))) (hl : L.length = k) : ∃ ad c, v = .slice ad k c ∧ k ≤ c ∧ Row w ad L := by
  have h' := h
  obtain ⟨hx, ⟨rfl, rfl⟩ | ⟨g, cap, cur, rfl, hg, hh, hc, hm, hs, ht⟩⟩ := h
  · refine ⟨none, 0, rfl, Nat.le_refl _, fun hne => ?_⟩
    exact absurd (List.eq_nil_of_length_eq_zero hl) hne
  · refine ⟨_, cap, rfl, hc, fun hne => ⟨g, 0, rfl, fun i hi => ?_⟩⟩
    rw [Nat.zero_add, h'.cellAt i (by omega), List.getElem?_map, List.getElem?_eq_getElem hi, List.getD_eq_getElem?_getD, List.getElem?_eq_getElem hi]
    rfl
theorem take_step (A k : Nat) : val ((dig A).take (k + 1)) = val ((dig A).take k) + (dig A).getD k 0 * 65536 ^ k := by
  by_cases h : k < (dig A).length
  · exact val_take_succ h
  · rw [List.take_of_length_le (by omega), List.take_of_length_le (by omega), List.getD_eq_getElem?_getD, List.getElem?_eq_none (by omega)]
    simp
theorem take_le (A k : Nat) : val ((dig A).take k) ≤ A := by
  by_cases h : k ≤ (dig A).length
  · have := val_take_drop (dig A) k h
    rw [val_dig] at this
    omega
  · rw [List.take_of_length_le (by omega), val_dig]; omega
theorem AddInv.step {A B k t d d' : Nat} {L : List Nat} (h : AddInv A B k t L) (ed : (dig A).getD k 0 = d) (ed' : (dig B).getD k 0 = d') (hc : k < nd A ∨ k < nd B ∨ 0 < t) : AddInv A B (k + 1) ((t + d + d') / 65536) (L ++ [(t + d + d') % 65536]) := by
  obtain ⟨len, dg, eq, t1, top, le⟩ := h
  have hd : d < 65536 := by rw [← ed]; exact getD_lt (digs_dig A) k
  have hd' : d' < 65536 := by rw [← ed']; exact getD_lt (digs_dig B) k
  have hp : 0 < 65536 ^ k := Nat.pow_pos (by omega)
  refine ⟨by simp [len], digs_snoc dg (by omega), ?_, by omega, ?_, ?_⟩
  · rw [val_snoc, len, take_step, take_step, ed, ed', Nat.pow_succ, Nat.mul_comm (65536 ^ k) 65536, ← Nat.mul_assoc]
    have e : (t + d + d') % 65536 * 65536 ^ k + (t + d + d') / 65536 * 65536 * 65536 ^ k = (t + d + d') * 65536 ^ k := by rw [← Nat.add_mul]; congr 1; omega
    rw [Nat.add_assoc, e, Nat.add_mul, Nat.add_mul]
    omega
  · right
    rw [Nat.add_sub_cancel]
    rcases hc with hc | hc | hc
    · have := nd_le (N := A) (fun e => by subst e; rw [nd_zero] at hc; omega)
      have := Nat.pow_le_pow_right (n := 65536) (by omega) (show k ≤ nd A - 1 by omega)
      omega
    · have := nd_le (N := B) (fun e => by subst e; rw [nd_zero] at hc; omega)
      have := Nat.pow_le_pow_right (n := 65536) (by omega) (show k ≤ nd B - 1 by omega)
      omega
    · have h1 := take_le A k
      have h2 := take_le B k
      have := Nat.mul_le_mul_right (65536 ^ k) (show 1 ≤ t from hc)
      omega
  · rcases hc with hc | hc | hc
    · exact .inr (.inl hc)
    · exact .inr (.inr hc)
    · by_cases ha : k < nd A
      · exact .inr (.inl ha)
      · by_cases hb : k < nd B
        · exact .inr (.inr hb)
        · left
          have z1 : d = 0 := by rw [← ed, List.getD_eq_getElem?_getD, List.getElem?_eq_none (by unfold nd at ha; omega)]; rfl
          have z2 : d' = 0 := by rw [← ed', List.getD_eq_getElem?_getD, List.getElem?_eq_none (by unfold nd at hb; omega)]; rfl
          omega
theorem AddInv.done {A B k : Nat} {L : List Nat} (h : AddInv A B k 0 L) (ha : nd A ≤ k) (hb : nd B ≤ k) : L = dig (A + B) := by
  obtain ⟨len, dg, eq, t1, top, le⟩ := h
  rw [List.take_of_length_le ha, List.take_of_length_le hb, val_dig, val_dig] at eq
  have e : val L = A + B := by omega
  rw [← e]
  refine dig_unique dg fun hne => ?_
  rw [e, len]
  rcases top with rfl | top
  · exact absurd (List.eq_nil_of_length_eq_zero len) hne
  · exact top
set_option maxHeartbeats 4000000 in
theorem radd_c {A B : Nat} (ad : Option Addr) (n c : Nat) (ad' : Option Addr) (n' c' : Nat) (w : World) (hA : Hid (Big w ad n c A)) (hB : Hid (Big w ad' n' c' B)) (hlen : n ≤ 100000) (hlen' : n' ≤ 100000) :
    Calls Try.prog 55 #[.slice ad n c, .slice ad' n' c'] w fun e w' => ∃ ad n'' c, e = .returned (.slice ad n'' c) ∧ Hid (Big w' ad n'' c (A + B)) ∧ n'' ≤ n + n' + 1 ∧ Below w.heap.size w w' := by
  obtain ⟨i0, hi, hz0, hz1, hz2⟩ := info_parts infoI
  have N1 := and_i64
  go_enter Try.func55, Try.ntmps55
  go_wp2
  go_loopw [5, 6, 7] (fun v5 v6 v7 wr => ∃ (k t : Nat) (L : List Nat), v7 = .int .i64 k ∧ v6 = .int .i64 t ∧ k ≤ n + n' + 1 ∧ Hid (AddInv A B k t L) ∧ Hid (wr.ownsRow w.heap.size 3 1 v5 k (L.map fun d : Nat => Value.int .i64 (d : Int))) ∧ Hid (Below w.heap.size w wr)) (fun _ _ v7 _ => n + n' + 1 - (intOf v7).toNat)
  case atStart => exact ⟨0, 0, [], rfl, rfl, by omega, hide ⟨rfl, fun d hd => by simp at hd, by simp [val], by omega, .inl rfl, .inl rfl⟩, hide (World.ownsRow_nil _ _ _ _), hide (Below.refl _ _)⟩
  case round =>
    obtain ⟨k, t, L, rfl, rfl, hk, HI, HO, HBl⟩ := hrel
    have ht1 := HI.out.t1
    have hle := HI.out.le
    rw [← hA.out.hn, ← hB.out.hn] at hle
    replace hle := hide hle
    by_cases h1 : k < n
    · have hkk : k + 1 ≤ n + n' + 1 := by omega
      obtain ⟨b, o, rfl, hcell⟩ := hA.out.row (by intro e; have := hA.out.hn; unfold nd at this; rw [e] at this; simp at this; omega)
      have hx := hcell k (by have := hA.out.hn; unfold nd at this; omega)
      have hbl := World.block_lt_of_cell? w _ hx
      replace hx := (HBl.out.cell (p := ⟨b, o + k, none⟩) hbl).trans hx
      obtain ⟨d, ed⟩ : ∃ d, (dig A).getD k 0 = d := ⟨_, rfl⟩
      have hd : d < 65536 := by rw [← ed]; exact getD_lt (digs_dig A) k
      rw [ed] at hx
      replace ed := hide ed
      clear hcell hbl
      by_cases h2 : k < n'
      · obtain ⟨b', o', rfl, hcell⟩ := hB.out.row (by intro e; have := hB.out.hn; unfold nd at this; rw [e] at this; simp at this; omega)
        have hx' := hcell k (by have := hB.out.hn; unfold nd at this; omega)
        have hbl := World.block_lt_of_cell? w _ hx'
        replace hx' := (HBl.out.cell (p := ⟨b', o' + k, none⟩) hbl).trans hx'
        obtain ⟨d', ed'⟩ : ∃ d, (dig B).getD k 0 = d := ⟨_, rfl⟩
        have hd' : d' < 65536 := by rw [← ed']; exact getD_lt (digs_dig B) k
        rw [ed'] at hx'
        replace ed' := hide ed'
        clear hcell hbl
        have HN := hide (HI.out.step ed.out ed'.out (.inl (by rw [← hA.out.hn]; exact h1)))
        go_wp2_with (at_builtin; refine wpList_append_own _ rfl (.tmp 44) (.tmp 47) 60 rfl w.heap.size 3 i0 (.int .i64 0) 1 8 Try.underlying60 hi hz0 hz1 hz2 rfl (by decide) _ _ _ rfl (HO.out.alloc _) ⟨wr.heap.size, 0, none⟩ 1 1 [.int .i64 (((t : Int) + (d : Int) + (d' : Int)) % 65536)] rfl rfl (one_cell _ _ _) (by intro u hu; simp at hu; subst hu; rfl) (by unfold maxLen; omega) (by omega) (by have := HBl.out.size; simp; omega) ?_; intro v' w1 hown' hgrow _; have HO' := hide hown'; have HG := hide hgrow; clear hown' hgrow)
        go_roundw
        case rel =>
          have hb := HBl.out
          refine ⟨k + 1, (t + d + d') / 65536, L ++ [(t + d + d') % 65536], by go_num, by go_num, by omega, hide (by simpa using HN.out), hide ?_, hide ((below_step2 HG.out HBl.out HO.out))⟩
          have := HO'.out
          simpa using this
        case measure => simp [intOf]; omega
      · have ed' := hide (show (dig B).getD k 0 = 0 by rw [List.getD_eq_getElem?_getD, List.getElem?_eq_none (by have := hB.out.hn; unfold nd at this; omega)]; rfl)
        have HN := hide (HI.out.step ed.out ed'.out (.inl (by rw [← hA.out.hn]; exact h1)))
        go_wp2_with (at_builtin; refine wpList_append_own _ rfl (.tmp 44) (.tmp 47) 60 rfl w.heap.size 3 i0 (.int .i64 0) 1 8 Try.underlying60 hi hz0 hz1 hz2 rfl (by decide) _ _ _ rfl (HO.out.alloc _) ⟨wr.heap.size, 0, none⟩ 1 1 [.int .i64 (((t : Int) + (d : Int)) % 65536)] rfl rfl (one_cell _ _ _) (by intro u hu; simp at hu; subst hu; rfl) (by unfold maxLen; omega) (by omega) (by have := HBl.out.size; simp; omega) ?_; intro v' w1 hown' hgrow _; have HO' := hide hown'; have HG := hide hgrow; clear hown' hgrow)
        go_roundw
        case rel =>
          have hb := HBl.out
          refine ⟨k + 1, (t + d) / 65536, L ++ [(t + d) % 65536], by go_num, by go_num, by omega, hide (by simpa using HN.out), hide ?_, hide ((below_step2 HG.out HBl.out HO.out))⟩
          have := HO'.out
          simpa using this
        case measure => simp [intOf]; omega
    · have ed := hide (show (dig A).getD k 0 = 0 by rw [List.getD_eq_getElem?_getD, List.getElem?_eq_none (by have := hA.out.hn; unfold nd at this; omega)]; rfl)
      by_cases h2 : k < n'
      · have hkk : k + 1 ≤ n + n' + 1 := by omega
        obtain ⟨b', o', rfl, hcell⟩ := hB.out.row (by intro e; have := hB.out.hn; unfold nd at this; rw [e] at this; simp at this; omega)
        have hx' := hcell k (by have := hB.out.hn; unfold nd at this; omega)
        have hbl := World.block_lt_of_cell? w _ hx'
        replace hx' := (HBl.out.cell (p := ⟨b', o' + k, none⟩) hbl).trans hx'
        obtain ⟨d', ed'⟩ : ∃ d, (dig B).getD k 0 = d := ⟨_, rfl⟩
        have hd' : d' < 65536 := by rw [← ed']; exact getD_lt (digs_dig B) k
        rw [ed'] at hx'
        replace ed' := hide ed'
        clear hcell hbl
        have HN := hide (HI.out.step ed.out ed'.out (.inr (.inl (by rw [← hB.out.hn]; exact h2))))
        go_wp2_with (at_builtin; refine wpList_append_own _ rfl (.tmp 44) (.tmp 47) 60 rfl w.heap.size 3 i0 (.int .i64 0) 1 8 Try.underlying60 hi hz0 hz1 hz2 rfl (by decide) _ _ _ rfl (HO.out.alloc _) ⟨wr.heap.size, 0, none⟩ 1 1 [.int .i64 (((t : Int) + (d' : Int)) % 65536)] rfl rfl (one_cell _ _ _) (by intro u hu; simp at hu; subst hu; rfl) (by unfold maxLen; omega) (by omega) (by have := HBl.out.size; simp; omega) ?_; intro v' w1 hown' hgrow _; have HO' := hide hown'; have HG := hide hgrow; clear hown' hgrow)
        go_roundw
        case rel =>
          have hb := HBl.out
          refine ⟨k + 1, (t + d') / 65536, L ++ [(t + d') % 65536], by go_num, by go_num, by omega, hide (by simpa using HN.out), hide ?_, hide ((below_step2 HG.out HBl.out HO.out))⟩
          have := HO'.out
          simpa using this
        case measure => simp [intOf]; omega
      · have ed' := hide (show (dig B).getD k 0 = 0 by rw [List.getD_eq_getElem?_getD, List.getElem?_eq_none (by have := hB.out.hn; unfold nd at this; omega)]; rfl)
        by_cases h3 : 0 < t
        · have hkk : k + 1 ≤ n + n' + 1 := by have := hle.out; omega
          have HN := hide (HI.out.step ed.out ed'.out (.inr (.inr h3)))
          go_wp2_with (at_builtin; refine wpList_append_own _ rfl (.tmp 44) (.tmp 47) 60 rfl w.heap.size 3 i0 (.int .i64 0) 1 8 Try.underlying60 hi hz0 hz1 hz2 rfl (by decide) _ _ _ rfl (HO.out.alloc _) ⟨wr.heap.size, 0, none⟩ 1 1 [.int .i64 (((t : Int)) % 65536)] rfl rfl (one_cell _ _ _) (by intro u hu; simp at hu; subst hu; rfl) (by unfold maxLen; omega) (by omega) (by have := HBl.out.size; simp; omega) ?_; intro v' w1 hown' hgrow _; have HO' := hide hown'; have HG := hide hgrow; clear hown' hgrow)
          go_roundw
          case rel =>
            have hb := HBl.out
            refine ⟨k + 1, (t) / 65536, L ++ [(t) % 65536], by go_num, by go_num, by omega, hide (by simpa using HN.out), hide ?_, hide ((below_step2 HG.out HBl.out HO.out))⟩
            have := HO'.out
            simpa using this
          case measure => simp [intOf]; omega
        · obtain rfl : t = 0 := by omega
          have HF := hide (HI.out.done (by rw [← hA.out.hn]; omega) (by rw [← hB.out.hn]; omega))
          go_wp2
          go_ret
          obtain ⟨g, cap, rfl, hc, hrow⟩ := owns_row HO.out HI.out.len
          have hk' : k = nd (A + B) := by unfold nd; rw [← HF.out]; exact HI.out.len.symm
          refine ⟨g, k, cap, rfl, hide ⟨hk', hc, by rw [← HF.out]; exact hrow⟩, by omega, HBl.out⟩
end Go.Proofs.Ytkneiobohhhcpaa
/- Package pontageref1, walked: Sub. -/
namespace Go.Proofs.Ytkneiobohhhcpaa
open Go.RowKit
set_option linter.unusedVariables false
set_option linter.unusedSimpArgs false
/-- Block g holds these digits, and no more. -/
def Blk (w : World) (g : Nat) (L : List Nat) : Prop := w.heap[g]? = some (.cells (L.map fun d : Nat => Value.int .i64 (d : Int)).toArray 3 (0, 0))
theorem Blk.lt {w : World} {g : Nat} {L : List Nat} (h : Blk w g L) : g < w.heap.size := (Array.getElem?_eq_some_iff.1 h).1
theorem Blk.cell {w : World} {g : Nat} {L : List Nat} (h : Blk w g L) {i : Nat} (hi : i < L.length) : w.cell? ⟨g, i, none⟩ = some (.int .i64 ((L.getD i 0 : Nat) : Int)) := by
  rw [cell_of_row w g i _ _ (0, 0) h, List.getD_eq_getElem?_getD, List.getElem?_eq_getElem hi]
  simp [hi]
theorem Blk.free {w : World} {g : Nat} {L : List Nat} (h : Blk w g L) (i : Nat) : w.frozen? ⟨g, i, none⟩ = false := frozen_of_row w g i _ _ h
theorem Blk.set {w : World} {g : Nat} {L : List Nat} (h : Blk w g L) {i x : Nat} {v : Int} (hi : i < L.length) (hv : v = (x : Int)) : Blk (w.setCell ⟨g, i, none⟩ (.int .i64 v)) g (L.set i x) := by
  subst hv
  unfold Blk
  rw [heap_setCell_same w g i _ _ _ h]
  congr 2
  apply Array.ext'
  simp
theorem Blk.keep {w w' : World} {g : Nat} {L : List Nat} (h : Blk w g L) (e : w'.heap[g]? = w.heap[g]?) : Blk w' g L := e.trans h
theorem Blk.below {w w' : World} {g B : Nat} {L : List Nat} (h : Blk w g L) (hb : Below B w w') (hg : g < B) : Blk w' g L := h.keep (hb.block g hg)
theorem Blk.row {w : World} {g : Nat} {L : List Nat} (h : Blk w g L) : Row w (some ⟨g, 0, none⟩) L := fun _ => ⟨g, 0, rfl, fun i hi => by rw [Nat.zero_add]; exact h.cell hi⟩
theorem made_nat (n : Nat) : madeCells (Value.int .i64 0).cells (n * 1) = ((List.replicate n 0).map fun d : Nat => Value.int .i64 (d : Int)).toArray := by
  apply Array.ext'
  rw [show (Value.int .i64 0).cells = #[Value.int .i64 0] from rfl, toList_madeCells_one]
  simp
theorem Blk.made (w : World) (n : Nat) : Blk (w.alloc (.cells (madeCells (Value.int .i64 0).cells (n * 1)) 3)) w.heap.size (List.replicate n 0) := by
  unfold Blk
  rw [made_nat]
  show (w.heap.push _)[w.heap.size]? = _
  simp
theorem make_n {n : Nat} (hn : n ≤ 1000000) (W : World) : (Instr.makeSlice 60 (.int .i64 (n : Int)) (.int .i64 (n : Int))).run Try.prog W = .ok (.slice (some ⟨W.heap.size, 0, none⟩) n n) (W.alloc (.cells (madeCells (Value.int .i64 0).cells (n * 1)) 3)) := by
  obtain ⟨i0, hi, hz0, hz1, hz2⟩ := info_parts infoI
  have h := run_make (P := Try.prog) W 60 3 i0 (.int .i64 0) Try.underlying60 hi hz0 .i64 .i64 (n : Int) (n : Int) (by omega) (by omega) (by rw [hz2]; omega) (by omega)
  rw [hz1] at h
  simpa using h
/-- What the loop of Sub keeps. -/
structure SubInv (A B k u : Nat) (L : List Nat) : Prop where
  len : L.length = nd A
  dg : Digs L
  eq : val (L.take k) + val ((dig B).take k) = val ((dig A).take k) + u * 65536 ^ k
  u1 : u ≤ 1
theorem SubInv.step {A B k u d d' x u' : Nat} {L : List Nat} (h : SubInv A B k u L) (ed : (dig A).getD k 0 = d) (ed' : (dig B).getD k 0 = d') (hx : x + u + d' = d + u' * 65536) (hu : u' ≤ 1 ∧ x < 65536) (hk : k < nd A) : SubInv A B (k + 1) u' (L.set k x) := by
  obtain ⟨len, dg, eq, u1⟩ := h
  refine ⟨by rw [List.length_set]; exact len, digs_set dg hu.2, ?_, hu.1⟩
  have hkl : k < (L.set k x).length := by rw [List.length_set]; omega
  rw [val_take_succ hkl, take_step, take_step, ed, ed']
  have e1 : (L.set k x).take k = L.take k := by rw [List.take_set_of_le (by omega)]
  have e2 : (L.set k x).getD k 0 = x := by rw [List.getD_eq_getElem?_getD, List.getElem?_set_self (by omega)]; rfl
  rw [e1, e2, Nat.pow_succ, Nat.mul_comm (65536 ^ k) 65536, ← Nat.mul_assoc]
  have e3 : (x + u + d') * 65536 ^ k = (d + u' * 65536) * 65536 ^ k := by rw [hx]
  rw [Nat.add_mul, Nat.add_mul, Nat.add_mul] at e3
  omega
theorem SubInv.done {A B u : Nat} {L : List Nat} (h : SubInv A B (nd A) u L) (hle : B ≤ A) : val L = A - B := by
  obtain ⟨len, dg, eq, u1⟩ := h
  have hB : nd B ≤ nd A := nd_le_of (Nat.lt_of_le_of_lt hle (nd_lt A))
  rw [List.take_of_length_le (by omega), List.take_of_length_le hB, List.take_of_length_le (show (dig A).length ≤ nd A from Nat.le_refl _), val_dig, val_dig] at eq
  have hl := val_lt dg
  rw [len] at hl
  have : u = 0 ∨ u = 1 := by omega
  rcases this with rfl | rfl <;> omega
set_option maxHeartbeats 4000000 in
theorem rsub_f {A B : Nat} (hle : B ≤ A) (ad : Option Addr) (n c : Nat) (ad' : Option Addr) (n' c' : Nat) (w : World) (hA : Hid (Big w ad n c A)) (hB : Hid (Big w ad' n' c' B)) (hlen : n ≤ 100000) (hlen' : n' ≤ 100000) :
    Calls Try.prog 53 #[.slice ad n c, .slice ad' n' c'] w fun e w' => ∃ ad n'' c, e = .returned (.slice ad n'' c) ∧ Hid (Big w' ad n'' c (A - B)) ∧ n'' ≤ n ∧ Below w.heap.size w w' ∧ (∀ b o, ad = some ⟨b, o, none⟩ → w.heap.size ≤ b) := by
  have hmk := make_n (n := n) (by omega)
  have HLE := hide hle
  clear hle
  go_enter Try.func53, Try.ntmps53
  go_wp2
  clear hmk
  go_loopw [6, 7] (fun v6 v7 wr => ∃ (k u : Nat) (L : List Nat), v7 = .int .i64 k ∧ v6 = .int .i64 u ∧ k ≤ n ∧ Hid (SubInv A B k u L) ∧ Hid (Blk wr w.heap.size L) ∧ Hid (Below w.heap.size w wr)) (fun _ v7 _ => n - (intOf v7).toNat)
  case atStart => exact ⟨0, 0, List.replicate n 0, rfl, rfl, by omega, hide ⟨by rw [List.length_replicate]; exact hA.out.hn, digs_rep n, by simp [val], by omega⟩, hide (by have := Blk.made w n; rw [Nat.mul_one] at this; exact this), hide (by (repeat' (first | (with_reducible exact Below.refl _ _) | (with_reducible assumption) | (with_reducible refine Below.alloc ?_ ?_ _) | (with_reducible refine Below.drew ?_) | (with_reducible refine below_drewN ?_ _) | (with_reducible refine Below.setCell ?_ ?_ _) | (with_reducible refine below_step (by with_reducible assumption) ?_ ?_) | (first | (with_reducible exact Nat.le_refl _) | (with_reducible assumption) | omega | (simp only [World.size_alloc, World.size_setCell, World.size_drew, size_drewN]; omega) | (simp; omega) | (simp; done)))))⟩
  case round =>
    obtain ⟨k, u, L, rfl, rfl, hk, HI, HK, HBl⟩ := hrel
    have hu1 := HI.out.u1
    by_cases h1 : k < n
    · have hkc := HK.out.cell (i := k) (by rw [HI.out.len, ← hA.out.hn]; exact h1)
      have hkf := HK.out.free k
      obtain ⟨b, o, rfl, hcell⟩ := hA.out.row (by intro e; have := hA.out.hn; unfold nd at this; rw [e] at this; simp at this; omega)
      have hx := hcell k (by have := hA.out.hn; unfold nd at this; omega)
      have hbl := World.block_lt_of_cell? w _ hx
      replace hx := (HBl.out.cell (p := ⟨b, o + k, none⟩) hbl).trans hx
      obtain ⟨d, ed⟩ : ∃ d, (dig A).getD k 0 = d := ⟨_, rfl⟩
      have hd : d < 65536 := by rw [← ed]; exact getD_lt (digs_dig A) k
      rw [ed] at hx
      replace ed := hide ed
      clear hcell hbl
      by_cases h2 : k < n'
      · obtain ⟨b', o', rfl, hcell⟩ := hB.out.row (by intro e; have := hB.out.hn; unfold nd at this; rw [e] at this; simp at this; omega)
        have hx' := hcell k (by have := hB.out.hn; unfold nd at this; omega)
        have hbl := World.block_lt_of_cell? w _ hx'
        replace hx' := (HBl.out.cell (p := ⟨b', o' + k, none⟩) hbl).trans hx'
        obtain ⟨d', ed'⟩ : ∃ d, (dig B).getD k 0 = d := ⟨_, rfl⟩
        have hd' : d' < 65536 := by rw [← ed']; exact getD_lt (digs_dig B) k
        rw [ed'] at hx'
        replace ed' := hide ed'
        clear hcell hbl
        by_cases h3 : d < u + d'
        · have q : decide (((d : Nat) : Int) - (u : Int) - (d' : Int) < 0) = true := decide_eq_true (by omega)
          have q' : ((d : Nat) : Int) - (u : Int) - (d' : Int) < 0 := by omega
          go_wp2
          go_roundw
          case rel =>
            have hb := HBl.out
            refine ⟨k + 1, 1, L.set k (d + 65536 - u - d'), by go_num, by go_num, by omega, hide ?_, hide ?_, hide ?_⟩
            · exact HI.out.step ed.out ed'.out (by omega) (by omega) (by have := hA.out.hn; omega)
            · exact HK.out.set (by rw [HI.out.len, ← hA.out.hn]; omega) (by omega)
            · exact (by (repeat' (first | (with_reducible exact Below.refl _ _) | (with_reducible assumption) | (with_reducible refine Below.alloc ?_ ?_ _) | (with_reducible refine Below.drew ?_) | (with_reducible refine below_drewN ?_ _) | (with_reducible refine Below.setCell ?_ ?_ _) | (with_reducible refine below_step (by with_reducible assumption) ?_ ?_) | (first | (with_reducible exact Nat.le_refl _) | (with_reducible assumption) | omega | (simp only [World.size_alloc, World.size_setCell, World.size_drew, size_drewN]; omega) | (simp; omega) | (simp; done)))))
          case measure => simp [intOf]; omega
        · have q : decide (((d : Nat) : Int) - (u : Int) - (d' : Int) < 0) = false := decide_eq_false (by omega)
          have q' : ¬ ((d : Nat) : Int) - (u : Int) - (d' : Int) < 0 := by omega
          go_wp2
          go_roundw
          case rel =>
            have hb := HBl.out
            refine ⟨k + 1, 0, L.set k (d - u - d'), by go_num, by go_num, by omega, hide ?_, hide ?_, hide ?_⟩
            · exact HI.out.step ed.out ed'.out (by omega) (by omega) (by have := hA.out.hn; omega)
            · exact HK.out.set (by rw [HI.out.len, ← hA.out.hn]; omega) (by omega)
            · exact (by (repeat' (first | (with_reducible exact Below.refl _ _) | (with_reducible assumption) | (with_reducible refine Below.alloc ?_ ?_ _) | (with_reducible refine Below.drew ?_) | (with_reducible refine below_drewN ?_ _) | (with_reducible refine Below.setCell ?_ ?_ _) | (with_reducible refine below_step (by with_reducible assumption) ?_ ?_) | (first | (with_reducible exact Nat.le_refl _) | (with_reducible assumption) | omega | (simp only [World.size_alloc, World.size_setCell, World.size_drew, size_drewN]; omega) | (simp; omega) | (simp; done)))))
          case measure => simp [intOf]; omega
      · have ed' := hide (show (dig B).getD k 0 = 0 by rw [List.getD_eq_getElem?_getD, List.getElem?_eq_none (by have := hB.out.hn; unfold nd at this; omega)]; rfl)
        by_cases h3 : d < u
        · have q : decide (((d : Nat) : Int) - (u : Int) < 0) = true := decide_eq_true (by omega)
          have q' : ((d : Nat) : Int) - (u : Int) < 0 := by omega
          go_wp2
          go_roundw
          case rel =>
            have hb := HBl.out
            refine ⟨k + 1, 1, L.set k (d + 65536 - u), by go_num, by go_num, by omega, hide ?_, hide ?_, hide ?_⟩
            · exact HI.out.step ed.out ed'.out (by omega) (by omega) (by have := hA.out.hn; omega)
            · exact HK.out.set (by rw [HI.out.len, ← hA.out.hn]; omega) (by omega)
            · exact (by (repeat' (first | (with_reducible exact Below.refl _ _) | (with_reducible assumption) | (with_reducible refine Below.alloc ?_ ?_ _) | (with_reducible refine Below.drew ?_) | (with_reducible refine below_drewN ?_ _) | (with_reducible refine Below.setCell ?_ ?_ _) | (with_reducible refine below_step (by with_reducible assumption) ?_ ?_) | (first | (with_reducible exact Nat.le_refl _) | (with_reducible assumption) | omega | (simp only [World.size_alloc, World.size_setCell, World.size_drew, size_drewN]; omega) | (simp; omega) | (simp; done)))))
          case measure => simp [intOf]; omega
        · have q : decide (((d : Nat) : Int) - (u : Int) < 0) = false := decide_eq_false (by omega)
          have q' : ¬ ((d : Nat) : Int) - (u : Int) < 0 := by omega
          go_wp2
          go_roundw
          case rel =>
            have hb := HBl.out
            refine ⟨k + 1, 0, L.set k (d - u), by go_num, by go_num, by omega, hide ?_, hide ?_, hide ?_⟩
            · exact HI.out.step ed.out ed'.out (by omega) (by omega) (by have := hA.out.hn; omega)
            · exact HK.out.set (by rw [HI.out.len, ← hA.out.hn]; omega) (by omega)
            · exact (by (repeat' (first | (with_reducible exact Below.refl _ _) | (with_reducible assumption) | (with_reducible refine Below.alloc ?_ ?_ _) | (with_reducible refine Below.drew ?_) | (with_reducible refine below_drewN ?_ _) | (with_reducible refine Below.setCell ?_ ?_ _) | (with_reducible refine below_step (by with_reducible assumption) ?_ ?_) | (first | (with_reducible exact Nat.le_refl _) | (with_reducible assumption) | omega | (simp only [World.size_alloc, World.size_setCell, World.size_drew, size_drewN]; omega) | (simp; omega) | (simp; done)))))
          case measure => simp [intOf]; omega
    · obtain rfl : k = n := by omega
      go_wp2_with fail
      have hl : L.length = k := by rw [HI.out.len, ← hA.out.hn]
      refine (norm_c HI.out.dg _ k k hl.symm (Nat.le_refl _) (by omega) _ HK.out.row).mono ?_
      rintro e w1 ⟨rfl, rfl⟩
      go_wp2
      go_ret
      have hv : val L = A - B := SubInv.done (by have := HI.out; rwa [hA.out.hn] at this) HLE.out
      have hr := norm_row HI.out.dg
      have hn2 : nd (A - B) ≤ k := by have := nd_le_of (val_lt HI.out.dg); rwa [hv, hl] at this
      rw [hv] at hr ⊢
      refine ⟨_, _, _, rfl, hide ⟨rfl, hn2, ?_⟩, hn2, HBl.out, fun b o h => by cases h; exact Nat.le_refl _⟩
      rw [← hr]
      exact HK.out.row.take _
theorem rsub_c {A B : Nat} (hle : B ≤ A) (ad : Option Addr) (n c : Nat) (ad' : Option Addr) (n' c' : Nat) (w : World) (hA : Hid (Big w ad n c A)) (hB : Hid (Big w ad' n' c' B)) (hlen : n ≤ 100000) (hlen' : n' ≤ 100000) :
    Calls Try.prog 53 #[.slice ad n c, .slice ad' n' c'] w fun e w' => ∃ ad n'' c, e = .returned (.slice ad n'' c) ∧ Hid (Big w' ad n'' c (A - B)) ∧ n'' ≤ n ∧ Below w.heap.size w w' :=
  (rsub_f hle ad n c ad' n' c' w hA hB hlen hlen').mono fun _ _ ⟨a, m, c, h1, h2, h3, h4, _⟩ => ⟨a, m, c, h1, h2, h3, h4⟩
end Go.Proofs.Ytkneiobohhhcpaa
/- Package pontageref1, walked: Mul. -/
namespace Go.Proofs.Ytkneiobohhhcpaa
open Go.RowKit
set_option linter.unusedVariables false
set_option linter.unusedSimpArgs false
theorem high_zero : ∀ {L : List Nat} {m j : Nat}, val L < 65536 ^ m → m ≤ j → L.getD j 0 = 0
  | [], m, j, _, _ => by simp
  | d :: L, 0, j, h, _ => by
    rw [val, Nat.pow_zero] at h
    cases j with
    | zero => simp; omega
    | succ j => rw [List.getD_cons_succ]; exact high_zero (m := 0) (by rw [Nat.pow_zero]; omega) (Nat.zero_le _)
  | d :: L, m + 1, j, h, hj => by
    cases j with
    | zero => omega
    | succ j =>
      rw [List.getD_cons_succ]
      rw [val, Nat.pow_succ] at h
      exact high_zero (m := m) (by omega) (by omega)
/-- What Mul's outer loop keeps. -/
structure MulInv (A B i : Nat) (L : List Nat) : Prop where
  len : L.length = nd A + nd B
  dg : Digs L
  eq : val L = val ((dig A).take i) * B
/-- What its inner loop keeps. -/
structure MulIn (A B i k ov : Nat) (L : List Nat) : Prop where
  len : L.length = nd A + nd B
  dg : Digs L
  ovlt : ov < 65536
  top : L.getD (i + nd B) 0 = 0
  eq : val L + ov * 65536 ^ (i + k) = val ((dig A).take i) * B + (dig A).getD i 0 * val ((dig B).take k) * 65536 ^ i
theorem MulInv.start (A B : Nat) : MulInv A B 0 (List.replicate (nd A + nd B) 0) := ⟨by simp, digs_rep _, by rw [val_rep]; simp [val]⟩
theorem MulInv.enter {A B i : Nat} {L : List Nat} (h : MulInv A B i L) : MulIn A B i 0 0 L := by
  obtain ⟨len, dg, eq⟩ := h
  refine ⟨len, dg, by omega, ?_, by rw [eq]; simp [val]⟩
  refine high_zero (m := i + nd B) ?_ (Nat.le_refl _)
  rw [eq]
  have h1 : val ((dig A).take i) < 65536 ^ i := by
    have := val_lt (digs_take i (digs_dig A))
    exact Nat.lt_of_lt_of_le this (Nat.pow_le_pow_right (by omega) (by rw [List.length_take]; omega))
  rw [Nat.pow_add]
  exact Nat.mul_lt_mul_of_lt_of_lt h1 (nd_lt B)
theorem MulIn.step {A B i k ov a d e : Nat} {L : List Nat} (h : MulIn A B i k ov L) (ea : (dig A).getD i 0 = a) (ed : (dig B).getD k 0 = d) (ee : L.getD (i + k) 0 = e) (hi : i < nd A) (hk : k < nd B) :
    MulIn A B i (k + 1) ((ov + e + a * d) / 65536) (L.set (i + k) ((ov + e + a * d) % 65536)) := by
  obtain ⟨len, dg, ovlt, top, eq⟩ := h
  have ha : a < 65536 := by rw [← ea]; exact getD_lt (digs_dig A) i
  have hd : d < 65536 := by rw [← ed]; exact getD_lt (digs_dig B) k
  have he : e < 65536 := by rw [← ee]; exact getD_lt dg _
  have hm : a * d ≤ 65535 * 65535 := Nat.mul_le_mul (by omega) (by omega)
  refine ⟨by rw [List.length_set]; exact len, digs_set dg (by omega), by omega, ?_, ?_⟩
  · rw [List.getD_eq_getElem?_getD, List.getElem?_set_ne (by omega), ← List.getD_eq_getElem?_getD]; exact top
  · have hv := val_set (l := L) (i := i + k) (x := (ov + e + a * d) % 65536) (by omega)
    rw [ee] at hv
    rw [take_step, ed, ea]
    rw [ea] at eq
    have hp : 65536 ^ (i + (k + 1)) = 65536 * 65536 ^ (i + k) := by rw [← Nat.add_assoc, Nat.pow_succ, Nat.mul_comm]
    have hq : 65536 ^ (i + k) = 65536 ^ k * 65536 ^ i := by rw [Nat.add_comm, Nat.pow_add]
    rw [hp, ← Nat.mul_assoc]
    have e1 : (ov + e + a * d) % 65536 * 65536 ^ (i + k) + (ov + e + a * d) / 65536 * 65536 * 65536 ^ (i + k) = (ov + e + a * d) * 65536 ^ (i + k) := by rw [← Nat.add_mul]; congr 1; omega
    have e2 : a * (val ((dig B).take k) + d * 65536 ^ k) * 65536 ^ i = a * val ((dig B).take k) * 65536 ^ i + a * d * 65536 ^ (i + k) := by rw [hq, Nat.mul_add, Nat.add_mul, ← Nat.mul_assoc a d, Nat.mul_assoc (a * d)]
    rw [e2]
    rw [Nat.add_mul, Nat.add_mul] at e1
    omega
theorem MulIn.leave {A B i ov : Nat} {L : List Nat} (h : MulIn A B i (nd B) ov L) (hi : i < nd A) : MulInv A B (i + 1) (L.set (i + nd B) ov) := by
  obtain ⟨len, dg, ovlt, top, eq⟩ := h
  refine ⟨by rw [List.length_set]; exact len, digs_set dg ovlt, ?_⟩
  have hv := val_set (l := L) (i := i + nd B) (x := ov) (by omega)
  rw [top] at hv
  rw [List.take_of_length_le (show (dig B).length ≤ nd B from Nat.le_refl _), val_dig] at eq
  rw [take_step, Nat.add_mul, Nat.mul_right_comm]
  omega
theorem MulInv.done {A B : Nat} {L : List Nat} (h : MulInv A B (nd A) L) : val L = A * B := by
  rw [h.eq, List.take_of_length_le (show (dig A).length ≤ nd A from Nat.le_refl _), val_dig]
set_option maxHeartbeats 4000000 in
theorem rmul_c {A B : Nat} (ad : Option Addr) (n c : Nat) (ad' : Option Addr) (n' c' : Nat) (w : World) (hA : Hid (Big w ad n c A)) (hB : Hid (Big w ad' n' c' B)) (hlen : n ≤ 100000) (hlen' : n' ≤ 100000) :
    Calls Try.prog 36 #[.slice ad n c, .slice ad' n' c'] w fun e w' => ∃ ad n'' c, e = .returned (.slice ad n'' c) ∧ Hid (Big w' ad n'' c (A * B)) ∧ n'' ≤ n + n' ∧ Below w.heap.size w w' := by
  have hmk : ∀ W : World, (Instr.makeSlice 60 (.int .i64 ((n : Int) + (n' : Int))) (.int .i64 ((n : Int) + (n' : Int)))).run Try.prog W = .ok (.slice (some ⟨W.heap.size, 0, none⟩) (n + n') (n + n')) (W.alloc (.cells (madeCells (Value.int .i64 0).cells ((n + n') * 1)) 3)) := by
    intro W
    rw [← Int.natCast_add]
    exact make_n (by omega) W
  have N1 := and_i64
  go_enter Try.func36, Try.ntmps36
  go_wp2
  clear hmk
  go_loopw [6] (fun v6 wr => ∃ (i : Nat) (L : List Nat), v6 = .int .i64 i ∧ i ≤ n ∧ Hid (MulInv A B i L) ∧ Hid (Blk wr w.heap.size L) ∧ Hid (Below w.heap.size w wr)) (fun v6 _ => n - (intOf v6).toNat)
  case atStart => exact ⟨0, List.replicate (n + n') 0, rfl, by omega, hide (by rw [hA.out.hn, hB.out.hn]; exact MulInv.start A B), hide (by have := Blk.made w (n + n'); rw [Nat.mul_one] at this; exact this), hide (by (repeat' (first | (with_reducible exact Below.refl _ _) | (with_reducible assumption) | (with_reducible refine Below.alloc ?_ ?_ _) | (with_reducible refine Below.drew ?_) | (with_reducible refine below_drewN ?_ _) | (with_reducible refine Below.setCell ?_ ?_ _) | (with_reducible refine below_step (by with_reducible assumption) ?_ ?_) | (first | (with_reducible exact Nat.le_refl _) | (with_reducible assumption) | omega | (simp only [World.size_alloc, World.size_setCell, World.size_drew, size_drewN]; omega) | (simp; omega) | (simp; done)))))⟩
  case round =>
    obtain ⟨i, L, rfl, hi, HI, HK, HBl⟩ := hrel
    obtain ⟨wo, rfl⟩ : ∃ wo : World, wo = wr := ⟨_, rfl⟩
    by_cases h1 : i < n
    · obtain ⟨b, o, rfl, hcell⟩ := hA.out.row (by intro e; have := hA.out.hn; unfold nd at this; rw [e] at this; simp at this; omega)
      have hx0 := hcell i (by have := hA.out.hn; unfold nd at this; omega)
      have hbl := World.block_lt_of_cell? w _ hx0
      obtain ⟨a, ea⟩ : ∃ d, (dig A).getD i 0 = d := ⟨_, rfl⟩
      have ha : a < 65536 := by rw [← ea]; exact getD_lt (digs_dig A) i
      rw [ea] at hx0
      replace ea := hide ea
      replace hx0 := hide hx0
      clear hcell
      go_wp2
      go_loopw [7, 8] (fun v7 v8 wr => ∃ (k ov : Nat) (L' : List Nat), v8 = .int .i64 k ∧ v7 = .int .i64 ov ∧ k ≤ n' ∧ ov < 65536 ∧ Hid (MulIn A B i k ov L') ∧ Hid (Blk wr w.heap.size L') ∧ Hid (Below w.heap.size w wr)) (fun _ v8 _ => n' - (intOf v8).toNat)
      case atStart => exact ⟨0, 0, L, rfl, rfl, by omega, by omega, hide HI.out.enter, HK, HBl⟩
      case round =>
        obtain ⟨k, ov, L', rfl, rfl, hk, hov, HI', HK', HBl'⟩ := hrel
        by_cases h2 : k < n'
        · obtain ⟨b', o', rfl, hcell⟩ := hB.out.row (by intro e; have := hB.out.hn; unfold nd at this; rw [e] at this; simp at this; omega)
          have hx' := hcell k (by have := hB.out.hn; unfold nd at this; omega)
          have hbl' := World.block_lt_of_cell? w _ hx'
          replace hx' := (HBl'.out.cell (p := ⟨b', o' + k, none⟩) hbl').trans hx'
          have hx := (HBl'.out.cell (p := ⟨b, o + i, none⟩) hbl).trans hx0.out
          obtain ⟨d, ed⟩ : ∃ d', (dig B).getD k 0 = d' := ⟨_, rfl⟩
          have hd : d < 65536 := by rw [← ed]; exact getD_lt (digs_dig B) k
          rw [ed] at hx'
          replace ed := hide ed
          have hke := HK'.out.cell (i := i + k) (by rw [HI'.out.len, ← hA.out.hn, ← hB.out.hn]; omega)
          have hkf := HK'.out.free (i + k)
          obtain ⟨e, ee⟩ : ∃ e, L'.getD (i + k) 0 = e := ⟨_, rfl⟩
          have he : e < 65536 := by rw [← ee]; exact getD_lt HI'.out.dg _
          rw [ee] at hke
          replace ee := hide ee
          have hm0 : 0 ≤ (a : Int) * (d : Int) := Int.mul_nonneg (by omega) (by omega)
          have hm1 : (a : Int) * (d : Int) ≤ 65535 * 65535 := Int.mul_le_mul (by omega) (by omega) (by omega) (by omega)
          clear hcell hbl'
          go_wp2
          go_quiet (fail)
          go_wp2
          go_roundw
          case rel =>
            have hb := HBl'.out
            have hc : ((ov : Int) + (e : Int) + (a : Int) * (d : Int)) = ((ov + e + a * d : Nat) : Int) := by rw [Int.natCast_add, Int.natCast_add, Int.natCast_mul]
            have hs := HI'.out.step ea.out ed.out ee.out (by rw [← hA.out.hn]; exact h1) (by rw [← hB.out.hn]; exact h2)
            rw [hc]
            refine ⟨k + 1, (ov + e + a * d) / 65536, L'.set (i + k) ((ov + e + a * d) % 65536), by go_num, by go_num, by omega, hs.ovlt, hide hs, hide ?_, hide ?_⟩
            · exact (HK'.out.keep (w' := wr.drewN nq) rfl).set (by rw [HI'.out.len, ← hA.out.hn, ← hB.out.hn]; omega) (by omega)
            · exact (by (repeat' (first | (with_reducible exact Below.refl _ _) | (with_reducible assumption) | (with_reducible refine Below.alloc ?_ ?_ _) | (with_reducible refine Below.drew ?_) | (with_reducible refine below_drewN ?_ _) | (with_reducible refine Below.setCell ?_ ?_ _) | (with_reducible refine below_step (by with_reducible assumption) ?_ ?_) | (first | (with_reducible exact Nat.le_refl _) | (with_reducible assumption) | omega | (simp only [World.size_alloc, World.size_setCell, World.size_drew, size_drewN]; omega) | (simp; omega) | (simp; done)))))
          case measure => simp [intOf]; omega
        · obtain rfl : k = n' := by omega
          have hke := HK'.out.cell (i := i + k) (by rw [HI'.out.len, ← hA.out.hn, ← hB.out.hn]; omega)
          have hkf := HK'.out.free (i + k)
          go_wp2
          go_roundw
          case rel =>
            have hb := HBl'.out
            have hs := MulIn.leave (A := A) (B := B) (i := i) (ov := ov) (L := L') (by have := HI'.out; rwa [hB.out.hn] at this) (by rw [← hA.out.hn]; exact h1)
            rw [← hB.out.hn] at hs
            refine ⟨i + 1, L'.set (i + k) ov, by go_num, by omega, hide hs, hide ?_, hide ?_⟩
            · exact HK'.out.set (by rw [HI'.out.len, ← hA.out.hn, ← hB.out.hn]; omega) rfl
            · exact (by (repeat' (first | (with_reducible exact Below.refl _ _) | (with_reducible assumption) | (with_reducible refine Below.alloc ?_ ?_ _) | (with_reducible refine Below.drew ?_) | (with_reducible refine below_drewN ?_ _) | (with_reducible refine Below.setCell ?_ ?_ _) | (with_reducible refine below_step (by with_reducible assumption) ?_ ?_) | (first | (with_reducible exact Nat.le_refl _) | (with_reducible assumption) | omega | (simp only [World.size_alloc, World.size_setCell, World.size_drew, size_drewN]; omega) | (simp; omega) | (simp; done)))))
          case measure => simp [intOf]; omega
    · obtain rfl : i = n := by omega
      have hl : L.length = i + n' := by rw [HI.out.len, ← hA.out.hn, ← hB.out.hn]
      have hv : val L = A * B := MulInv.done (by have := HI.out; rwa [hA.out.hn] at this)
      have hr := norm_row HI.out.dg
      have hn2 : nd (A * B) ≤ i + n' := by have := nd_le_of (val_lt HI.out.dg); rwa [hv, hl] at this
      rw [hv] at hr
      replace hl := hide hl
      replace hv := hide hv
      replace hr := hide hr
      go_wp2_with fail
      refine (norm_c HI.out.dg _ (i + n') (i + n') hl.out.symm (Nat.le_refl _) (by omega) _ HK.out.row).mono ?_
      rintro e w1 ⟨rfl, rfl⟩
      rw [hv.out]
      go_wp2
      go_ret
      refine ⟨_, _, _, rfl, hide ⟨rfl, hn2, ?_⟩, hn2, HBl.out⟩
      rw [← hr.out]
      exact HK.out.row.take _
end Go.Proofs.Ytkneiobohhhcpaa
/- Package pontageref1, walked: short (the division by one digit). -/
namespace Go.Proofs.Ytkneiobohhhcpaa
open Go.RowKit
set_option linter.unusedVariables false
set_option linter.unusedSimpArgs false
/-- What short keeps: the digits from i on are divided. -/
structure ShI (A m i left : Nat) (L : List Nat) : Prop where
  len : L.length = nd A
  dg : Digs L
  z : ∀ j, j < i → L.getD j 0 = 0
  l : left = A / 65536 ^ i % m
  eq : val L = A / 65536 ^ i / m * 65536 ^ i
theorem ShI.start (A m : Nat) : ShI A m (nd A) 0 (List.replicate (nd A) 0) := by
  have h := Nat.div_eq_of_lt (nd_lt A)
  refine ⟨by simp, digs_rep _, fun j hj => ?_, by rw [h]; simp, by rw [h, val_rep]; simp⟩
  rw [List.getD_eq_getElem?_getD, List.getElem?_replicate]
  split <;> rfl
theorem ShI.step {A m k left d : Nat} {L : List Nat} (hm : 0 < m) (h : ShI A m (k + 1) left L) (ed : (dig A).getD k 0 = d) (hk : k < nd A) :
    (65536 * left + d) / m < 65536 ∧ ShI A m k ((65536 * left + d) % m) (L.set k ((65536 * left + d) / m)) := by
  obtain ⟨len, dg, z, l, eq⟩ := h
  have hd : d < 65536 := by rw [← ed]; exact getD_lt (digs_dig A) k
  have hlm : left < m := by rw [l]; exact Nat.mod_lt _ hm
  have hq : (65536 * left + d) / m < 65536 := Nat.div_lt_of_lt_mul (by
    have : (left + 1) * 65536 ≤ m * 65536 := Nat.mul_le_mul_right _ hlm
    omega)
  obtain ⟨X, hX⟩ : ∃ X, A / 65536 ^ k = X := ⟨_, rfl⟩
  have hY : A / 65536 ^ (k + 1) = X / 65536 := by rw [Nat.pow_succ, ← Nat.div_div_eq_div_mul, hX]
  rw [dig_get, hX] at ed
  rw [hY] at l eq
  obtain ⟨Y, hYe⟩ : ∃ Y, X / 65536 = Y := ⟨_, rfl⟩
  rw [hYe] at l eq
  have hXY : X = m * (65536 * (Y / m)) + (65536 * left + d) := by
    have h1 : m * (Y / m) + Y % m = Y := Nat.div_add_mod Y m
    rw [← l] at h1
    rw [Nat.mul_left_comm]
    omega
  refine ⟨hq, by rw [List.length_set]; exact len, digs_set dg hq, fun j hj => ?_, ?_, ?_⟩
  · rw [List.getD_eq_getElem?_getD, List.getElem?_set_ne (by omega), ← List.getD_eq_getElem?_getD]; exact z j (by omega)
  · rw [hX, hXY, Nat.mul_add_mod]
  · have hv := val_set (l := L) (i := k) (x := (65536 * left + d) / m) (by omega)
    rw [z k (by omega)] at hv
    rw [hX]
    have : X / m = 65536 * (Y / m) + (65536 * left + d) / m := by rw [hXY, Nat.mul_add_div hm]
    have e1 : 65536 * (Y / m) * 65536 ^ k = Y / m * 65536 ^ (k + 1) := by rw [Nat.pow_succ, Nat.mul_comm 65536 (Y / m), Nat.mul_assoc, Nat.mul_comm 65536 (65536 ^ k)]
    rw [this, Nat.add_mul, e1]
    rw [Nat.zero_mul] at hv
    omega
theorem ShI.done {A m left : Nat} {L : List Nat} (h : ShI A m 0 left L) : val L = A / m ∧ left = A % m := by
  obtain ⟨len, dg, z, l, eq⟩ := h
  rw [Nat.pow_zero, Nat.div_one] at l eq
  rw [Nat.mul_one] at eq
  exact ⟨eq, l⟩
end Go.Proofs.Ytkneiobohhhcpaa
/- Package pontageref1, walked: short. -/
namespace Go.Proofs.Ytkneiobohhhcpaa
open Go.RowKit
set_option linter.unusedVariables false
set_option linter.unusedSimpArgs false
theorem row_one (W : World) (x : Nat) (t : TypeId) : Row (W.alloc (.cells #[.int .i64 (x : Int)] t)) (some ⟨W.heap.size, 0, none⟩) [x] := fun _ => ⟨W.heap.size, 0, rfl, fun i hi => by
  obtain rfl : i = 0 := by simp at hi; omega
  simp [go_sem]⟩
theorem nd_small {N : Nat} (h : N < 65536) : nd N ≤ 1 := nd_le_of (by simpa using h)
set_option maxHeartbeats 4000000 in
theorem rshort_c {A m : Nat} (ad : Option Addr) (n c : Nat) (w : World) (hA : Hid (Big w ad n c A)) (hm : 0 < m) (hm' : m < 65536) (hlen : n ≤ 100000) :
    Calls Try.prog 50 #[.slice ad n c, .int .i64 (m : Int)] w fun e w' => ∃ a1 n1 c1 a2 n2 c2, e = .returned (.tuple #[.slice a1 n1 c1, .slice a2 n2 c2]) ∧ Hid (Big w' a1 n1 c1 (A / m)) ∧ Hid (Big w' a2 n2 c2 (A % m)) ∧ n1 ≤ n ∧ n2 ≤ 1 ∧ Below w.heap.size w w' := by
  have hmk := make_n (n := n) (by omega)
  go_enter Try.func50, Try.ntmps50
  go_wp2
  clear hmk
  go_loopw [7, 8] (fun v7 v8 wr => ∃ (i left : Nat) (L : List Nat) (x : Int), v8 = .int .i64 x ∧ x = (i : Int) - 1 ∧ v7 = .int .i64 left ∧ i ≤ n ∧ Hid (ShI A m i left L) ∧ Hid (Blk wr w.heap.size L) ∧ Hid (Below w.heap.size w wr)) (fun _ v8 _ => (intOf v8 + 1).toNat)
  case atStart => exact ⟨n, 0, List.replicate n 0, _, rfl, by go_num, rfl, by omega, hide (by rw [hA.out.hn]; exact ShI.start A m), hide (by have := Blk.made w n; rw [Nat.mul_one] at this; exact this), hide (by (repeat' (first | (with_reducible exact Below.refl _ _) | (with_reducible assumption) | (with_reducible refine Below.alloc ?_ ?_ _) | (with_reducible refine Below.drew ?_) | (with_reducible refine below_drewN ?_ _) | (with_reducible refine Below.setCell ?_ ?_ _) | (with_reducible refine below_step (by with_reducible assumption) ?_ ?_) | (first | (with_reducible exact Nat.le_refl _) | (with_reducible assumption) | omega | (simp only [World.size_alloc, World.size_setCell, World.size_drew, size_drewN]; omega) | (simp; omega) | (simp; done)))))⟩
  case round =>
    obtain ⟨i, left, L, x, rfl, hx, rfl, hi, HI, HK, HBl⟩ := hrel
    have hb := HBl.out
    have hsz := hb.size
    rcases i with _ | k
    · obtain rfl : x = -1 := by omega
      clear hx
      obtain ⟨hv, hl⟩ := HI.out.done
      have hn2 : L.length = n := by rw [HI.out.len]; exact hA.out.hn.symm
      have hr := norm_row HI.out.dg
      have hlt : left < 65536 := by rw [hl]; exact Nat.lt_of_lt_of_le (Nat.mod_lt _ hm) (by omega)
      have hd1 : Digs [left] := fun d hd => by simp at hd; omega
      have hr1 := norm_row hd1
      have hnq : nd (A / m) ≤ n := by have := nd_le_of (val_lt HI.out.dg); rwa [hv, hn2] at this
      have e1 : val [left] = A % m := by simp [val, hl]
      rw [hv] at hr
      rw [e1] at hr1
      replace hv := hide hv
      replace hn2 := hide hn2
      replace hr := hide hr
      replace hr1 := hide hr1
      replace e1 := hide e1
      replace hl := hide hl
      go_wp2_with fail
      refine (norm_c HI.out.dg _ n n hn2.out.symm (Nat.le_refl _) (by omega) _ HK.out.row).mono ?_
      rintro e w1 ⟨rfl, rfl⟩
      rw [hv.out]
      go_wp2_with fail
      refine (norm_c hd1 _ 1 1 rfl (Nat.le_refl _) (by omega) _ (row_one _ left _)).mono ?_
      rintro e w1 ⟨rfl, rfl⟩
      rw [e1.out]
      go_wp2
      go_returns
      refine ⟨_, _, _, _, _, _, rfl, hide ⟨rfl, hnq, ?_⟩, hide ⟨rfl, nd_small (by rw [← hl.out]; exact hlt), ?_⟩, hnq, nd_small (by rw [← hl.out]; exact hlt), (by (repeat' (first | (with_reducible exact Below.refl _ _) | (with_reducible assumption) | (with_reducible refine Below.alloc ?_ ?_ _) | (with_reducible refine Below.drew ?_) | (with_reducible refine below_drewN ?_ _) | (with_reducible refine Below.setCell ?_ ?_ _) | (with_reducible refine below_step (by with_reducible assumption) ?_ ?_) | (first | (with_reducible exact Nat.le_refl _) | (with_reducible assumption) | omega | (simp only [World.size_alloc, World.size_setCell, World.size_drew, size_drewN]; omega) | (simp; omega) | (simp; done)))))⟩
      · rw [← hr.out]
        exact (HK.out.row.take _).below (Below.alloc (Below.refl wr.heap.size wr) (Nat.le_refl _) _) (Nat.le_refl _)
      · rw [← hr1.out]
        exact (row_one _ left _).take _
    · obtain rfl : x = (k : Int) := by omega
      clear hx
      obtain ⟨b, o, rfl, hcell⟩ := hA.out.row (by intro e; have := hA.out.hn; unfold nd at this; rw [e] at this; simp at this; omega)
      have hx := hcell k (by have := hA.out.hn; unfold nd at this; omega)
      have hbl := World.block_lt_of_cell? w _ hx
      replace hx := (HBl.out.cell (p := ⟨b, o + k, none⟩) hbl).trans hx
      obtain ⟨d, ed⟩ : ∃ d, (dig A).getD k 0 = d := ⟨_, rfl⟩
      have hd : d < 65536 := by rw [← ed]; exact getD_lt (digs_dig A) k
      rw [ed] at hx
      obtain ⟨hq, HS⟩ := HI.out.step hm ed (by rw [← hA.out.hn]; omega)
      have hlm : left < m := by rw [HI.out.l]; exact Nat.mod_lt _ hm
      replace ed := hide ed
      replace HS := hide HS
      have hke := HK.out.cell (i := k) (by rw [HI.out.len, ← hA.out.hn]; omega)
      have hkf := HK.out.free k
      obtain ⟨q, eq⟩ : ∃ q, (65536 * left + d) / m = q := ⟨_, rfl⟩
      obtain ⟨r, er⟩ : ∃ r, (65536 * left + d) % m = r := ⟨_, rfl⟩
      have hrm : r < m := by rw [← er]; exact Nat.mod_lt _ hm
      rw [eq] at hq
      have f1 : (65536 * (left : Int) + (d : Int)).tdiv (m : Int) = (q : Int) := by
        rw [Int.tdiv_eq_ediv_of_nonneg (by omega), ← eq]; simp
      have f2 : (65536 * (left : Int) + (d : Int)).tmod (m : Int) = (r : Int) := by
        rw [Int.tmod_eq_emod_of_nonneg (by omega), ← er]; simp
      have f3 : ¬ (m : Int) = 0 := by omega
      have f4 : ((m : Int) == 0) = false := by simp; omega
      have f5 : ¬ (m : Int) = -1 := by omega
      rw [eq, er] at HS
      clear hcell hbl eq er
      go_wp2
      go_region
      all_goals go_wp2
      go_roundw
      case rel =>
        refine ⟨k, r, L.set k q, (k : Int) - 1, by go_num, rfl, by go_num, by omega, HS, hide ?_, hide (by (repeat' (first | (with_reducible exact Below.refl _ _) | (with_reducible assumption) | (with_reducible refine Below.alloc ?_ ?_ _) | (with_reducible refine Below.drew ?_) | (with_reducible refine below_drewN ?_ _) | (with_reducible refine Below.setCell ?_ ?_ _) | (with_reducible refine below_step (by with_reducible assumption) ?_ ?_) | (first | (with_reducible exact Nat.le_refl _) | (with_reducible assumption) | omega | (simp only [World.size_alloc, World.size_setCell, World.size_drew, size_drewN]; omega) | (simp; omega) | (simp; done)))))⟩
        exact HK.out.set (by rw [HI.out.len, ← hA.out.hn]; omega) (by omega)
      case measure => first | (simp [intOf]; done) | (simp [intOf]; omega)
end Go.Proofs.Ytkneiobohhhcpaa
/- Package pontageref1: Div, plain: what its loops keep. -/
namespace Go.Proofs.Ytkneiobohhhcpaa
set_option linter.unusedVariables false
/-- p bits of A are still to be brought down. -/
structure DvI (A B p Q R : Nat) : Prop where
  lt : R < B
  d : 2 ^ p ∣ Q
  eq : A = Q * B + R * 2 ^ p + A % 2 ^ p
def bitOf (A p : Nat) : Nat := A / 2 ^ p % 2
theorem bitOf_le (A p : Nat) : bitOf A p ≤ 1 := by unfold bitOf; omega
theorem DvI.split {A B p Q R : Nat} (h : DvI A B (p + 1) Q R) : A = Q * B + (2 * R + bitOf A p) * 2 ^ p + A % 2 ^ p := by
  have e := h.eq
  rw [Nat.mod_pow_succ, Nat.pow_succ, show A / 2 ^ p % 2 = bitOf A p from rfl] at e
  generalize A % 2 ^ p = s at *
  generalize bitOf A p = b at *
  have e1 : (2 * R + b) * 2 ^ p = R * (2 ^ p * 2) + 2 ^ p * b := by
    rw [Nat.add_mul, Nat.mul_comm 2 R, Nat.mul_assoc R, Nat.mul_comm 2 (2 ^ p), Nat.mul_comm b]
  omega
theorem DvI.low {A B p Q R : Nat} (h : DvI A B (p + 1) Q R) (hl : 2 * R + bitOf A p < B) : DvI A B p Q (2 * R + bitOf A p) :=
  ⟨hl, Nat.dvd_trans ⟨2, Nat.pow_succ ..⟩ h.d, h.split⟩
theorem DvI.high {A B p Q R : Nat} (h : DvI A B (p + 1) Q R) (hl : B ≤ 2 * R + bitOf A p) : DvI A B p (Q + 2 ^ p) (2 * R + bitOf A p - B) := by
  have e := h.split
  have hlt := h.lt
  have hb := bitOf_le A p
  refine ⟨by omega, Nat.dvd_add (Nat.dvd_trans ⟨2, Nat.pow_succ ..⟩ h.d) (Nat.dvd_refl _), ?_⟩
  obtain ⟨r, hr⟩ : ∃ r, 2 * R + bitOf A p = B + r := ⟨2 * R + bitOf A p - B, by omega⟩
  rw [hr] at e ⊢
  rw [show B + r - B = r by omega]
  generalize A % 2 ^ p = s at *
  rw [Nat.add_mul] at e
  rw [Nat.add_mul, Nat.mul_comm (2 ^ p) B]
  omega
theorem DvI.start {A B k : Nat} (hA : A < 2 ^ k) (hB : 0 < B) : DvI A B k 0 0 := ⟨hB, Nat.dvd_zero _, by rw [Nat.mod_eq_of_lt hA]; omega⟩
theorem DvI.done {A B Q R : Nat} (h : DvI A B 0 Q R) : Q = A / B ∧ R = A % B := by
  have e := h.eq
  have hlt := h.lt
  rw [Nat.pow_zero, Nat.mul_one, Nat.mod_one, Nat.add_zero] at e
  rw [e, Nat.mul_comm Q B, Nat.mul_add_div (by omega), Nat.div_eq_of_lt hlt, Nat.mul_add_mod, Nat.mod_eq_of_lt hlt]
  exact ⟨rfl, rfl⟩
theorem pow16 (i : Nat) : 65536 ^ i = 2 ^ (16 * i) := by rw [Nat.pow_mul]
/-- The bit that comes down, out of digit i. -/
theorem bit_dig {A i t d : Nat} (ed : (dig A).getD i 0 = d) (ht : t < 16) : d / 2 ^ t % 2 = bitOf A (16 * i + t) := by
  rw [dig_get, pow16] at ed
  rw [bitOf, Nat.pow_add, ← Nat.div_div_eq_div_mul, ← ed]
  generalize A / 2 ^ (16 * i) = X
  have e : 65536 = 2 ^ t * 2 ^ (16 - t) := by rw [← Nat.pow_add, show t + (16 - t) = 16 by omega]
  rw [e, Nat.mod_mul_right_div_self, show 16 - t = (15 - t) + 1 by omega, Nat.pow_succ, Nat.mod_mul_left_mod]
/-- The quotient's digit i takes its bit t. -/
structure QI (i t : Nat) (L : List Nat) (Q : Nat) : Prop where
  dg : Digs L
  v : val L = Q
  z : ∀ j, j < i → L.getD j 0 = 0
  d : 2 ^ t ∣ L.getD i 0
theorem QI.set {i t Q : Nat} {L : List Nat} (h : QI i (t + 1) L Q) (ht : t < 16) (hi : i < L.length) : L.getD i 0 + 2 ^ t < 65536 ∧ QI i t (L.set i (L.getD i 0 + 2 ^ t)) (Q + 2 ^ (16 * i + t)) := by
  obtain ⟨dg, v, z, d⟩ := h
  have h1 := getD_lt dg i
  have h2 : L.getD i 0 + 2 ^ t < 65536 := by
    obtain ⟨m, hm⟩ := d
    rw [hm] at h1 ⊢
    have e : 65536 = 2 ^ (t + 1) * 2 ^ (15 - t) := by rw [← Nat.pow_add, show t + 1 + (15 - t) = 16 by omega]
    rw [e] at h1 ⊢
    have hm2 : m < 2 ^ (15 - t) := Nat.lt_of_mul_lt_mul_left h1
    have h3 : 2 ^ (t + 1) * (m + 1) ≤ 2 ^ (t + 1) * 2 ^ (15 - t) := Nat.mul_le_mul_left _ hm2
    rw [Nat.mul_add] at h3
    have h4 : 2 ^ t < 2 ^ (t + 1) := Nat.pow_lt_pow_right (by omega) (by omega)
    omega
  have hg : (L.set i (L.getD i 0 + 2 ^ t)).getD i 0 = L.getD i 0 + 2 ^ t := by rw [List.getD_eq_getElem?_getD, List.getElem?_set_self hi]; rfl
  refine ⟨h2, digs_set dg h2, ?_, fun j hj => ?_, ?_⟩
  · have hv := val_set (l := L) (i := i) (x := L.getD i 0 + 2 ^ t) hi
    rw [Nat.add_mul, v, Nat.pow_add, ← pow16] at *
    rw [Nat.mul_comm (65536 ^ i) (2 ^ t)]
    omega
  · rw [List.getD_eq_getElem?_getD, List.getElem?_set_ne (by omega), ← List.getD_eq_getElem?_getD]; exact z j hj
  · rw [hg]
    exact Nat.dvd_add (Nat.dvd_trans ⟨2, Nat.pow_succ ..⟩ d) (Nat.dvd_refl _)
theorem QI.skip {i t Q : Nat} {L : List Nat} (h : QI i (t + 1) L Q) : QI i t L Q := ⟨h.dg, h.v, h.z, Nat.dvd_trans ⟨2, Nat.pow_succ ..⟩ h.d⟩
theorem QI.next {i Q : Nat} {L : List Nat} (h : QI (i + 1) 0 L Q) : QI i 16 L Q := ⟨h.dg, h.v, fun j hj => h.z j (by omega), by rw [h.z i (by omega)]; exact Nat.dvd_zero _⟩
/-- The remainder's digits doubled: k of them are done. -/
structure DbI (L0 : List Nat) (b k ov : Nat) (L : List Nat) : Prop where
  len : L.length = L0.length
  dg : Digs L
  ov1 : ov ≤ 1
  rest : ∀ j, k ≤ j → L.getD j 0 = L0.getD j 0
  eq : val (L.take k) + ov * 65536 ^ k = 2 * val (L0.take k) + b
theorem DbI.start {L0 : List Nat} (h : Digs L0) {b : Nat} (hb : b ≤ 1) : DbI L0 b 0 b L0 := ⟨rfl, h, hb, fun _ _ => rfl, by simp [val]⟩
theorem DbI.step {L0 : List Nat} {b k ov e : Nat} {L : List Nat} (h : DbI L0 b k ov L) (hk : k < L0.length) (h0 : Digs L0) (ee : L.getD k 0 = e) :
    (ov + 2 * e) % 65536 < 65536 ∧ DbI L0 b (k + 1) ((ov + 2 * e) / 65536) (L.set k ((ov + 2 * e) % 65536)) := by
  obtain ⟨len, dg, ov1, rest, eq⟩ := h
  have he : e < 65536 := by rw [← ee]; exact getD_lt dg _
  refine ⟨by omega, by rw [List.length_set]; exact len, digs_set dg (by omega), by omega, fun j hj => ?_, ?_⟩
  · rw [List.getD_eq_getElem?_getD, List.getElem?_set_ne (by omega), ← List.getD_eq_getElem?_getD]; exact rest j (by omega)
  · have hkl : k < (L.set k ((ov + 2 * e) % 65536)).length := by rw [List.length_set]; omega
    rw [val_take_succ hkl, val_take_succ hk, List.take_set_of_le (by omega)]
    have e2 : (L.set k ((ov + 2 * e) % 65536)).getD k 0 = (ov + 2 * e) % 65536 := by rw [List.getD_eq_getElem?_getD, List.getElem?_set_self (by omega)]; rfl
    rw [e2, ← rest k (Nat.le_refl _), ee, Nat.pow_succ]
    have e3 : (ov + 2 * e) % 65536 * 65536 ^ k + (ov + 2 * e) / 65536 * (65536 ^ k * 65536) = (ov + 2 * e) * 65536 ^ k := by
      rw [Nat.mul_comm (65536 ^ k) 65536, ← Nat.mul_assoc, ← Nat.add_mul]; congr 1; omega
    have e4 : (ov + 2 * e) * 65536 ^ k = ov * 65536 ^ k + 2 * (e * 65536 ^ k) := by rw [Nat.add_mul, Nat.mul_assoc]
    rw [Nat.mul_add]
    omega
theorem DbI.done {L0 : List Nat} {b ov : Nat} {L : List Nat} (h : DbI L0 b L0.length ov L) (hlt : 2 * val L0 + b < 65536 ^ L0.length) : val L = 2 * val L0 + b := by
  have e := h.eq
  rw [val_take_all (Nat.le_refl _), List.take_of_length_le (by rw [h.len]; omega)] at e
  have : ov = 0 := by
    rcases Nat.eq_zero_or_pos ov with h0 | h0
    · exact h0
    · have := Nat.mul_le_mul_right (65536 ^ L0.length) h0
      omega
  rw [this] at e
  omega
end Go.Proofs.Ytkneiobohhhcpaa
/- Package pontageref1: Div, the joint state of its loops. -/
namespace Go.Proofs.Ytkneiobohhhcpaa
open Go.RowKit
set_option linter.unusedVariables false
set_option linter.unusedSimpArgs false
structure St (A B i t : Nat) (L R : List Nat) : Prop where
  ll : L.length = nd A
  rl : R.length = nd B + 1
  rd : Digs R
  q : QI i t L (val L)
  dv : DvI A B (16 * i + t) (val L) (val R)
theorem St.start {A B : Nat} (hB : 0 < B) : St A B (nd A) 0 (List.replicate (nd A) 0) (List.replicate (nd B + 1) 0) := by
  refine ⟨by simp, by simp, digs_rep _, ⟨digs_rep _, rfl, fun j hj => ?_, by rw [Nat.pow_zero]; exact Nat.one_dvd _⟩, ?_⟩
  · rw [List.getD_eq_getElem?_getD, List.getElem?_replicate]; split <;> rfl
  · rw [val_rep, val_rep]
    exact DvI.start (by rw [Nat.add_zero, ← pow16]; exact nd_lt A) hB
theorem St.next {A B i : Nat} {L R : List Nat} (h : St A B (i + 1) 0 L R) : St A B i 16 L R := ⟨h.ll, h.rl, h.rd, h.q.next, by have := h.dv; rwa [show 16 * (i + 1) + 0 = 16 * i + 16 by omega] at this⟩
theorem St.dbl {A B i t : Nat} {L R R' : List Nat} {ov : Nat} (h : St A B i (t + 1) L R) (hd : DbI R (bitOf A (16 * i + t)) R.length ov R') : val R' = 2 * val R + bitOf A (16 * i + t) := by
  refine hd.done ?_
  have h1 := h.dv.lt
  have h2 := nd_lt B
  have h3 := bitOf_le A (16 * i + t)
  rw [h.rl, Nat.pow_succ]
  omega
theorem St.low {A B i t : Nat} {L R R' : List Nat} {ov : Nat} (h : St A B i (t + 1) L R) (hd : DbI R (bitOf A (16 * i + t)) R.length ov R') (hl : val R' < B) : St A B i t L R' := by
  have e := h.dbl hd
  rw [e] at hl
  refine ⟨h.ll, by rw [hd.len]; exact h.rl, hd.dg, h.q.skip, ?_⟩
  rw [e]
  exact h.dv.low hl
theorem St.high {A B i t : Nat} {L R R' R'' : List Nat} {ov : Nat} (h : St A B i (t + 1) L R) (hd : DbI R (bitOf A (16 * i + t)) R.length ov R') (hl : B ≤ val R') (ht : t < 16) (hi : i < nd A) (hlen : R''.length = R'.length) (hdg : Digs R'') (hv : val R'' = val R' - B) :
    L.getD i 0 + 2 ^ t < 65536 ∧ St A B i t (L.set i (L.getD i 0 + 2 ^ t)) R'' := by
  have e := h.dbl hd
  obtain ⟨q1, q2⟩ := h.q.set ht (by rw [h.ll]; exact hi)
  rw [e] at hl hv
  have hh := h.dv.high hl
  refine ⟨q1, by rw [List.length_set]; exact h.ll, by rw [hlen, hd.len]; exact h.rl, hdg, ?_, ?_⟩
  · rw [q2.v]; exact q2
  · rw [q2.v, hv]; exact hh
theorem St.done {A B : Nat} {L R : List Nat} (h : St A B 0 0 L R) : val L = A / B ∧ val R = A % B := h.dv.done
/-- The copying of the difference's digits. -/
structure CpI (D k n : Nat) (R : List Nat) : Prop where
  len : R.length = n
  dg : Digs R
  eq : val (R.take k) = val ((dig D).take k)
theorem CpI.step {D k n d : Nat} {R : List Nat} (h : CpI D k n R) (hk : k < n) (ed : (dig D).getD k 0 = d) : CpI D (k + 1) n (R.set k d) := by
  obtain ⟨len, dg, eq⟩ := h
  have hd : d < 65536 := by rw [← ed]; exact getD_lt (digs_dig D) k
  refine ⟨by rw [List.length_set]; exact len, digs_set dg hd, ?_⟩
  have hkl : k < (R.set k d).length := by rw [List.length_set]; omega
  rw [val_take_succ hkl, take_step, ed, List.take_set_of_le (by omega), eq]
  have e2 : (R.set k d).getD k 0 = d := by rw [List.getD_eq_getElem?_getD, List.getElem?_set_self (by omega)]; rfl
  rw [e2]
theorem CpI.done {D n : Nat} {R : List Nat} (h : CpI D n n R) (hn : nd D ≤ n) : val R = D := by
  have := h.eq
  rwa [List.take_of_length_le (by rw [h.len]; omega), List.take_of_length_le hn, val_dig] at this
theorem and1_i64 {x : Nat} (h : x < 9223372036854775808) : bits .and .i64 (x : Int) 1 = ((x % 2 : Nat) : Int) := by
  show IntKind.i64.wrap ((BitVec.ofInt 64 (x : Int) &&& BitVec.ofInt 64 1).toNat : Int) = _
  rw [BitVec.toNat_and, show (BitVec.ofInt 64 1).toNat = 2 ^ 1 - 1 from rfl, Nat.and_two_pow_sub_one_eq_mod, BitVec.toNat_ofInt, IntKind.wrap_i64]
  omega
end Go.Proofs.Ytkneiobohhhcpaa
/- Package pontageref1, walked: Div. -/
namespace Go.Proofs.Ytkneiobohhhcpaa
open Go.RowKit
set_option linter.unusedVariables false
set_option linter.unusedSimpArgs false
theorem Row.far {w : World} {ad : Option Addr} {l : List Nat} (h : Row w ad l) {p : Addr} (hp : ∀ b o, ad = some ⟨b, o, none⟩ → b ≠ p.block) (v : Value) : Row (w.setCell p v) ad l := fun hl => by
  obtain ⟨b, o, rfl, hc⟩ := h hl
  exact ⟨b, o, rfl, fun i hi => (World.cell?_of_block (Below.heap_setCell w p v b (hp b o rfl))).trans (hc i hi)⟩
theorem Big.far {w : World} {ad : Option Addr} {n c N : Nat} (h : Big w ad n c N) {p : Addr} (hp : ∀ b o, ad = some ⟨b, o, none⟩ → b ≠ p.block) (v : Value) : Big (w.setCell p v) ad n c N := ⟨h.hn, h.hc, h.row.far hp v⟩
theorem Blk.far {w : World} {g : Nat} {L : List Nat} (h : Blk w g L) {p : Addr} (hp : g ≠ p.block) (v : Value) : Blk (w.setCell p v) g L := h.keep (Below.heap_setCell w p v g hp)
theorem set_twice (l : List Nat) (i x y : Nat) : (l.set i x).set i y = l.set i y := by simp
set_option maxRecDepth 20000 in
set_option maxHeartbeats 8000000 in
theorem rdiv_c {A B : Nat} (ad : Option Addr) (n c : Nat) (ad' : Option Addr) (n' c' : Nat) (w : World) (hA : Hid (Big w ad n c A)) (hB : Hid (Big w ad' n' c' B)) (hB0 : 0 < B) (hlen : n ≤ 100000) (hlen' : n' ≤ 90000) :
    Calls Try.prog 35 #[.slice ad n c, .slice ad' n' c'] w fun e w' => ∃ a1 n1 c1 a2 n2 c2, e = .returned (.tuple #[.slice a1 n1 c1, .slice a2 n2 c2]) ∧ Hid (Big w' a1 n1 c1 (A / B)) ∧ Hid (Big w' a2 n2 c2 (A % B)) ∧ n1 ≤ n ∧ n2 ≤ n' ∧ Below w.heap.size w w' := by
  have hn0 : 0 < n' := by rw [hB.out.hn]; exact nd_pos (by omega)
  obtain ⟨b, o, rfl, hcellB⟩ := hB.out.row (by intro e; have := hB.out.hn; unfold nd at this; rw [e] at this; simp at this; omega)
  replace hcellB := hide hcellB
  by_cases h1 : n' = 1
  · subst h1
    have hx := hcellB.out 0 (by have := hB.out.hn; unfold nd at this; omega)
    have hBs : B < 65536 := by have := nd_lt B; rw [← hB.out.hn] at this; simpa using this
    rw [dig_get, Nat.pow_zero, Nat.div_one, Nat.mod_eq_of_lt hBs, Nat.add_zero] at hx
    have HS := hide (fun w h => rshort_c (A := A) (m := B) ad n c w h hB0 hBs hlen)
    clear hBs
    go_enter Try.func35, Try.ntmps35
    go_wp2_with fail
    refine (HS.out _ hA).mono ?_
    rintro e w1 ⟨a1, n1, c1, a2, n2, c2, rfl, k1, k2, k3, k4, hb1⟩
    go_wp2
    go_returns
    exact ⟨_, _, _, _, _, _, rfl, k1, k2, k3, k4, hb1⟩
  have h1' : ((n' : Int) == 1) = false := by simp; omega
  have h1'' : ¬ (n' : Int) = 1 := by omega
  have hmk := make_n (n := n) (by omega)
  have hmk' : ∀ W : World, (Instr.makeSlice 60 (.int .i64 ((n' : Int) + 1)) (.int .i64 ((n' : Int) + 1))).run Try.prog W = .ok (.slice (some ⟨W.heap.size, 0, none⟩) (n' + 1) (n' + 1)) (W.alloc (.cells (madeCells (Value.int .i64 0).cells ((n' + 1) * 1)) 3)) := by
    intro W
    have := make_n (n := n' + 1) (by omega) W
    rwa [Int.natCast_add] at this
  go_enter Try.func35, Try.ntmps35
  go_wp2
  clear hmk hmk'
  go_loopw [8] (fun v8 wr => ∃ (i : Nat) (L R : List Nat) (x : Int), v8 = .int .i64 x ∧ x = (i : Int) - 1 ∧ i ≤ n ∧ Hid (St A B i 0 L R) ∧ Hid (Blk wr w.heap.size L) ∧ Hid (Blk wr (w.heap.size + 1) R) ∧ Hid (Below w.heap.size w wr)) (fun v8 _ => (intOf v8 + 1).toNat)
  case atStart =>
    have hq := Blk.made w n
    have hr := Blk.made (w.alloc (.cells (madeCells (Value.int .i64 0).cells (n * 1)) 3)) (n' + 1)
    simp only [World.size_alloc, Nat.mul_one] at hq hr
    exact ⟨n, List.replicate n 0, List.replicate (n' + 1) 0, _, rfl, by go_num, by omega, hide (by rw [hA.out.hn, hB.out.hn]; exact St.start hB0), hide (hq.keep (Below.block (Below.alloc (Below.refl _ _) (Nat.le_refl _) _) _ (by simp))), hide hr, hide (by (repeat' (first | (with_reducible exact Below.refl _ _) | (with_reducible assumption) | (with_reducible refine Below.alloc ?_ ?_ _) | (with_reducible refine Below.drew ?_) | (with_reducible refine below_drewN ?_ _) | (with_reducible refine Below.setCell ?_ ?_ _) | (with_reducible refine below_step (by with_reducible assumption) ?_ ?_) | (first | (with_reducible exact Nat.le_refl _) | (with_reducible assumption) | omega | (simp only [World.size_alloc, World.size_setCell, World.size_drew, size_drewN]; omega) | (simp; omega) | (simp; done)))))⟩
  case round =>
    obtain ⟨i, L, R, x, rfl, hx, hi, HI, HQ, HR, HBl⟩ := hrel
    have hb := HBl.out
    have hsz := hb.size
    have hqlt := HQ.out.lt
    have hrlt := HR.out.lt
    rcases i with _ | k
    · obtain rfl : x = -1 := by omega
      clear hx
      obtain ⟨hv1, hv2⟩ := HI.out.done
      have hl1 : L.length = n := by rw [HI.out.ll]; exact hA.out.hn.symm
      have hl2 : R.length = n' + 1 := by rw [HI.out.rl, hB.out.hn]
      have hr1 := norm_row HI.out.q.dg
      have hr2 := norm_row HI.out.rd
      have hn1 : nd (A / B) ≤ n := by have := nd_le_of (val_lt HI.out.q.dg); rwa [hv1, hl1] at this
      have hn2 : nd (A % B) ≤ n' := by
        rw [hB.out.hn]
        exact nd_le_of (Nat.lt_trans (Nat.mod_lt _ hB0) (nd_lt B))
      rw [hv1] at hr1
      rw [hv2] at hr2
      replace hv1 := hide hv1
      replace hv2 := hide hv2
      replace hl1 := hide hl1
      replace hl2 := hide hl2
      replace hr1 := hide hr1
      replace hr2 := hide hr2
      go_wp2_with fail
      refine (norm_c HI.out.q.dg _ n n hl1.out.symm (Nat.le_refl _) (by omega) _ HQ.out.row).mono ?_
      rintro e w1 ⟨rfl, rfl⟩
      rw [hv1.out]
      go_wp2_with fail
      refine (norm_c HI.out.rd _ (n' + 1) (n' + 1) hl2.out.symm (Nat.le_refl _) (by omega) _ HR.out.row).mono ?_
      rintro e w1 ⟨rfl, rfl⟩
      rw [hv2.out]
      go_wp2
      go_returns
      refine ⟨_, _, _, _, _, _, rfl, hide ⟨rfl, hn1, ?_⟩, hide ⟨rfl, by omega, ?_⟩, hn1, hn2, hb⟩
      · rw [← hr1.out]
        exact HQ.out.row.take _
      · rw [← hr2.out]
        exact HR.out.row.take _
    · obtain rfl : x = (k : Int) := by omega
      clear hx
      have HIn := hide HI.out.next
      obtain ⟨d, ed⟩ : ∃ d, (dig A).getD k 0 = d := ⟨_, rfl⟩
      have hd : d < 65536 := by rw [← ed]; exact getD_lt (digs_dig A) k
      have hAne : dig A ≠ [] := by intro e; have := hA.out.hn; unfold nd at this; rw [e] at this; simp at this; omega
      obtain ⟨ba, oa, rfl, hcell⟩ := hA.out.row hAne
      have hxa := hcell k (by have := hA.out.hn; unfold nd at this; omega)
      have hbla := World.block_lt_of_cell? w _ hxa
      rw [ed] at hxa
      replace ed := hide ed
      replace hxa := hide hxa
      clear hcell hAne
      go_wp2
      go_loopw [9] (fun v9 wr => ∃ (t : Nat) (L R : List Nat) (x : Int), v9 = .int .i64 x ∧ x = (t : Int) - 1 ∧ t ≤ 16 ∧ Hid (St A B k t L R) ∧ Hid (Blk wr w.heap.size L) ∧ Hid (Blk wr (w.heap.size + 1) R) ∧ Hid (Below w.heap.size w wr)) (fun v9 _ => (intOf v9 + 1).toNat)
      case atStart => exact ⟨16, L, R, _, rfl, by go_num, by omega, HIn, HQ, HR, HBl⟩
      case round =>
        clear hb hsz hqlt hrlt HIn HI HQ HR HBl
        obtain ⟨t, L, R, x, rfl, hx, ht, HI, HQ, HR, HBl⟩ := hrel
        have hb := HBl.out
        have hsz := hb.size
        have hqlt := HQ.out.lt
        have hrlt := HR.out.lt
        rcases t with _ | s
        · obtain rfl : x = -1 := by omega
          clear hx hd hbla h1' h1'' hsz hqlt hrlt ht
          go_wp2
          go_roundw
          case rel => exact ⟨k, L, R, _, by go_num, rfl, by omega, HI, HQ, HR, HBl⟩
          case measure => first | (simp [intOf]; done) | (simp [intOf]; omega)
        · obtain rfl : x = (s : Int) := by omega
          clear hx
          have hxx := (hb.cell (p := ⟨ba, oa + k, none⟩) hbla).trans hxa.out
          obtain ⟨y, ey⟩ : ∃ y, bitOf A (16 * k + s) = y := ⟨_, rfl⟩
          have hy : y ≤ 1 := by rw [← ey]; exact bitOf_le _ _
          have hp : 2 ^ s < 65536 := by have := Nat.pow_lt_pow_right (a := 2) (by omega) (show s < 16 by omega); simpa using this
          have hdv : d / 2 ^ s ≤ d := Nat.div_le_self _ _
          have hbit : bits .and .i64 ((d : Int) / 2 ^ s) 1 = (y : Int) := by
            have e := and1_i64 (x := d / 2 ^ s) (by omega)
            rw [bit_dig ed.out (by omega), ey] at e
            rw [← e]
            congr 1
          have hs1 : IntKind.u64.wrap (s : Int) = (s : Int) := by rw [IntKind.wrap_u64]; omega
          replace ey := hide ey
          have hrl : R.length = n' + 1 := by rw [HI.out.rl, hB.out.hn]
          go_wp2
          go_loopw [10, 11] (fun v10 v11 wr => ∃ (m ov : Nat) (R' : List Nat), v11 = .int .i64 m ∧ v10 = .int .i64 ov ∧ m ≤ n' + 1 ∧ Hid (DbI R y m ov R') ∧ Hid (Blk wr w.heap.size L) ∧ Hid (Blk wr (w.heap.size + 1) R') ∧ Hid (Below w.heap.size w wr)) (fun _ v11 _ => n' + 1 - (intOf v11).toNat)
          case atStart => exact ⟨0, y, R, rfl, rfl, by omega, hide (DbI.start HI.out.rd hy), HQ, HR, HBl⟩
          case round =>
          clear hb hsz hqlt hrlt HQ HR HBl
          obtain ⟨m, ov, R', rfl, rfl, hm, HD, HQ, HR, HBl⟩ := hrel
          have hb := HBl.out
          have hsz := hb.size
          have hqlt := HQ.out.lt
          have hrlt := HR.out.lt
          have hrl' : R'.length = n' + 1 := by rw [HD.out.len, hrl]
          have hov := HD.out.ov1
          by_cases h2 : m < n' + 1
          · have hke := HR.out.cell (i := m) (by omega)
            have hkf := HR.out.free m
            obtain ⟨e, ee⟩ : ∃ e, R'.getD m 0 = e := ⟨_, rfl⟩
            have he : e < 65536 := by rw [← ee]; exact getD_lt HD.out.dg _
            rw [ee] at hke
            have HS := hide (HD.out.step (by omega) HI.out.rd ee)
            have N1 := and_i64
            replace ee := hide ee
            have h2' : (m : Int) < (n' : Int) + 1 := by omega
            go_wp2
            go_roundw
            case rel =>
              have hc : ((ov : Int) + 2 * (e : Int)) = ((ov + 2 * e : Nat) : Int) := by simp
              refine ⟨m + 1, (ov + 2 * e) / 65536, R'.set m ((ov + 2 * e) % 65536), by go_num, by go_num, by omega, hide HS.out.2, hide ?_, hide ?_, hide (by (repeat' (first | (with_reducible exact Below.refl _ _) | (with_reducible assumption) | (with_reducible refine Below.alloc ?_ ?_ _) | (with_reducible refine Below.drew ?_) | (with_reducible refine below_drewN ?_ _) | (with_reducible refine Below.setCell ?_ ?_ _) | (with_reducible refine below_step (by with_reducible assumption) ?_ ?_) | (first | (with_reducible exact Nat.le_refl _) | (with_reducible assumption) | omega | (simp only [World.size_alloc, World.size_setCell, World.size_drew, size_drewN]; omega) | (simp; omega) | (simp; done)))))⟩
              · exact HQ.out.keep (Below.heap_setCell _ _ _ _ (by intro hh; dsimp only at hh; omega))
              · exact HR.out.set (by omega) (by omega)
            case measure => simp [intOf]; omega
          · obtain rfl : m = n' + 1 := by omega
            have HDd := hide (show DbI R (bitOf A (16 * k + s)) R.length ov R' by rw [hrl, ey.out]; exact HD.out)
            have hVn : nd (val R') ≤ n' + 1 := by have := nd_le_of (val_lt HD.out.dg); rwa [hrl'] at this
            have hrow : Row wr (some ⟨w.heap.size + 1, 0, none⟩) (dig (val R')) := by rw [← norm_row HD.out.dg]; exact HR.out.row.take _
            have hrowB : Row wr (some ⟨b, o, none⟩) (dig B) := (hB.out.below hb (Nat.le_refl _)).row
            have HN := hide (fun W h => norm_c HD.out.dg (some ⟨w.heap.size + 1, 0, none⟩) (n' + 1) (n' + 1) hrl'.symm (Nat.le_refl _) (by omega) W h)
            have HL := hide (fun h => HI.out.low HDd.out h)
            have HH := hide (fun h R'' h1 h2 h3 => HI.out.high (R'' := R'') HDd.out h (by omega) (by rw [← hA.out.hn]; omega) h1 h2 h3)
            obtain ⟨V, hV⟩ : ∃ V, val R' = V := ⟨_, rfl⟩
            rw [hV] at hVn hrow HN HL HH
            replace hV := hide hV
            have HC := hide (fun W h h' => rcmp_c (A := V) (B := B) (some ⟨w.heap.size + 1, 0, none⟩) (nd V) (n' + 1) (hide rfl) (some ⟨b, o, none⟩) n' c' (hide hB.out.hn) (by omega) (by omega) W h h')
            replace hrow := hide hrow
            replace hrowB := hide hrowB
            by_cases hVB : V < B
            · have hcm : cmpV V B = -1 := by rw [cmpV, if_pos hVB]
              have HLs := hide (HL.out hVB)
              clear hVB
              go_wp2_with fail
              refine (HN.out _ HR.out.row).mono ?_
              rintro e w1 ⟨rfl, rfl⟩
              go_wp2_with fail
              refine (HC.out _ hrow hrowB).mono ?_
              rintro e w1 ⟨rfl, hb1⟩
              have hs1 := hb1.size
              go_wp2
              go_roundw
              case rel => exact ⟨s, L, R', _, by go_num, rfl, by omega, HLs, hide (HQ.out.below hb1 hqlt), hide (HR.out.below hb1 hrlt), hide (by (repeat' (first | (with_reducible exact Below.refl _ _) | (with_reducible assumption) | (with_reducible refine Below.alloc ?_ ?_ _) | (with_reducible refine Below.drew ?_) | (with_reducible refine below_drewN ?_ _) | (with_reducible refine Below.setCell ?_ ?_ _) | (with_reducible refine below_step (by with_reducible assumption) ?_ ?_) | (first | (with_reducible exact Nat.le_refl _) | (with_reducible assumption) | omega | (simp only [World.size_alloc, World.size_setCell, World.size_drew, size_drewN]; omega) | (simp; omega) | (simp; done)))))⟩
              case measure => first | (simp [intOf]; done) | (simp [intOf]; omega)
            · obtain ⟨z, hcm, hz0⟩ : ∃ z, cmpV V B = z ∧ 0 ≤ z := ⟨_, rfl, by rw [cmpV, if_neg hVB]; split <;> decide⟩
              have hle : B ≤ V := by omega
              have HHs := hide (HH.out hle)
              clear hVB
              go_wp2_with fail
              refine (HN.out _ HR.out.row).mono ?_
              rintro e w1 ⟨rfl, rfl⟩
              go_wp2_with fail
              refine (HC.out _ hrow hrowB).mono ?_
              rintro e w1 ⟨rfl, hb1⟩
              have hs1 := hb1.size
              go_wp2_with fail
              refine (HN.out _ (HR.out.below hb1 hrlt).row).mono ?_
              rintro e w2 ⟨rfl, rfl⟩
              go_wp2_with fail
              refine (rsub_f (A := V) (B := B) hle _ _ _ _ _ _ _ (hide ⟨rfl, hVn, hrow.out.below hb1 (Nat.le_refl _)⟩) (hide ⟨hB.out.hn, hB.out.hc, hrowB.out.below hb1 (Nat.le_refl _)⟩) (by omega) (by omega)).mono ?_
              rintro e w2 ⟨a2, n2, c2, rfl, hD, hn2, hb2, hfr⟩
              have hs2 := hb2.size
              go_wp2
              obtain ⟨D, hDe⟩ : ∃ D, V - B = D := ⟨_, rfl⟩
              rw [hDe] at hD
              have hDV : nd D ≤ n' + 1 := by rw [← hD.out.hn]; omega
              have hn2' : n2 ≤ n' + 1 := by omega
              have hq2 := (HQ.out.below hb1 hqlt).below hb2 (by omega)
              have hr2 := (HR.out.below hb1 hrlt).below hb2 (by omega)
              have hbw : Below w.heap.size w w2 := (by (repeat' (first | (with_reducible exact Below.refl _ _) | (with_reducible assumption) | (with_reducible refine Below.alloc ?_ ?_ _) | (with_reducible refine Below.drew ?_) | (with_reducible refine below_drewN ?_ _) | (with_reducible refine Below.setCell ?_ ?_ _) | (with_reducible refine below_step (by with_reducible assumption) ?_ ?_) | (first | (with_reducible exact Nat.le_refl _) | (with_reducible assumption) | omega | (simp only [World.size_alloc, World.size_setCell, World.size_drew, size_drewN]; omega) | (simp; omega) | (simp; done)))))
              have hw1 : w.heap.size + 1 < w1.heap.size := by omega
              have hfar : ∀ b o, a2 = some ⟨b, o, none⟩ → b ≠ w.heap.size + 1 := fun b o e => by have := hfr b o e; omega
              replace hfar := hide hfar
              go_loopw [13] (fun v13 wr => ∃ (m : Nat) (R2 : List Nat), v13 = .int .i64 m ∧ m ≤ n' + 1 ∧ Hid (CpI D m (n' + 1) R2) ∧ Hid (Blk wr w.heap.size L) ∧ Hid (Blk wr (w.heap.size + 1) R2) ∧ Hid (Big wr a2 n2 c2 D) ∧ Hid (Below w.heap.size w wr)) (fun v13 _ => n' + 1 - (intOf v13).toNat)
              case atStart => exact ⟨0, R', rfl, by omega, hide ⟨hrl', HD.out.dg, by simp [val]⟩, hide hq2, hide hr2, hD, hide hbw⟩
              case round =>
                clear hb hsz hqlt hrlt HQ HR HBl hq2 hr2 hbw hD hb1 hb2 hs1 hs2 hrow hrowB
                obtain ⟨m, R2, rfl, hm, HP, HQ, HR, hD, HBl⟩ := hrel
                have hb := HBl.out
                have hsz := hb.size
                have hqlt := HQ.out.lt
                have hrlt := HR.out.lt
                have hl2 := HP.out.len
                by_cases h2 : m < n' + 1
                · have hke := HR.out.cell (i := m) (by omega)
                  have hkf := HR.out.free m
                  have h2' : (m : Int) < (n' : Int) + 1 := by omega
                  by_cases h3 : m < n2
                  · obtain ⟨bd, od, rfl, hcd⟩ := hD.out.row (by intro e; have := hD.out.hn; unfold nd at this; rw [e] at this; simp at this; omega)
                    have hxd := hcd m (by have := hD.out.hn; unfold nd at this; omega)
                    have hfr2 := hfr bd od rfl
                    have hne : ¬ (w.heap.size + 1 = bd) := by omega
                    have hne2 : ¬ (bd = w.heap.size + 1) := by omega
                    obtain ⟨d2, ed2⟩ : ∃ d2, (dig D).getD m 0 = d2 := ⟨_, rfl⟩
                    rw [ed2] at hxd
                    have HPs := hide (HP.out.step h2 ed2)
                    replace ed2 := hide ed2
                    clear hcd
                    go_wp2
                    go_roundw
                    case rel =>
                      refine ⟨m + 1, R2.set m d2, by go_num, by omega, HPs, hide ((HQ.out.far (by intro hh; dsimp only at hh; omega) _).far (by intro hh; dsimp only at hh; omega) _), hide ?_, hide ((hD.out.far hfar.out _).far hfar.out _), hide (by (repeat' (first | (with_reducible exact Below.refl _ _) | (with_reducible assumption) | (with_reducible refine Below.alloc ?_ ?_ _) | (with_reducible refine Below.drew ?_) | (with_reducible refine below_drewN ?_ _) | (with_reducible refine Below.setCell ?_ ?_ _) | (with_reducible refine below_step (by with_reducible assumption) ?_ ?_) | (first | (with_reducible exact Nat.le_refl _) | (with_reducible assumption) | omega | (simp only [World.size_alloc, World.size_setCell, World.size_drew, size_drewN]; omega) | (simp; omega) | (simp; done)))))⟩
                      rw [← set_twice R2 m 0 d2]
                      exact (HR.out.set (by omega) rfl).set (by rw [List.length_set]; omega) rfl
                    case measure => simp [intOf]; omega
                  · have ed2 : (dig D).getD m 0 = 0 := by rw [List.getD_eq_getElem?_getD, List.getElem?_eq_none (by have := hD.out.hn; unfold nd at this; omega)]; rfl
                    have HPs := hide (HP.out.step h2 ed2)
                    replace ed2 := hide ed2
                    have h3' : (n2 : Int) ≤ (m : Int) := by omega
                    go_wp2
                    go_roundw
                    case rel => exact ⟨m + 1, R2.set m 0, by go_num, by omega, HPs, hide (HQ.out.far (by intro hh; dsimp only at hh; omega) _), hide (HR.out.set (by omega) rfl), hide (hD.out.far hfar.out _), hide (by (repeat' (first | (with_reducible exact Below.refl _ _) | (with_reducible assumption) | (with_reducible refine Below.alloc ?_ ?_ _) | (with_reducible refine Below.drew ?_) | (with_reducible refine below_drewN ?_ _) | (with_reducible refine Below.setCell ?_ ?_ _) | (with_reducible refine below_step (by with_reducible assumption) ?_ ?_) | (first | (with_reducible exact Nat.le_refl _) | (with_reducible assumption) | omega | (simp only [World.size_alloc, World.size_setCell, World.size_drew, size_drewN]; omega) | (simp; omega) | (simp; done)))))⟩
                    case measure => simp [intOf]; omega
                · obtain rfl : m = n' + 1 := by omega
                  obtain ⟨q1, HSt⟩ := HHs.out R2 (by rw [hl2, hrl']) HP.out.dg (by rw [HP.out.done hDV, ← hDe])
                  replace HSt := hide HSt
                  have hqc := HQ.out.cell (i := k) (by rw [HI.out.ll, ← hA.out.hn]; omega)
                  have hqf := HQ.out.free k
                  obtain ⟨f, ef⟩ : ∃ f, L.getD k 0 = f := ⟨_, rfl⟩
                  rw [ef] at hqc q1 HSt
                  replace ef := hide ef
                  obtain ⟨p2, ep2⟩ : ∃ p2 : Nat, 2 ^ s = p2 := ⟨_, rfl⟩
                  rw [ep2] at hp q1 HSt
                  have ep : (2 : Int) ^ s = (p2 : Int) := by rw [← ep2]; simp
                  have hwp : IntKind.i64.wrap (p2 : Int) = (p2 : Int) := by rw [IntKind.wrap_i64]; omega
                  replace ep2 := hide ep2
                  clear HHs hl2
                  go_wp2
                  go_roundw
                  case rel => exact ⟨s, L.set k (f + p2), R2, _, by go_num, rfl, by omega, HSt, hide (HQ.out.set (by rw [HI.out.ll, ← hA.out.hn]; omega) (by omega)), hide (HR.out.far (by intro hh; dsimp only at hh; omega) _), hide (by (repeat' (first | (with_reducible exact Below.refl _ _) | (with_reducible assumption) | (with_reducible refine Below.alloc ?_ ?_ _) | (with_reducible refine Below.drew ?_) | (with_reducible refine below_drewN ?_ _) | (with_reducible refine Below.setCell ?_ ?_ _) | (with_reducible refine below_step (by with_reducible assumption) ?_ ?_) | (first | (with_reducible exact Nat.le_refl _) | (with_reducible assumption) | omega | (simp only [World.size_alloc, World.size_setCell, World.size_drew, size_drewN]; omega) | (simp; omega) | (simp; done)))))⟩
                  case measure => first | (simp [intOf]; done) | (simp [intOf]; omega)
end Go.Proofs.Ytkneiobohhhcpaa
/- Package pontageref1: ToUint256 of a number. -/
namespace Go.Proofs.Ytkneiobohhhcpaa
open Go.RowKit
set_option linter.unusedVariables false
theorem toBig_c {N : Nat} (hN : N < M256) {ad : Option Addr} {n c : Nat} {w : World} (h : Hid (Big w ad n c N)) (hlen : n ≤ 100000) :
    Calls Try.prog 38 #[.slice ad n c] w fun e w' => e = .returned (.agg #[.int .u64 (lim N 0), .int .u64 (lim N 1), .int .u64 (lim N 2), .int .u64 (lim N 3)]) ∧ Below w.heap.size w w' := by
  have hl : val ((dig N).take 16) = N := by rw [List.take_of_length_le (show (dig N).length ≤ 16 from nd16.2 hN), val_dig]
  have := toU_c (digs_dig N) ad n c (hide h.out.hn) hlen w (hide h.out.row)
  rwa [hl] at this
end Go.Proofs.Ytkneiobohhhcpaa
