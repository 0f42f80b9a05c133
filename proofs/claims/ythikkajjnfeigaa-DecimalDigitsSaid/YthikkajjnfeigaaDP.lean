/- Chapter 4, plain: decimal digits. -/
import Derived.Test.YthikkajjnfeigaaB
set_option linter.unusedVariables false
set_option linter.unusedSimpArgs false
namespace Go.Proofs.Ythikkajjnfeigaa
/-- The decimal digits of n, the least first (f is more than their number). -/
def ld : Nat → Nat → List Nat
  | 0, _ => []
  | f + 1, n => n % 10 :: (if n / 10 = 0 then [] else ld f (n / 10))
def vl : List Nat → Nat
  | [] => 0
  | d :: l => d + 10 * vl l
/-- no number below 2^256 has more digits -/
def nf : Nat := 78
def topnz : List Nat → Prop
  | [] => True
  | [d] => d ≠ 0
  | _ :: e :: l => topnz (e :: l)
theorem vl_ld : ∀ (f n : Nat), n < 10 ^ f → vl (ld f n) = n
  | 0, n, h => by
    have : n = 0 := by simpa using h
    subst this
    rfl
  | f + 1, n, h => by
    have h' : n / 10 < 10 ^ f := by
      rw [Nat.pow_succ, Nat.mul_comm] at h
      exact Nat.div_lt_of_lt_mul h
    unfold ld
    by_cases h0 : n / 10 = 0
    · rw [if_pos h0]
      simp only [vl]
      omega
    · rw [if_neg h0]
      simp only [vl]
      rw [vl_ld f _ h']
      omega
theorem ld_lt : ∀ (f n d : Nat), d ∈ ld f n → d < 10
  | 0, n, d, h => by simp [ld] at h
  | f + 1, n, d, h => by
    unfold ld at h
    rcases List.mem_cons.1 h with rfl | h
    · omega
    · split at h
      · simp at h
      · exact ld_lt f _ d h
theorem ld_len : ∀ (f n : Nat), (ld f n).length ≤ f
  | 0, n => by simp [ld]
  | f + 1, n => by
    unfold ld
    split
    · simp
    · have := ld_len f (n / 10)
      simp
      omega
theorem vl_pos : ∀ (L : List Nat), topnz L → L ≠ [] → 0 < vl L
  | [], _, h => absurd rfl h
  | [d], h, _ => by
    have : d ≠ 0 := h
    simp only [vl]
    omega
  | d :: e :: l, h, _ => by
    have := vl_pos (e :: l) h (by simp)
    rw [vl]
    omega
theorem ld_top : ∀ (f n : Nat), 0 < n → n < 10 ^ f → topnz (ld f n)
  | 0, n, h0, h => by simp at h; omega
  | f + 1, n, h0, h => by
    have h' : n / 10 < 10 ^ f := by
      rw [Nat.pow_succ, Nat.mul_comm] at h
      exact Nat.div_lt_of_lt_mul h
    unfold ld
    by_cases hz : n / 10 = 0
    · rw [if_pos hz]
      show n % 10 ≠ 0
      omega
    · rw [if_neg hz]
      have ih := ld_top f (n / 10) (by omega) h'
      have hv := vl_ld f (n / 10) h'
      cases hL : ld f (n / 10) with
      | nil => rw [hL] at hv; simp only [vl] at hv; omega
      | cons e l => rw [hL] at ih; exact ih
theorem ld_one (f : Nat) {d : Nat} (h : d < 10) : ld (f + 1) d = [d] := by
  unfold ld
  rw [if_pos (by omega), Nat.mod_eq_of_lt h]
theorem ld_vl : ∀ (L : List Nat) (f : Nat), (∀ d ∈ L, d < 10) → L ≠ [] → topnz L → L.length ≤ f → ld f (vl L) = L
  | [], _, _, h, _, _ => absurd rfl h
  | [d], 0, _, _, _, h => by simp at h
  | [d], f + 1, hd, _, _, _ => by
    have h := hd d (by simp)
    have e1 : vl [d] = d := by simp [vl]
    rw [e1]
    exact ld_one f h
  | d :: e :: l, 0, _, _, _, h => by simp at h
  | d :: e :: l, f + 1, hd, _, ht, hl => by
    have h := hd d (by simp)
    have hp := vl_pos (e :: l) ht (by simp)
    have ih := ld_vl (e :: l) f (fun x hx => hd x (List.mem_cons_of_mem _ hx)) (by simp) ht (by simp at hl ⊢; omega)
    have e1 : vl (d :: e :: l) = d + 10 * vl (e :: l) := rfl
    unfold ld
    rw [e1, if_neg (by omega), show (d + 10 * vl (e :: l)) / 10 = vl (e :: l) by omega, ih]
    congr 1
    omega
theorem vl_ge : ∀ (L : List Nat), topnz L → L ≠ [] → 10 ^ (L.length - 1) ≤ vl L
  | [], _, h => absurd rfl h
  | [d], h, _ => by
    have : d ≠ 0 := h
    simp only [vl, List.length_singleton, Nat.sub_self, Nat.pow_zero]
    omega
  | d :: e :: l, h, _ => by
    have := vl_ge (e :: l) h (by simp)
    rw [vl]
    simp only [List.length_cons, Nat.add_sub_cancel] at this ⊢
    rw [Nat.pow_succ]
    omega
theorem vl_lt : ∀ (L : List Nat), (∀ d ∈ L, d < 10) → vl L < 10 ^ L.length
  | [], _ => by simp [vl]
  | d :: l, h => by
    have h1 := h d (by simp)
    have ih := vl_lt l fun x hx => h x (List.mem_cons_of_mem _ hx)
    rw [vl, List.length_cons, Nat.pow_succ]
    omega
theorem topnz_last : ∀ (L : List Nat) (d : Nat), topnz L → L.getLast? = some d → d ≠ 0
  | [], d, _, h => by simp at h
  | [e], d, ht, h => by
    have : e = d := by simpa using h
    subst this
    exact ht
  | a :: e :: l, d, ht, h => topnz_last (e :: l) d ht (by simpa [List.getLast?_cons_cons] using h)
theorem topnz_snoc : ∀ (L : List Nat) (d : Nat), d ≠ 0 → topnz (L ++ [d])
  | [], d, h => h
  | [a], d, h => h
  | a :: e :: l, d, h => topnz_snoc (e :: l) d h
/-! strings -/
def ch (d : Nat) : UInt8 := UInt8.ofNat (48 + d)
theorem ch_nat {d : Nat} (h : d < 10) : (ch d).toNat = 48 + d := by
  unfold ch
  rw [UInt8.toNat_ofNat']
  omega
def decL (A : Nat) : List UInt8 := (ld nf A).reverse.map ch
def pv (l : List UInt8) (n : Nat) : Nat := l.foldl (fun n c => 10 * n + (c.toNat - 48)) n
theorem pv_nil (n : Nat) : pv [] n = n := rfl
theorem pv_cons (c : UInt8) (l : List UInt8) (n : Nat) : pv (c :: l) n = pv l (10 * n + (c.toNat - 48)) := by simp only [pv, List.foldl_cons]
theorem pv_append (a b : List UInt8) (n : Nat) : pv (a ++ b) n = pv b (pv a n) := List.foldl_append
theorem pv_snoc (a : List UInt8) (c : UInt8) (n : Nat) : pv (a ++ [c]) n = 10 * pv a n + (c.toNat - 48) := by rw [pv_append, pv_cons, pv_nil]
theorem pv_le : ∀ (l : List UInt8) (n : Nat), n ≤ pv l n
  | [], n => Nat.le_refl _
  | c :: l, n => by
    have := pv_le l (10 * n + (c.toNat - 48))
    rw [pv_cons]
    omega
theorem pv_take (l : List UInt8) (k : Nat) : pv (l.take k) 0 ≤ pv l 0 := by
  conv => rhs; rw [← List.take_append_drop k l, pv_append]
  exact pv_le _ _
theorem pv_rev : ∀ (L : List Nat), (∀ d ∈ L, d < 10) → pv (L.reverse.map ch) 0 = vl L
  | [], _ => rfl
  | d :: l, h => by
    have ih := pv_rev l fun x hx => h x (List.mem_cons_of_mem _ hx)
    rw [List.reverse_cons, List.map_append, List.map_singleton, pv_snoc, ih, ch_nat (h d (by simp)), vl]
    omega
theorem pv_ld (f n : Nat) (h : n < 10 ^ f) : pv ((ld f n).reverse.map ch) 0 = n := (pv_rev _ (fun d hd => ld_lt f n d hd)).trans (vl_ld f n h)
theorem pv_dec {A : Nat} (h : A < 10 ^ nf) : pv (decL A) 0 = A := by
  have e : decL A = (ld nf A).reverse.map ch := by rw [decL]
  have h2 := pv_ld nf A h
  rw [← e] at h2
  exact h2
structure Canon (l : List UInt8) : Prop where
  ne : l ≠ []
  dig : ∀ c ∈ l, 48 ≤ c.toNat ∧ c.toNat ≤ 57
  top : 1 < l.length → l.head? ≠ some 48
/-- the digits of a string, the least first -/
def dgs (l : List UInt8) : List Nat := (l.map fun c => c.toNat - 48).reverse
theorem dgs_back {l : List UInt8} (h : ∀ c ∈ l, 48 ≤ c.toNat ∧ c.toNat ≤ 57) : (dgs l).reverse.map ch = l := by
  unfold dgs
  rw [List.reverse_reverse, List.map_map]
  conv => rhs; rw [← List.map_id l]
  apply List.map_congr_left
  intro c hc
  have := h c hc
  show ch (c.toNat - 48) = c
  unfold ch
  apply UInt8.toNat_inj.1
  rw [UInt8.toNat_ofNat']
  have := c.toNat_lt
  omega
theorem dgs_lt {l : List UInt8} (h : ∀ c ∈ l, 48 ≤ c.toNat ∧ c.toNat ≤ 57) : ∀ d ∈ dgs l, d < 10 := by
  intro d hd
  unfold dgs at hd
  rw [List.mem_reverse] at hd
  obtain ⟨c, hc, rfl⟩ := List.mem_map.1 hd
  have := h c hc
  omega
theorem dgs_len (l : List UInt8) : (dgs l).length = l.length := by simp [dgs]
theorem pv_dgs {l : List UInt8} (h : ∀ c ∈ l, 48 ≤ c.toNat ∧ c.toNat ≤ 57) : pv l 0 = vl (dgs l) := by
  conv => lhs; rw [← dgs_back h]
  exact pv_rev _ (dgs_lt h)
theorem dgs_top {l : List UInt8} (h : Canon l) (h1 : 1 < l.length) : topnz (dgs l) := by
  cases l with
  | nil => simp at h1
  | cons c l =>
    have hh := h.top h1
    have hc := h.dig c (by simp)
    unfold dgs
    rw [List.map_cons, List.reverse_cons]
    refine topnz_snoc _ _ fun e => hh ?_
    rw [List.head?_cons]
    congr 1
    apply UInt8.toNat_inj.1
    show c.toNat = 48
    omega
theorem canon_long {l : List UInt8} (h : Canon l) {k : Nat} (hk : 0 < k) (hl : k < l.length) : 10 ^ k ≤ pv l 0 := by
  have ht := dgs_top h (by omega)
  have hne : dgs l ≠ [] := fun e => by have := dgs_len l; rw [e] at this; simp at this; omega
  have := vl_ge _ ht hne
  rw [pv_dgs h.dig]
  rw [dgs_len] at this
  exact Nat.le_trans (Nat.pow_le_pow_right (by omega) (by omega)) this
theorem m256_78 : M256 < 10 ^ nf := by unfold M256 nf; decide
theorem canon_short {l : List UInt8} (h : Canon l) (hv : pv l 0 < M256) : l.length ≤ 78 := by
  rcases Nat.lt_or_ge 78 l.length with hl | hl
  · have h1 := canon_long h (k := nf) (by decide) hl
    exact absurd hv (Nat.not_lt.2 (Nat.le_trans (Nat.le_of_lt m256_78) h1))
  · exact hl
/-- Formatting what was parsed. -/
theorem dec_pv {l : List UInt8} (h : Canon l) (hl : l.length ≤ 78) : decL (pv l 0) = l := by
  have hb := dgs_back h.dig
  rw [pv_dgs h.dig]
  unfold decL
  have e : ld nf (vl (dgs l)) = dgs l := by
    rcases Nat.lt_or_ge 1 l.length with h1 | h1
    · refine ld_vl _ nf (dgs_lt h.dig) (fun e => ?_) (dgs_top h h1) (by rw [dgs_len]; exact hl)
      have := dgs_len l
      rw [e] at this
      simp at this
      omega
    · have hd := dgs_lt h.dig
      have hn := dgs_len l
      cases hL : dgs l with
      | nil => rw [hL] at hn; exact absurd (List.length_eq_zero_iff.1 hn.symm) h.ne
      | cons d r =>
        rw [hL] at hn hd
        have hr : r = [] := by
          cases r with
          | nil => rfl
          | cons _ _ => simp at hn; omega
        subst hr
        have e1 : vl [d] = d := by simp [vl]
        rw [e1]
        exact ld_one 77 (hd d (by simp))
  rw [e, hb]
theorem ld_pos (f n : Nat) : 1 ≤ (ld (f + 1) n).length := by
  unfold ld
  simp
theorem decL_len {A : Nat} (h : A < 10 ^ nf) : 1 ≤ (decL A).length ∧ (decL A).length ≤ 78 := by
  unfold decL
  rw [List.length_map, List.length_reverse]
  refine ⟨?_, ld_len _ _⟩
  exact ld_pos 77 A
theorem decL_canon {A : Nat} (h : A < 10 ^ nf) : Canon (decL A) := by
  have hl := decL_len h
  refine ⟨fun e => by rw [e] at hl; simp at hl, ?_, ?_⟩
  · intro c hc
    unfold decL at hc
    obtain ⟨d, hd, rfl⟩ := List.mem_map.1 hc
    have := ld_lt nf A d (List.mem_reverse.1 hd)
    rw [ch_nat this]
    omega
  · intro h1 hh
    have hA : 0 < A := by
      rcases Nat.eq_zero_or_pos A with rfl | h0
      · exact absurd h1 (by decide)
      · exact h0
    have ht := ld_top nf A hA h
    unfold decL at hh
    rw [List.head?_map, List.head?_reverse] at hh
    cases hg : (ld nf A).getLast? with
    | none => rw [hg] at hh; simp at hh
    | some d =>
      rw [hg] at hh
      have hd := topnz_last _ d ht hg
      have hlt := ld_lt nf A d (List.mem_of_getLast? hg)
      have e : ch d = 48 := by simpa using hh
      have := ch_nat hlt
      rw [e] at this
      have e48 : (48 : UInt8).toNat = 48 := rfl
      omega
/-! order -/
theorem pv_lo : ∀ (l : List UInt8) (n : Nat), n * 10 ^ l.length ≤ pv l n
  | [], n => by simp [pv_nil]
  | c :: l, n => by
    have := pv_lo l (10 * n + (c.toNat - 48))
    rw [pv_cons, List.length_cons, Nat.pow_succ]
    refine Nat.le_trans ?_ this
    rw [Nat.mul_comm (10 ^ l.length) 10, ← Nat.mul_assoc]
    exact Nat.mul_le_mul_right _ (by omega)
theorem pv_hi : ∀ (l : List UInt8) (n : Nat), (∀ c ∈ l, 48 ≤ c.toNat ∧ c.toNat ≤ 57) → pv l n < (n + 1) * 10 ^ l.length
  | [], n, _ => by simp [pv_nil]
  | c :: l, n, h => by
    have hc := h c (by simp)
    have := pv_hi l (10 * n + (c.toNat - 48)) fun x hx => h x (List.mem_cons_of_mem _ hx)
    rw [pv_cons, List.length_cons, Nat.pow_succ]
    refine Nat.lt_of_lt_of_le this ?_
    rw [Nat.mul_comm (10 ^ l.length) 10, ← Nat.mul_assoc]
    exact Nat.mul_le_mul_right _ (by omega)
theorem less_pv : ∀ (x y : List UInt8) (n : Nat), x.length = y.length → (∀ c ∈ x, 48 ≤ c.toNat ∧ c.toNat ≤ 57) → (∀ c ∈ y, 48 ≤ c.toNat ∧ c.toNat ≤ 57) → (Go.Op.bytesLess x y = true ↔ pv x n < pv y n)
  | [], [], n, _, _, _ => by simp [Go.Op.bytesLess, pv_nil]
  | [], _ :: _, n, h, _, _ => by simp at h
  | _ :: _, [], n, h, _, _ => by simp at h
  | a :: x, b :: y, n, h, hx, hy => by
    have hl : x.length = y.length := by simpa using h
    have ha := hx a (by simp)
    have hb := hy b (by simp)
    have hx' := fun c hc => hx c (List.mem_cons_of_mem _ hc)
    have hy' := fun c hc => hy c (List.mem_cons_of_mem _ hc)
    rw [pv_cons, pv_cons, Go.Op.bytesLess, Bool.or_eq_true, Bool.and_eq_true, decide_eq_true_eq, beq_iff_eq, UInt8.lt_iff_toNat_lt]
    have far : ∀ (p q : List UInt8) (m k : Nat), p.length = q.length → (∀ c ∈ p, 48 ≤ c.toNat ∧ c.toNat ≤ 57) → m < k → pv p m < pv q k := fun p q m k hpq hp hmk =>
      Nat.lt_of_lt_of_le (pv_hi p m hp) (Nat.le_trans (by rw [hpq]; exact Nat.mul_le_mul_right _ hmk) (pv_lo q k))
    rcases Nat.lt_trichotomy a.toNat b.toNat with hab | hab | hab
    · have := far x y (10 * n + (a.toNat - 48)) (10 * n + (b.toNat - 48)) hl hx' (by omega)
      exact ⟨fun _ => this, fun _ => .inl hab⟩
    · have e : a = b := UInt8.toNat_inj.1 hab
      subst e
      rw [less_pv x y _ hl hx' hy']
      exact ⟨fun h => h.elim (fun h => absurd h (Nat.lt_irrefl _)) (·.2), fun h => .inr ⟨rfl, h⟩⟩
    · have := far y x (10 * n + (b.toNat - 48)) (10 * n + (a.toNat - 48)) hl.symm hy' (by omega)
      refine ⟨fun h => ?_, fun h => by omega⟩
      rcases h with h | ⟨rfl, _⟩
      · omega
      · omega
theorem dec_shorter {A B : Nat} (hA : A < 10 ^ nf) (hB : B < 10 ^ nf) (h : (decL A).length < (decL B).length) : A < B := by
  have cA := decL_canon hA
  have cB := decL_canon hB
  have l1 := decL_len hA
  have h1 := vl_lt _ (dgs_lt cA.dig)
  rw [← pv_dgs cA.dig, dgs_len, pv_dec hA] at h1
  have h2 := canon_long cB (k := (decL A).length) (by omega) h
  rw [pv_dec hB] at h2
  omega
theorem dec_less {A B : Nat} (hA : A < 10 ^ nf) (hB : B < 10 ^ nf) : ((decL A).length < (decL B).length ∨ (decL A).length = (decL B).length ∧ Go.Op.bytesLess (decL A) (decL B) = true) ↔ A < B := by
  have cA := decL_canon hA
  have cB := decL_canon hB
  rcases Nat.lt_trichotomy (decL A).length (decL B).length with h | h | h
  · exact ⟨fun _ => dec_shorter hA hB h, fun _ => .inl h⟩
  · rw [less_pv _ _ 0 h cA.dig cB.dig, pv_dec hA, pv_dec hB]
    exact ⟨fun hh => hh.elim (fun hh => by omega) (·.2), fun hh => .inr ⟨h, hh⟩⟩
  · have := dec_shorter hB hA h
    exact ⟨fun hh => by omega, fun hh => by omega⟩
theorem dec_inj {A B : Nat} (hA : A < 10 ^ nf) (hB : B < 10 ^ nf) (h : decL A = decL B) : A = B := by
  rw [← pv_dec hA, h, pv_dec hB]
end Go.Proofs.Ythikkajjnfeigaa
