/- decimal.Format, walked. -/
import Derived.WalkKit
import Derived.KernelRfl
import Derived.RowKit3
import Derived.Deep.LoopGhost
import Derived.Deep.QuietTactic
import Derived.BigQuiet
import Derived.WideLaws
import Derived.Laws.Rows
import Derived.Below
import Derived.Deep.Draws
import Derived.Outline
import Derived.LoopN
import Derived.Handy
import Derived.Laws.Externs
import Derived.Laws.BitsAllLaws
import Derived.Laws.BitsLemmas
import Derived.Deep.DeepCutAuto
import Derived.Deep.CutBlock
import Derived.Deep.RegionHeld3
import Derived.Test.YthikkajjnfeigaaDP
import Derived.Test.YthikkajjnfeigaaDR
import Derived.Test.YthikkajjnfeigaaQ1
import Derived.Test.YthikkajjnfeigaaR5
import Derived.Test.YthikkajjnfeigaaSC
import Derived.Laws.BytesArg
import Derived.Laws.IdiomStrings
namespace Go.Proofs.Ythikkajjnfeigaa
open Go.RowKit
set_option linter.unusedVariables false
set_option linter.unusedSimpArgs false
theorem infoB : (Try.prog.info? 5).map (fun i => (i.zero, i.size, i.bytes)) = some (some (.int .u8 0), 1, 1) := by kernel_rfl
theorem conv_str {w : World} {ad : Addr} {n c : Nat} {l : List UInt8} (hn : n = l.length) (h : ∀ j (hj : j < l.length), w.cell? (ad.add j) = some (.int .u8 (l[j].toNat : Int))) : (convert 37 9 (.slice (some ad) n c)).run Try.prog w = .ok (.string ⟨l.toArray⟩) w := by
  subst hn
  exact run_convert_bytes_back (P := Try.prog) w 37 9 5 ad c l Try.underlying37 Try.underlying5 Try.underlying9 h
theorem zero_test' {A : Nat} (h : A < M256) : (lim A 0 == 0 && (lim A 1 == 0 && (lim A 2 == 0 && lim A 3 == 0))) = decide (A = 0) := by
  have hu := isU_lim h
  obtain ⟨p0, p1, p2, p3, q0, q1, q2, q3, v⟩ := hu
  rw [Bool.eq_iff_iff]
  simp only [Bool.and_eq_true, beq_iff_eq, decide_eq_true_eq]
  omega
def b8 (d : Nat) : Value := .int .u8 (48 + (d : Int))
def lenOf : Value → Nat | .slice _ n _ => n | _ => 0
theorem owns_len {w : World} {B E n : Nat} {v : Value} {xs : List Value} (h : w.ownsRow B E 1 v n xs) : lenOf v = n := by
  obtain ⟨_, ⟨rfl, rfl⟩ | ⟨g, cap, cur, rfl, _⟩⟩ := h
  · rfl
  · rfl
theorem owns_below {w w' : World} {B E n : Nat} {v : Value} {xs : List Value} (h : w.ownsRow B E 1 v n xs) (hb : Below w.heap.size w w') : w'.ownsRow B E 1 v n xs := by
  obtain ⟨hx, h | ⟨g, cap, cur, hv, hg, hh, r⟩⟩ := h
  · exact ⟨hx, .inl h⟩
  · exact ⟨hx, .inr ⟨g, cap, cur, hv, hg, (hb.block g (Array.getElem?_eq_some_iff.1 hh).1).trans hh, r⟩⟩
theorem owns_upd {w w' : World} {B E n g : Nat} {v : Value} {xs : List Value} (h : w.ownsRow B E 1 v n xs) (hu : Upd w w' g) (hg : g < B) : w'.ownsRow B E 1 v n xs := by
  obtain ⟨hx, h | ⟨b, cap, cur, hv, hb, hh, r⟩⟩ := h
  · exact ⟨hx, .inl h⟩
  · exact ⟨hx, .inr ⟨b, cap, cur, hv, hb, (hu.far b (by omega)).trans hh, r⟩⟩
theorem below_grown {w wr w1 : World} {o : Obj} {v : Value} {B E n : Nat} {xs : List Value} (hg : (wr.alloc o).grownBy w1 v.ownBlock) (hb : Below w.heap.size w wr) (ho : wr.ownsRow B E 1 v n xs) (hB : w.heap.size ≤ B) : Below w.heap.size w w1 :=
  (hb.alloc hb.size o).grown hg (by have := hb.size; simp; omega) (fun k hk => by have := (ho.lt k hk).1; omega)
theorem nb_grown {wr w1 : World} {o : Obj} {v : Value} {B E n g : Nat} {xs : List Value} {cs : Array Value} {T : TypeId} (hg : (wr.alloc o).grownBy w1 v.ownBlock) (hn : NB wr g cs T) (hB : g < B) (ho : wr.ownsRow B E 1 v n xs) : NB w1 g cs T := by
  have hlt := hn.lt
  refine (hg.block g (by simp; omega) (fun e => ?_)).trans ((Below.heap_alloc wr o g hlt).trans hn)
  have := (ho.lt g e.symm).1
  omega
theorem owns_some {w : World} {B E n : Nat} {v : Value} {xs : List Value} (h : w.ownsRow B E 1 v n xs) (hn : n ≠ 0) : ∃ g cap, v = .slice (some ⟨g, 0, none⟩) n cap := by
  obtain ⟨_, ⟨rfl, rfl⟩ | ⟨g, cap, cur, rfl, _⟩⟩ := h
  · exact absurd rfl hn
  · exact ⟨g, cap, rfl⟩
/-- What the outer loop keeps: the digits so far, the least first. -/
structure FInv (A k N : Nat) (L : List Nat) : Prop where
  len : L.length = k
  lt : N < M256
  eq : L ++ (if 0 < k ∧ N = 0 then [] else ld (nf - k) N) = ld nf A
  bd : N < 10 ^ (nf - k)
theorem FInv.start {A : Nat} (h : A < M256) : FInv A 0 A [] := ⟨rfl, h, by rw [if_neg (by omega)]; rfl, Nat.lt_trans h m256_78⟩
theorem FInv.step {A k N : Nat} {L : List Nat} (h : FInv A k N L) (hn : ¬ (0 < k ∧ N = 0)) : FInv A (k + 1) (N / 10) (L ++ [N % 10]) ∧ k < nf := by
  obtain ⟨len, lt, eq, bd⟩ := h
  rw [if_neg hn] at eq
  have hk : k < nf := by
    rcases Nat.lt_or_ge k nf with h | h
    · exact h
    · exfalso
      rw [Nat.sub_eq_zero_of_le h, Nat.pow_zero] at bd
      have : 0 < k := by unfold nf at h; omega
      exact hn ⟨this, by omega⟩
  obtain ⟨f, hf⟩ : ∃ f, nf - k = f + 1 := ⟨nf - k - 1, by omega⟩
  have hf2 : nf - (k + 1) = f := by omega
  rw [hf] at eq bd
  refine ⟨⟨by simp [len], by omega, ?_, ?_⟩, hk⟩
  · rw [hf2, ← eq, List.append_assoc]
    congr 1
    rw [ld, List.singleton_append]
    congr 1
    by_cases h0 : N / 10 = 0
    · rw [if_pos ⟨by omega, h0⟩, if_pos h0]
    · rw [if_neg (fun h => h0 h.2), if_neg h0]
  · rw [hf2]
    rw [Nat.pow_succ, Nat.mul_comm] at bd
    exact Nat.div_lt_of_lt_mul bd
theorem FInv.stop {A k : Nat} {L : List Nat} (h : FInv A k 0 L) (hk : 0 < k) : L = ld nf A := by
  have := h.eq
  rw [if_pos ⟨hk, rfl⟩, List.append_nil] at this
  exact this
/-- The limbs of N / 10, and N % 10. -/
theorem div_rows {N : Nat} (hN : N < M256) : ∃ l0 l1 l2 l3 q0 q1 q2 q3 h1 h2 h3 h4 : Int, lim N 0 = l0 ∧ lim N 1 = l1 ∧ lim N 2 = l2 ∧ lim N 3 = l3 ∧ (0 ≤ l0 ∧ l0 < 18446744073709551616) ∧ (0 ≤ l1 ∧ l1 < 18446744073709551616) ∧ (0 ≤ l2 ∧ l2 < 18446744073709551616) ∧ (0 ≤ l3 ∧ l3 < 18446744073709551616) ∧
    (0 * 18446744073709551616 + l3) / 10 = q3 ∧ (0 * 18446744073709551616 + l3) % 10 = h1 ∧ (h1 * 18446744073709551616 + l2) / 10 = q2 ∧ (h1 * 18446744073709551616 + l2) % 10 = h2 ∧ (h2 * 18446744073709551616 + l1) / 10 = q1 ∧ (h2 * 18446744073709551616 + l1) % 10 = h3 ∧ (h3 * 18446744073709551616 + l0) / 10 = q0 ∧ (h3 * 18446744073709551616 + l0) % 10 = h4 ∧
    (0 ≤ h1 ∧ h1 < 10) ∧ (0 ≤ h2 ∧ h2 < 10) ∧ (0 ≤ h3 ∧ h3 < 10) ∧ (0 ≤ h4 ∧ h4 < 10) ∧ q0 = lim (N / 10) 0 ∧ q1 = lim (N / 10) 1 ∧ q2 = lim (N / 10) 2 ∧ q3 = lim (N / 10) 3 ∧ h4 = ((N % 10 : Nat) : Int) := by
  have hu := isU_lim hN
  obtain ⟨p0, p1, p2, p3, r0, r1, r2, r3, v⟩ := hu
  obtain ⟨l0, e0⟩ : ∃ x, lim N 0 = x := ⟨_, rfl⟩
  obtain ⟨l1, e1⟩ : ∃ x, lim N 1 = x := ⟨_, rfl⟩
  obtain ⟨l2, e2⟩ : ∃ x, lim N 2 = x := ⟨_, rfl⟩
  obtain ⟨l3, e3⟩ : ∃ x, lim N 3 = x := ⟨_, rfl⟩
  rw [e0] at p0 r0 v
  rw [e1] at p1 r1 v
  rw [e2] at p2 r2 v
  rw [e3] at p3 r3 v
  have s : ∀ h l : Int, 0 ≤ h → h < 10 → 0 ≤ l → l < 18446744073709551616 → ∃ q r : Int, (h * 18446744073709551616 + l) / 10 = q ∧ (h * 18446744073709551616 + l) % 10 = r ∧ 0 ≤ q ∧ q < 18446744073709551616 ∧ 0 ≤ r ∧ r < 10 ∧ h * 18446744073709551616 + l = 10 * q + r := fun h l a b c d => ⟨_, _, rfl, rfl, by omega, by omega, by omega, by omega, by omega⟩
  obtain ⟨q3, h1, a3, b3, c3, d3, f3, g3, k3⟩ := s 0 l3 (by omega) (by omega) (by omega) (by omega)
  obtain ⟨q2, h2, a2, b2, c2, d2, f2, g2, k2⟩ := s h1 l2 f3 g3 (by omega) (by omega)
  obtain ⟨q1, h3, a1, b1, c1, d1, f1, g1, k1⟩ := s h2 l1 f2 g2 (by omega) (by omega)
  obtain ⟨q0, h4, a0, b0, c0, d0, f0, g0, k0⟩ := s h3 l0 f1 g1 (by omega) (by omega)
  have e : (N : Int) = 10 * (q0 + 18446744073709551616 * q1 + 340282366920938463463374607431768211456 * q2 + 6277101735386680763835789423207666416102355444464034512896 * q3) + h4 := by
    clear a0 a1 a2 a3 b0 b1 b2 b3
    omega
  obtain ⟨Q, hQ⟩ : ∃ Q : Int, q0 + 18446744073709551616 * q1 + 340282366920938463463374607431768211456 * q2 + 6277101735386680763835789423207666416102355444464034512896 * q3 = Q := ⟨_, rfl⟩
  have hd : ((N / 10 : Nat) : Int) = Q := by rw [hQ] at e; omega
  have hm : h4 = ((N % 10 : Nat) : Int) := by rw [hQ] at e; omega
  have hU : isU (N / 10) q0 q1 q2 q3 := ⟨c0, c1, c2, c3, by omega, by omega, by omega, by omega, by rw [← hQ] at hd; clear a0 a1 a2 a3 b0 b1 b2 b3 k0 k1 k2 k3 e v; omega⟩
  obtain ⟨m0, m1, m2, m3⟩ := hU.lims
  exact ⟨l0, l1, l2, l3, q0, q1, q2, q3, h1, h2, h3, h4, e0, e1, e2, e3, ⟨p0, by omega⟩, ⟨p1, by omega⟩, ⟨p2, by omega⟩, ⟨p3, by omega⟩, a3, b3, a2, b2, a1, b1, a0, b0, ⟨f3, g3⟩, ⟨f2, g2⟩, ⟨f1, g1⟩, ⟨f0, g0⟩, m0, m1, m2, m3, hm⟩
/-- The states of the inner loop. -/
def Lp (W : World) (g : Nat) (l0 l1 l2 l3 q0 q1 q2 q3 h1 h2 h3 h4 : Int) (v5 v4 : Value) : Prop :=
  (v5 = .int .i64 3 ∧ v4 = .int .u64 0 ∧ NB W g #[.int .u64 l0, .int .u64 l1, .int .u64 l2, .int .u64 l3] 24) ∨
  (v5 = .int .i64 2 ∧ v4 = .int .u64 h1 ∧ NB W g #[.int .u64 l0, .int .u64 l1, .int .u64 l2, .int .u64 q3] 24) ∨
  (v5 = .int .i64 1 ∧ v4 = .int .u64 h2 ∧ NB W g #[.int .u64 l0, .int .u64 l1, .int .u64 q2, .int .u64 q3] 24) ∨
  (v5 = .int .i64 0 ∧ v4 = .int .u64 h3 ∧ NB W g #[.int .u64 l0, .int .u64 q1, .int .u64 q2, .int .u64 q3] 24) ∨
  (v5 = .int .i64 (-1) ∧ v4 = .int .u64 h4 ∧ NB W g #[.int .u64 q0, .int .u64 q1, .int .u64 q2, .int .u64 q3] 24)
theorem df_s0 : (Try.prog.info? 22).map (·.size) = some 1 := by kernel_rfl
theorem df_s1 : (Try.prog.info? 24).map (·.size) = some 4 := by kernel_rfl
set_option maxRecDepth 20000 in
set_option maxHeartbeats 16000000 in
theorem format_c {A : Nat} (hA : A < M256) (w : World) :
    Calls Try.prog 15 #[.agg #[.int .u64 (lim A 0), .int .u64 (lim A 1), .int .u64 (lim A 2), .int .u64 (lim A 3)]] w fun e w' => e = .returned (.string ⟨(decL A).toArray⟩) ∧ Below w.heap.size w w' := by
  obtain ⟨i0, hi, hz0, hz1, hz2⟩ := info_parts infoB
  go_enter Try.func15, Try.ntmps15
  go_wp2_with (first | (refine n_box (by rfl) (T := 24) (x := (.tmp 0)) rfl (v := .agg (#[.int .u64 (lim A 0), .int .u64 (lim A 1), .int .u64 (lim A 2), .int .u64 (lim A 3)])) rfl (ds := #[.int .u64 (lim A 0), .int .u64 (lim A 1), .int .u64 (lim A 2), .int .u64 (lim A 3)]) rfl ?_; intro w1 Hb1 hbn; have HB := hide hbn; clear hbn; replace Hb1 := hide Hb1))
  have hlt0 := Hb1.out.lt
  go_loopw [3] (fun v3 wr => ∃ (k N : Nat) (L : List Nat), Hid (FInv A k N L) ∧ k ≤ 78 ∧ Hid (World.ownsRow wr w1.heap.size 5 1 v3 k (L.map b8)) ∧ Hid (Below w.heap.size w wr) ∧ Hid (NB wr w.heap.size #[.int .u64 (lim N 0), .int .u64 (lim N 1), .int .u64 (lim N 2), .int .u64 (lim N 3)] 24) ∧ w1.heap.size ≤ wr.heap.size ∧ Hid (k = 0 → v3 = .slice none 0 0)) (fun v3 _ => 79 - lenOf v3)
  case atStart => exact ⟨0, A, [], hide (FInv.start hA), by omega, hide (World.ownsRow_nil _ _ _ _), HB, Hb1, Nat.le_refl _, hide (fun _ => rfl)⟩
  case round =>
    obtain ⟨k, N, L, HF, hk, HO, HB, Hb1, hsz, HV⟩ := hrel
    obtain ⟨wo, ewo⟩ : ∃ W, W = wr := ⟨_, rfl⟩
    rw [← ewo] at HO HB Hb1 hsz ⊢
    clear ewo
    by_cases hgo : 0 < k ∧ N = 0
    · obtain ⟨hk0, rfl⟩ := hgo
      have hL := HF.out.stop hk0
      have hlen := HF.out.len
      obtain ⟨g, cap, rfl⟩ := owns_some HO.out (by omega)
      clear HV
      have hg := HO.out.lt g rfl
      have hcap : k ≤ cap := by
        obtain ⟨_, ⟨e, _⟩ | ⟨g', cap', cur, e, _, _, hc, _⟩⟩ := HO.out
        · cases e
        · cases e; exact hc
      have hc8 := hide (show Cells8 wo g 0 k (fun j => 48 + ((L.getD j 0 : Nat) : Int)) from fun j hj => by
        rw [Nat.zero_add]
        refine ⟨?_, HO.out.frozenAt j⟩
        show _ = some (Value.int .u8 (48 + ((L.getD j 0 : Nat) : Int)))
        rw [HO.out.cellAt j (by omega), List.getElem?_map, List.getElem?_eq_getElem (by omega), List.getD_eq_getElem?_getD, List.getElem?_eq_getElem (by omega)]
        rfl)
      rw [lim_zero, lim_zero, lim_zero, lim_zero] at Hb1
      have hgw : w.heap.size ≤ g := by omega
      have hk1 : ((k : Int) == 0) = false := by rw [beq_eq_false_iff_ne]; omega
      have hkc : (k : Int) ≤ (cap : Int) := by omega
      have hD := hide (show (decL A).length = k ∧ ∀ j (hj : j < (decL A).length), ((decL A)[j].toNat : Int) = 48 + ((L.getD (k - 1 - j) 0 : Nat) : Int) from by
        have e : decL A = L.reverse.map ch := by rw [decL, hL]
        have hl : (decL A).length = k := by rw [e]; simp [hlen]
        refine ⟨hl, fun j hj => ?_⟩
        have h1 : j < (L.reverse.map ch).length := by rw [← e]; exact hj
        have h2 : (decL A)[j] = (L.reverse.map ch)[j] := by simp only [e]
        rw [h2, List.getElem_map, List.getElem_reverse, List.getD_eq_getElem?_getD, List.getElem?_eq_getElem (by omega)]
        have h3 := ld_lt nf A L[L.length - 1 - j] (by rw [← hL]; exact List.getElem_mem _)
        rw [ch_nat h3]
        simp only [hlen, Option.getD_some]
        omega)
      clear hL hlen hg HO HF
      go_wp2_with (refine n_loadw (by rfl) (T := 24) (x := (.tmp 1)) rfl (g := w.heap.size) rfl Hb1.out Try.underlying24 rfl df_s1 ?_)
      refine (rev_c g 0 k cap _ (by omega) (by omega) _ w.heap.size hgw hc8).mono ?_
      rintro e w2 ⟨rfl, hb, hr⟩
      have hBf := hide (HB.out.trans hb)
      have hconv := conv_str (w := w2) (ad := ⟨g, 0, none⟩) (n := k) (c := cap) (l := decL A) hD.out.1.symm (fun j hj => by
        rw [Addr.add_mid, hD.out.2 j hj]
        exact (hr j (by rw [← hD.out.1]; exact hj)).1)
      clear hb hr hc8 HB Hb1
      go_wp2
      go_ret
      exact ⟨rfl, hBf.out⟩
    · have HI := hide (HF.out.step hgo)
      have hk78 : k < 78 := by have := HI.out.2; unfold nf at this; exact this
      obtain ⟨l0, l1, l2, l3, q0, q1, q2, q3, h1, h2, h3, h4, e0, e1, e2, e3, b0, b1, b2, b3, a3, c3, a2, c2, a1, c1, a0, c0, r1, r2, r3, r4, m0, m1, m2, m3, hm⟩ := div_rows HF.out.lt
      have HD0 := fun w => div64_c (h := 0) (y := 10) (by omega) (by omega) (by omega) b3.1 b3.2 w
      have HD1 := fun w => div64_c (y := 10) r1.1 r1.2 (by omega) b2.1 b2.2 w
      have HD2 := fun w => div64_c (y := 10) r2.1 r2.2 (by omega) b1.1 b1.2 w
      have HD3 := fun w => div64_c (y := 10) r3.1 r3.2 (by omega) b0.1 b0.2 w
      rw [a3, c3] at HD0
      rw [a2, c2] at HD1
      rw [a1, c1] at HD2
      rw [a0, c0] at HD3
      rw [e0, e1, e2, e3] at Hb1
      replace HD0 := hide HD0
      replace HD1 := hide HD1
      replace HD2 := hide HD2
      replace HD3 := hide HD3
      have Hq0 := hide m0
      have Hq1 := hide m1
      have Hq2 := hide m2
      have Hq3 := hide m3
      have Hh4 := hide hm
      obtain ⟨p4, p4'⟩ := r4
      have hz := zero_test' HF.out.lt
      rw [e0, e1, e2, e3] at hz
      clear e0 e1 e2 e3 b0 b1 b2 b3 a0 a1 a2 a3 c0 c1 c2 c3 r1 r2 r3 m0 m1 m2 m3 hm
      have hw1 : IntKind.u64.wrap (48 + h4) = 48 + h4 := by rw [IntKind.wrap_u64]; omega
      have hw2 : IntKind.u8.wrap (48 + h4) = 48 + h4 := by rw [IntKind.wrap_u8]; omega
      by_cases hk0 : k = 0
      · have hv := HV.out hk0
        subst hv
        clear HV hk0
        go_wp2_with fail
        go_loopw [5, 4] (fun v5 v4 wr2 => Hid (Lp wr2 (w.heap.size) l0 l1 l2 l3 q0 q1 q2 q3 h1 h2 h3 h4 v5 v4) ∧ Hid (Below w.heap.size w wr2) ∧ Hid (World.ownsRow wr2 w1.heap.size 5 1 (.slice none 0 0) k (L.map b8)) ∧ w1.heap.size ≤ wr2.heap.size) (fun v5 _ _ => (intOf v5 + 1).toNat)
        case atStart => exact ⟨hide (.inl ⟨rfl, rfl, Hb1.out⟩), HB, HO, hsz⟩
        case round =>
          obtain ⟨HL, HB, HO, hsz⟩ := hrel
          clear Hb1
          rcases HL.out with ⟨rfl, rfl, hb1⟩ | ⟨rfl, rfl, hb1⟩ | ⟨rfl, rfl, hb1⟩ | ⟨rfl, rfl, hb1⟩ | ⟨rfl, rfl, hb1⟩
          all_goals (have Hb1 := hide hb1; clear hb1 HL)
          · go_wp2_with (first | (refine n_load (by rfl) (T := 22) (x := (.tmp 22)) rfl (g := w.heap.size) (o := 3) rfl Hb1.out (v := .int .u64 l3) (by rfl) Try.underlying22 rfl ?_))
            refine (HD0.out _).mono ?_
            rintro e w21 ⟨rfl, hbc⟩
            replace HB := hide (HB.out.trans (hbc.mono HB.out.size))
            replace Hb1 := hide (Hb1.out.below hbc Hb1.out.lt)
            replace hsz := Nat.le_trans hsz hbc.size
            replace HO := hide (owns_below HO.out hbc)
            clear hbc
            go_wp2_with (first | (refine n_store (by rfl) (T := 22) (x := (.tmp 27)) (y := (.tmp 25)) rfl (g := w.heap.size) (o := 3) rfl (v := .int .u64 q3) rfl rfl (by rfl) Hb1.out (by first | (simp; done) | (simp; omega)) df_s0 ?_; clear Hb1; intro w22 Hb1 hun; replace Hb1 : NB w22 (w.heap.size) (#[.int .u64 l0, .int .u64 l1, .int .u64 l2, .int .u64 q3]) 24 := Hb1; replace Hb1 := hide Hb1; replace HB := hide (hun.keep w.heap.size w (by omega) HB.out); rw [← hun.size] at hsz; replace HO := hide (owns_upd HO.out hun (by omega)); clear hun))
            go_roundw
            case rel => exact ⟨hide (.inr (.inl ⟨rfl, rfl, Hb1.out⟩)), HB, HO, hsz⟩
            case measure => simp [intOf]
          · go_wp2_with (first | (refine n_load (by rfl) (T := 22) (x := (.tmp 22)) rfl (g := w.heap.size) (o := 2) rfl Hb1.out (v := .int .u64 l2) (by rfl) Try.underlying22 rfl ?_))
            refine (HD1.out _).mono ?_
            rintro e w22 ⟨rfl, hbc⟩
            replace HB := hide (HB.out.trans (hbc.mono HB.out.size))
            replace Hb1 := hide (Hb1.out.below hbc Hb1.out.lt)
            replace hsz := Nat.le_trans hsz hbc.size
            replace HO := hide (owns_below HO.out hbc)
            clear hbc
            go_wp2_with (first | (refine n_store (by rfl) (T := 22) (x := (.tmp 27)) (y := (.tmp 25)) rfl (g := w.heap.size) (o := 2) rfl (v := .int .u64 q2) rfl rfl (by rfl) Hb1.out (by first | (simp; done) | (simp; omega)) df_s0 ?_; clear Hb1; intro w23 Hb1 hun; replace Hb1 : NB w23 (w.heap.size) (#[.int .u64 l0, .int .u64 l1, .int .u64 q2, .int .u64 q3]) 24 := Hb1; replace Hb1 := hide Hb1; replace HB := hide (hun.keep w.heap.size w (by omega) HB.out); rw [← hun.size] at hsz; replace HO := hide (owns_upd HO.out hun (by omega)); clear hun))
            go_roundw
            case rel => exact ⟨hide (.inr (.inr (.inl ⟨rfl, rfl, Hb1.out⟩))), HB, HO, hsz⟩
            case measure => simp [intOf]
          · go_wp2_with (first | (refine n_load (by rfl) (T := 22) (x := (.tmp 22)) rfl (g := w.heap.size) (o := 1) rfl Hb1.out (v := .int .u64 l1) (by rfl) Try.underlying22 rfl ?_))
            refine (HD2.out _).mono ?_
            rintro e w23 ⟨rfl, hbc⟩
            replace HB := hide (HB.out.trans (hbc.mono HB.out.size))
            replace Hb1 := hide (Hb1.out.below hbc Hb1.out.lt)
            replace hsz := Nat.le_trans hsz hbc.size
            replace HO := hide (owns_below HO.out hbc)
            clear hbc
            go_wp2_with (first | (refine n_store (by rfl) (T := 22) (x := (.tmp 27)) (y := (.tmp 25)) rfl (g := w.heap.size) (o := 1) rfl (v := .int .u64 q1) rfl rfl (by rfl) Hb1.out (by first | (simp; done) | (simp; omega)) df_s0 ?_; clear Hb1; intro w24 Hb1 hun; replace Hb1 : NB w24 (w.heap.size) (#[.int .u64 l0, .int .u64 q1, .int .u64 q2, .int .u64 q3]) 24 := Hb1; replace Hb1 := hide Hb1; replace HB := hide (hun.keep w.heap.size w (by omega) HB.out); rw [← hun.size] at hsz; replace HO := hide (owns_upd HO.out hun (by omega)); clear hun))
            go_roundw
            case rel => exact ⟨hide (.inr (.inr (.inr (.inl ⟨rfl, rfl, Hb1.out⟩)))), HB, HO, hsz⟩
            case measure => simp [intOf]
          · go_wp2_with (first | (refine n_load (by rfl) (T := 22) (x := (.tmp 22)) rfl (g := w.heap.size) (o := 0) rfl Hb1.out (v := .int .u64 l0) (by rfl) Try.underlying22 rfl ?_))
            refine (HD3.out _).mono ?_
            rintro e w24 ⟨rfl, hbc⟩
            replace HB := hide (HB.out.trans (hbc.mono HB.out.size))
            replace Hb1 := hide (Hb1.out.below hbc Hb1.out.lt)
            replace hsz := Nat.le_trans hsz hbc.size
            replace HO := hide (owns_below HO.out hbc)
            clear hbc
            go_wp2_with (first | (refine n_store (by rfl) (T := 22) (x := (.tmp 27)) (y := (.tmp 25)) rfl (g := w.heap.size) (o := 0) rfl (v := .int .u64 q0) rfl rfl (by rfl) Hb1.out (by first | (simp; done) | (simp; omega)) df_s0 ?_; clear Hb1; intro w25 Hb1 hun; replace Hb1 : NB w25 (w.heap.size) (#[.int .u64 q0, .int .u64 q1, .int .u64 q2, .int .u64 q3]) 24 := Hb1; replace Hb1 := hide Hb1; replace HB := hide (hun.keep w.heap.size w (by omega) HB.out); rw [← hun.size] at hsz; replace HO := hide (owns_upd HO.out hun (by omega)); clear hun))
            go_roundw
            case rel => exact ⟨hide (.inr (.inr (.inr (.inr (⟨rfl, rfl, Hb1.out⟩))))), HB, HO, hsz⟩
            case measure => simp [intOf]
          · go_wp2_with (at_builtin; refine wpList_append_own _ rfl (.tmp 28) (.tmp 32) 37 rfl w1.heap.size 5 i0 (.int .u8 0) 1 1 Try.underlying37 hi hz0 hz1 hz2 rfl (by decide) _ _ _ rfl (HO.out.alloc _) ⟨wr.heap.size, 0, none⟩ 1 1 [.int .u8 (48 + h4)] rfl rfl (one_cell _ _ _) (by intro u hu; simp at hu; subst hu; rfl) (by unfold maxLen; omega) (by omega) (by simp; omega) ?_; intro v' w9 hown' hgrow _; have HO' := hide hown'; have HG := hide hgrow; clear hown' hgrow)
            go_roundw
            case rel =>
              have hk78 := HI.out.2
              unfold nf at hk78
              refine ⟨k + 1, N / 10, L ++ [N % 10], hide HI.out.1, by omega, hide ?_, hide (below_grown HG.out HB.out HO.out (by omega)), hide ?_, ?_, hide (fun h => absurd h (by omega))⟩
              · have := HO'.out
                rw [Hh4.out] at this
                simpa [b8] using this
              · have h := nb_grown HG.out Hb1.out (by omega) HO.out
                rw [Hq0.out, Hq1.out, Hq2.out, Hq3.out] at h
                exact h
              · have := HG.out.size
                simp at this
                omega
            case measure =>
              have hk78 := HI.out.2
              unfold nf at hk78
              have e := owns_len HO'.out
              rw [e]
              simp [lenOf]
              omega
      · have hN : N ≠ 0 := fun e => hgo ⟨by omega, e⟩
        obtain ⟨g, cap, rfl⟩ := owns_some HO.out (by omega)
        clear HV
        rw [decide_eq_false hN] at hz
        have hk1 : ((k : Int) == 0) = false := by rw [beq_eq_false_iff_ne]; omega
        go_wp2_with (refine n_loadw (by rfl) (T := 24) (x := (.tmp 1)) rfl (g := w.heap.size) rfl Hb1.out Try.underlying24 rfl df_s1 ?_)
        go_loopw [5, 4] (fun v5 v4 wr2 => Hid (Lp wr2 (w.heap.size) l0 l1 l2 l3 q0 q1 q2 q3 h1 h2 h3 h4 v5 v4) ∧ Hid (Below w.heap.size w wr2) ∧ Hid (World.ownsRow wr2 w1.heap.size 5 1 (.slice (some ⟨g, 0, none⟩) k cap) k (L.map b8)) ∧ w1.heap.size ≤ wr2.heap.size) (fun v5 _ _ => (intOf v5 + 1).toNat)
        case atStart => exact ⟨hide (.inl ⟨rfl, rfl, Hb1.out⟩), HB, HO, hsz⟩
        case round =>
          obtain ⟨HL, HB, HO, hsz⟩ := hrel
          clear Hb1
          rcases HL.out with ⟨rfl, rfl, hb1⟩ | ⟨rfl, rfl, hb1⟩ | ⟨rfl, rfl, hb1⟩ | ⟨rfl, rfl, hb1⟩ | ⟨rfl, rfl, hb1⟩
          all_goals (have Hb1 := hide hb1; clear hb1 HL)
          · go_wp2_with (first | (refine n_load (by rfl) (T := 22) (x := (.tmp 22)) rfl (g := w.heap.size) (o := 3) rfl Hb1.out (v := .int .u64 l3) (by rfl) Try.underlying22 rfl ?_))
            refine (HD0.out _).mono ?_
            rintro e w21 ⟨rfl, hbc⟩
            replace HB := hide (HB.out.trans (hbc.mono HB.out.size))
            replace Hb1 := hide (Hb1.out.below hbc Hb1.out.lt)
            replace hsz := Nat.le_trans hsz hbc.size
            replace HO := hide (owns_below HO.out hbc)
            clear hbc
            go_wp2_with (first | (refine n_store (by rfl) (T := 22) (x := (.tmp 27)) (y := (.tmp 25)) rfl (g := w.heap.size) (o := 3) rfl (v := .int .u64 q3) rfl rfl (by rfl) Hb1.out (by first | (simp; done) | (simp; omega)) df_s0 ?_; clear Hb1; intro w22 Hb1 hun; replace Hb1 : NB w22 (w.heap.size) (#[.int .u64 l0, .int .u64 l1, .int .u64 l2, .int .u64 q3]) 24 := Hb1; replace Hb1 := hide Hb1; replace HB := hide (hun.keep w.heap.size w (by omega) HB.out); rw [← hun.size] at hsz; replace HO := hide (owns_upd HO.out hun (by omega)); clear hun))
            go_roundw
            case rel => exact ⟨hide (.inr (.inl ⟨rfl, rfl, Hb1.out⟩)), HB, HO, hsz⟩
            case measure => simp [intOf]
          · go_wp2_with (first | (refine n_load (by rfl) (T := 22) (x := (.tmp 22)) rfl (g := w.heap.size) (o := 2) rfl Hb1.out (v := .int .u64 l2) (by rfl) Try.underlying22 rfl ?_))
            refine (HD1.out _).mono ?_
            rintro e w22 ⟨rfl, hbc⟩
            replace HB := hide (HB.out.trans (hbc.mono HB.out.size))
            replace Hb1 := hide (Hb1.out.below hbc Hb1.out.lt)
            replace hsz := Nat.le_trans hsz hbc.size
            replace HO := hide (owns_below HO.out hbc)
            clear hbc
            go_wp2_with (first | (refine n_store (by rfl) (T := 22) (x := (.tmp 27)) (y := (.tmp 25)) rfl (g := w.heap.size) (o := 2) rfl (v := .int .u64 q2) rfl rfl (by rfl) Hb1.out (by first | (simp; done) | (simp; omega)) df_s0 ?_; clear Hb1; intro w23 Hb1 hun; replace Hb1 : NB w23 (w.heap.size) (#[.int .u64 l0, .int .u64 l1, .int .u64 q2, .int .u64 q3]) 24 := Hb1; replace Hb1 := hide Hb1; replace HB := hide (hun.keep w.heap.size w (by omega) HB.out); rw [← hun.size] at hsz; replace HO := hide (owns_upd HO.out hun (by omega)); clear hun))
            go_roundw
            case rel => exact ⟨hide (.inr (.inr (.inl ⟨rfl, rfl, Hb1.out⟩))), HB, HO, hsz⟩
            case measure => simp [intOf]
          · go_wp2_with (first | (refine n_load (by rfl) (T := 22) (x := (.tmp 22)) rfl (g := w.heap.size) (o := 1) rfl Hb1.out (v := .int .u64 l1) (by rfl) Try.underlying22 rfl ?_))
            refine (HD2.out _).mono ?_
            rintro e w23 ⟨rfl, hbc⟩
            replace HB := hide (HB.out.trans (hbc.mono HB.out.size))
            replace Hb1 := hide (Hb1.out.below hbc Hb1.out.lt)
            replace hsz := Nat.le_trans hsz hbc.size
            replace HO := hide (owns_below HO.out hbc)
            clear hbc
            go_wp2_with (first | (refine n_store (by rfl) (T := 22) (x := (.tmp 27)) (y := (.tmp 25)) rfl (g := w.heap.size) (o := 1) rfl (v := .int .u64 q1) rfl rfl (by rfl) Hb1.out (by first | (simp; done) | (simp; omega)) df_s0 ?_; clear Hb1; intro w24 Hb1 hun; replace Hb1 : NB w24 (w.heap.size) (#[.int .u64 l0, .int .u64 q1, .int .u64 q2, .int .u64 q3]) 24 := Hb1; replace Hb1 := hide Hb1; replace HB := hide (hun.keep w.heap.size w (by omega) HB.out); rw [← hun.size] at hsz; replace HO := hide (owns_upd HO.out hun (by omega)); clear hun))
            go_roundw
            case rel => exact ⟨hide (.inr (.inr (.inr (.inl ⟨rfl, rfl, Hb1.out⟩)))), HB, HO, hsz⟩
            case measure => simp [intOf]
          · go_wp2_with (first | (refine n_load (by rfl) (T := 22) (x := (.tmp 22)) rfl (g := w.heap.size) (o := 0) rfl Hb1.out (v := .int .u64 l0) (by rfl) Try.underlying22 rfl ?_))
            refine (HD3.out _).mono ?_
            rintro e w24 ⟨rfl, hbc⟩
            replace HB := hide (HB.out.trans (hbc.mono HB.out.size))
            replace Hb1 := hide (Hb1.out.below hbc Hb1.out.lt)
            replace hsz := Nat.le_trans hsz hbc.size
            replace HO := hide (owns_below HO.out hbc)
            clear hbc
            go_wp2_with (first | (refine n_store (by rfl) (T := 22) (x := (.tmp 27)) (y := (.tmp 25)) rfl (g := w.heap.size) (o := 0) rfl (v := .int .u64 q0) rfl rfl (by rfl) Hb1.out (by first | (simp; done) | (simp; omega)) df_s0 ?_; clear Hb1; intro w25 Hb1 hun; replace Hb1 : NB w25 (w.heap.size) (#[.int .u64 q0, .int .u64 q1, .int .u64 q2, .int .u64 q3]) 24 := Hb1; replace Hb1 := hide Hb1; replace HB := hide (hun.keep w.heap.size w (by omega) HB.out); rw [← hun.size] at hsz; replace HO := hide (owns_upd HO.out hun (by omega)); clear hun))
            go_roundw
            case rel => exact ⟨hide (.inr (.inr (.inr (.inr (⟨rfl, rfl, Hb1.out⟩))))), HB, HO, hsz⟩
            case measure => simp [intOf]
          · go_wp2_with (at_builtin; refine wpList_append_own _ rfl (.tmp 28) (.tmp 32) 37 rfl w1.heap.size 5 i0 (.int .u8 0) 1 1 Try.underlying37 hi hz0 hz1 hz2 rfl (by decide) _ _ _ rfl (HO.out.alloc _) ⟨wr.heap.size, 0, none⟩ 1 1 [.int .u8 (48 + h4)] rfl rfl (one_cell _ _ _) (by intro u hu; simp at hu; subst hu; rfl) (by unfold maxLen; omega) (by omega) (by simp; omega) ?_; intro v' w9 hown' hgrow _; have HO' := hide hown'; have HG := hide hgrow; clear hown' hgrow)
            go_roundw
            case rel =>
              have hk78 := HI.out.2
              unfold nf at hk78
              refine ⟨k + 1, N / 10, L ++ [N % 10], hide HI.out.1, by omega, hide ?_, hide (below_grown HG.out HB.out HO.out (by omega)), hide ?_, ?_, hide (fun h => absurd h (by omega))⟩
              · have := HO'.out
                rw [Hh4.out] at this
                simpa [b8] using this
              · have h := nb_grown HG.out Hb1.out (by omega) HO.out
                rw [Hq0.out, Hq1.out, Hq2.out, Hq3.out] at h
                exact h
              · have := HG.out.size
                simp at this
                omega
            case measure =>
              have hk78 := HI.out.2
              unfold nf at hk78
              have e := owns_len HO'.out
              rw [e]
              simp [lenOf]
              omega
end Go.Proofs.Ythikkajjnfeigaa
