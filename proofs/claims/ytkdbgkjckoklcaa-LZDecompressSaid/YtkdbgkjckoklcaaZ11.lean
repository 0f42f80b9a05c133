/- Chapter 9: repetitive bytes; decompression against its reference, walked. -/
import Derived.WalkKit
import Derived.KernelRfl
import Derived.RowKit3
import Derived.Deep.LoopGhost
import Derived.Deep.QuietTactic
import Derived.BigQuiet
import Derived.WideLaws
import Derived.Laws.Rows
import Derived.Below
import Derived.Deep.Draws
import Derived.Outline
import Derived.LoopN
import Derived.Handy
import Derived.Laws.Externs
import Derived.Laws.BitsAllLaws
import Derived.Laws.BitsLemmas
import Derived.Deep.DeepCutAuto
import Derived.Deep.CutBlock
import Derived.Deep.RegionHeld3
import Derived.Test.YtkdbgkjckoklcaaZ10
import Derived.Laws.OwnMore
namespace Go.Proofs.Ytkdbgkjckoklcaa
open Go.RowKit
set_option linter.unusedVariables false
set_option linter.unusedSimpArgs false
set_option maxRecDepth 20000 in
set_option maxHeartbeats 4000000 in
theorem LZCompressRepetitive_walk (ad : Option Addr) (n c : Nat) (hc : n ≤ c) (hm : c ≤ maxLen) (w : World) (hrow : NRow w ad n) :
    Calls Try.prog 4 #[.slice ad n c] w fun e w' => e = .returned (.bool true) ∧ Below w.heap.size w w' := by
  unfold maxLen at hm
  replace hrow := hide hrow
  by_cases hb : 120 < n
  · have t : (120 : Int) < (n : Int) := by omega
    go_enter Try.func4, Try.ntmps4
    go_wp2_with fail
    refine (awake9_c _).mono ?_
    rintro e w1 ⟨rfl, hb1⟩
    go_wp2
    go_ret
    exact ⟨rfl, (by (repeat' (first | (with_reducible exact Below.refl _ _) | (with_reducible assumption) | (with_reducible refine Below.alloc ?_ ?_ _) | (with_reducible refine Below.drew ?_) | (with_reducible refine below_drewN ?_ _) | (with_reducible refine Below.setCell ?_ ?_ _) | (with_reducible refine below_step (by with_reducible assumption) ?_ ?_) | (first | (with_reducible exact Nat.le_refl _) | (with_reducible assumption) | omega | (simp only [World.size_alloc, World.size_setCell, World.size_drew, size_drewN]; omega) | (simp; omega) | (simp; done)))))⟩
  · have t : (n : Int) ≤ 120 := by omega
    go_enter Try.func4, Try.ntmps4
    go_wp2_with fail
    refine (rep_c ad n c (by omega) _ hrow).mono ?_
    rintro e w0 ⟨l, v0, rfl, hl, HO0, hb0⟩
    obtain ⟨A0, c0, rfl, hc0, hr0⟩ := HO0.out.shape
    obtain ⟨p, hp⟩ : ∃ p, l.length = p := ⟨_, rfl⟩
    rw [hp] at hc0 hl ⊢
    replace hp := hide hp.symm
    replace hr0 := hide hr0
    have hs0 := hb0.size
    have hp3 : p ≤ 3000 := by omega
    clear HO0
    go_wp2_with fail
    refine (comp_c A0 p c0 hp hc0 (by omega) _ hr0).mono ?_
    rintro e w1 ⟨v1, rfl, HO1, hb1⟩
    obtain ⟨A1, c1, rfl, hc1, hr1⟩ := HO1.out.shape
    obtain ⟨q, hq⟩ : ∃ q, (comp l 0 0).length = q := ⟨_, rfl⟩
    have hqn : q ≤ 400000 := by have := comp_bound l; have := hp.out; omega
    rw [hq] at hc1 ⊢
    replace hq := hide hq.symm
    replace hr1 := hide hr1
    have hs1 := hb1.size
    clear HO1
    go_wp2_with fail
    refine (dec_c A1 q c1 hq hc1 hqn _ hr1).mono ?_
    rintro e w2 ⟨v2, rfl, HO2, hb2⟩
    obtain ⟨e1, e2⟩ := trip_out l (by rw [← hp.out]; omega)
    rw [e1] at HO2
    rw [e2]
    clear e1 e2
    obtain ⟨A2, c2, rfl, hc2, hr2⟩ := HO2.out.shape
    rw [← hp.out] at hc2 ⊢
    replace hr2 := hide hr2
    have hs2 := hb2.size
    clear HO2
    go_wp2_with fail
    refine (rcomp_c A0 p c0 hp hc0 (by omega) _ (hide (hr0.out.to (by (repeat' (first | (with_reducible exact Below.refl _ _) | (with_reducible assumption) | (with_reducible refine Below.alloc ?_ ?_ _) | (with_reducible refine Below.drew ?_) | (with_reducible refine below_drewN ?_ _) | (with_reducible refine Below.setCell ?_ ?_ _) | (with_reducible refine below_step (by with_reducible assumption) ?_ ?_) | (first | (with_reducible exact Nat.le_refl _) | (with_reducible assumption) | omega | (simp only [World.size_alloc, World.size_setCell, World.size_drew, size_drewN]; omega) | (simp; omega) | (simp; done)))))))).mono ?_
    rintro e w3 ⟨v3, rfl, HO3, hb3⟩
    obtain ⟨A3, c3, rfl, hc3, hr3⟩ := HO3.out.shape
    rw [← hq.out] at hc3 ⊢
    replace hr3 := hide hr3
    have hs3 := hb3.size
    clear HO3
    go_wp2_with fail
    refine (eqb_c A1 q c1 A3 q c3 hq hq _ (hide (hr1.out.to (by (repeat' (first | (with_reducible exact Below.refl _ _) | (with_reducible assumption) | (with_reducible refine Below.alloc ?_ ?_ _) | (with_reducible refine Below.drew ?_) | (with_reducible refine below_drewN ?_ _) | (with_reducible refine Below.setCell ?_ ?_ _) | (with_reducible refine below_step (by with_reducible assumption) ?_ ?_) | (first | (with_reducible exact Nat.le_refl _) | (with_reducible assumption) | omega | (simp only [World.size_alloc, World.size_setCell, World.size_drew, size_drewN]; omega) | (simp; omega) | (simp; done))))))) hr3).mono ?_
    rintro e w4 ⟨rfl, rfl⟩
    go_wp2_with fail
    refine (eqb_c A2 p c2 A0 p c0 hp hp _ (hide (hr2.out.to (by (repeat' (first | (with_reducible exact Below.refl _ _) | (with_reducible assumption) | (with_reducible refine Below.alloc ?_ ?_ _) | (with_reducible refine Below.drew ?_) | (with_reducible refine below_drewN ?_ _) | (with_reducible refine Below.setCell ?_ ?_ _) | (with_reducible refine below_step (by with_reducible assumption) ?_ ?_) | (first | (with_reducible exact Nat.le_refl _) | (with_reducible assumption) | omega | (simp only [World.size_alloc, World.size_setCell, World.size_drew, size_drewN]; omega) | (simp; omega) | (simp; done))))))) (hide (hr0.out.to (by (repeat' (first | (with_reducible exact Below.refl _ _) | (with_reducible assumption) | (with_reducible refine Below.alloc ?_ ?_ _) | (with_reducible refine Below.drew ?_) | (with_reducible refine below_drewN ?_ _) | (with_reducible refine Below.setCell ?_ ?_ _) | (with_reducible refine below_step (by with_reducible assumption) ?_ ?_) | (first | (with_reducible exact Nat.le_refl _) | (with_reducible assumption) | omega | (simp only [World.size_alloc, World.size_setCell, World.size_drew, size_drewN]; omega) | (simp; omega) | (simp; done)))))))).mono ?_
    rintro e w5 ⟨rfl, rfl⟩
    go_wp2_with fail
    refine (awake9_c _).mono ?_
    rintro e w6 ⟨rfl, hb6⟩
    go_wp2
    go_ret
    exact ⟨rfl, (by (repeat' (first | (with_reducible exact Below.refl _ _) | (with_reducible assumption) | (with_reducible refine Below.alloc ?_ ?_ _) | (with_reducible refine Below.drew ?_) | (with_reducible refine below_drewN ?_ _) | (with_reducible refine Below.setCell ?_ ?_ _) | (with_reducible refine below_step (by with_reducible assumption) ?_ ?_) | (first | (with_reducible exact Nat.le_refl _) | (with_reducible assumption) | omega | (simp only [World.size_alloc, World.size_setCell, World.size_drew, size_drewN]; omega) | (simp; omega) | (simp; done)))))⟩
theorem Owns.row {w : World} {B : Nat} {A : Option Addr} {n c : Nat} {o : List UInt8} (h : Owns w B (.slice A n c) o) : BRow w A o := by
  obtain ⟨A', c', e, _, hr⟩ := h.shape
  injection e with e1 e2 e3
  rw [e1]
  exact hr
theorem set_gb {l : List UInt8} {i : Nat} {x : UInt8} : (l.set i x).map bv = (l.map bv).set i (bv x) := by
  rw [List.map_set]
set_option maxRecDepth 20000 in
set_option maxHeartbeats 8000000 in
theorem LZDecompress_walk (ad : Option Addr) (n c : Nat) (l : List UInt8) (ad' : Option Addr) (n' c' : Nat) (at_ : Int) (x : Int) (hn : n = l.length) (hc : n ≤ c) (hm : c ≤ maxLen) (hc' : n' ≤ c') (hm' : c' ≤ maxLen) (wat : (Lit.int .i64 at_).wf = true) (wx : (Lit.int .u8 x).wf = true) (w : World) (hrow : BRow w ad l) (hrow' : NRow w ad' n') :
    Calls Try.prog 5 #[.slice ad n c, .slice ad' n' c', .int .i64 at_, .int .u8 x] w fun e w' => e = .returned (.bool true) ∧ Below w.heap.size w w' := by
  unfold maxLen at hm hm'
  have hx8 : 0 ≤ x ∧ x < 256 := by
    simp [Lit.wf, IntKind.min, IntKind.max] at wx
    simp [IntKind.bits, IntKind.signed] at wx
    omega
  clear wat wx
  obtain ⟨X, hX⟩ : ∃ X : UInt8, (X.toNat : Int) = x := ⟨UInt8.ofNat x.toNat, by rw [toNat_of (by omega)]; omega⟩
  clear hx8
  subst hX
  replace hn := hide hn
  replace hrow := hide hrow
  replace hrow' := hide hrow'
  by_cases hb : 600 < n
  · have t : (600 : Int) < (n : Int) := by omega
    go_enter Try.func5, Try.ntmps5
    go_wp2_with fail
    refine (awake9_c _).mono ?_
    rintro e w1 ⟨rfl, hb1⟩
    go_wp2
    go_ret
    exact ⟨rfl, (by (repeat' (first | (with_reducible exact Below.refl _ _) | (with_reducible assumption) | (with_reducible refine Below.alloc ?_ ?_ _) | (with_reducible refine Below.drew ?_) | (with_reducible refine below_drewN ?_ _) | (with_reducible refine Below.setCell ?_ ?_ _) | (with_reducible refine below_step (by with_reducible assumption) ?_ ?_) | (first | (with_reducible exact Nat.le_refl _) | (with_reducible assumption) | omega | (simp only [World.size_alloc, World.size_setCell, World.size_drew, size_drewN]; omega) | (simp; omega) | (simp; done)))))⟩
  by_cases hb' : 40 < n'
  · have t : (n : Int) ≤ 600 := by omega
    have t' : (40 : Int) < (n' : Int) := by omega
    go_enter Try.func5, Try.ntmps5
    go_wp2_with fail
    refine (awake9_c _).mono ?_
    rintro e w1 ⟨rfl, hb1⟩
    go_wp2
    go_ret
    exact ⟨rfl, (by (repeat' (first | (with_reducible exact Below.refl _ _) | (with_reducible assumption) | (with_reducible refine Below.alloc ?_ ?_ _) | (with_reducible refine Below.drew ?_) | (with_reducible refine below_drewN ?_ _) | (with_reducible refine Below.setCell ?_ ?_ _) | (with_reducible refine below_step (by with_reducible assumption) ?_ ?_) | (first | (with_reducible exact Nat.le_refl _) | (with_reducible assumption) | omega | (simp only [World.size_alloc, World.size_setCell, World.size_drew, size_drewN]; omega) | (simp; omega) | (simp; done)))))⟩
  · have t : (n : Int) ≤ 600 := by omega
    have t' : (n' : Int) ≤ 40 := by omega
    go_enter Try.func5, Try.ntmps5
    go_wp2_with fail
    refine (dec_c ad n c hn hc (by omega) _ hrow).mono ?_
    rintro e w1 ⟨v1, rfl, HO1, hb1⟩
    obtain ⟨A1, c1, rfl, hc1, hr1⟩ := HO1.out.shape
    obtain ⟨E, hE⟩ : ∃ E, decErr l = E := ⟨_, rfl⟩
    obtain ⟨q, hq⟩ : ∃ q, (decOut l).length = q := ⟨_, rfl⟩
    rw [hE]
    rw [hq] at hc1 ⊢
    replace hq := hide hq.symm
    replace hE := hide hE
    replace hr1 := hide hr1
    have hs1 := hb1.size
    clear HO1
    go_wp2_with fail
    refine (rdec_c ad n c hn hc (by omega) _ (hide (hrow.out.to (by (repeat' (first | (with_reducible exact Below.refl _ _) | (with_reducible assumption) | (with_reducible refine Below.alloc ?_ ?_ _) | (with_reducible refine Below.drew ?_) | (with_reducible refine below_drewN ?_ _) | (with_reducible refine Below.setCell ?_ ?_ _) | (with_reducible refine below_step (by with_reducible assumption) ?_ ?_) | (first | (with_reducible exact Nat.le_refl _) | (with_reducible assumption) | omega | (simp only [World.size_alloc, World.size_setCell, World.size_drew, size_drewN]; omega) | (simp; omega) | (simp; done)))))))).mono ?_
    rintro e w2 ⟨v2, rfl, HO2, hb2⟩
    obtain ⟨A2, c2, rfl, hc2, hr2⟩ := HO2.out.shape
    rw [hE.out]
    rw [← hq.out] at hc2 ⊢
    replace hr2 := hide hr2
    have hs2 := hb2.size
    clear HO2
    go_wp2_with fail
    refine (eqb_c A1 q c1 A2 q c2 hq hq _ (hide (hr1.out.to (by (repeat' (first | (with_reducible exact Below.refl _ _) | (with_reducible assumption) | (with_reducible refine Below.alloc ?_ ?_ _) | (with_reducible refine Below.drew ?_) | (with_reducible refine below_drewN ?_ _) | (with_reducible refine Below.setCell ?_ ?_ _) | (with_reducible refine below_step (by with_reducible assumption) ?_ ?_) | (first | (with_reducible exact Nat.le_refl _) | (with_reducible assumption) | omega | (simp only [World.size_alloc, World.size_setCell, World.size_drew, size_drewN]; omega) | (simp; omega) | (simp; done))))))) hr2).mono ?_
    rintro e w3 ⟨rfl, rfl⟩
    clear hr1 hr2 hc1 hc2 hq hE
    go_wp2_with fail
    refine (rep_c ad' n' c' (by omega) _ (hide (hrow'.out.below (B := w.heap.size) (by (repeat' (first | (with_reducible exact Below.refl _ _) | (with_reducible assumption) | (with_reducible refine Below.alloc ?_ ?_ _) | (with_reducible refine Below.drew ?_) | (with_reducible refine below_drewN ?_ _) | (with_reducible refine Below.setCell ?_ ?_ _) | (with_reducible refine below_step (by with_reducible assumption) ?_ ?_) | (first | (with_reducible exact Nat.le_refl _) | (with_reducible assumption) | omega | (simp only [World.size_alloc, World.size_setCell, World.size_drew, size_drewN]; omega) | (simp; omega) | (simp; done))))) (Nat.le_refl _)))).mono ?_
    rintro e w4 ⟨l', v4, rfl, hl', HO4, hb4⟩
    obtain ⟨A4, c4, rfl, hc4, hr4⟩ := HO4.out.shape
    obtain ⟨p, hp⟩ : ∃ p, l'.length = p := ⟨_, rfl⟩
    rw [hp] at hc4 hl' ⊢
    replace hp := hide hp.symm
    replace hr4 := hide hr4
    have hs4 := hb4.size
    have hp3 : p ≤ 3000 := by omega
    clear HO4
    go_wp2_with fail
    refine (rcomp_c A4 p c4 hp hc4 (by omega) _ hr4).mono ?_
    rintro e w5 ⟨v5, rfl, HO5, hb5⟩
    have hbw5 : Below w.heap.size w w5 := (by (repeat' (first | (with_reducible exact Below.refl _ _) | (with_reducible assumption) | (with_reducible refine Below.alloc ?_ ?_ _) | (with_reducible refine Below.drew ?_) | (with_reducible refine below_drewN ?_ _) | (with_reducible refine Below.setCell ?_ ?_ _) | (with_reducible refine below_step (by with_reducible assumption) ?_ ?_) | (first | (with_reducible exact Nat.le_refl _) | (with_reducible assumption) | omega | (simp only [World.size_alloc, World.size_setCell, World.size_drew, size_drewN]; omega) | (simp; omega) | (simp; done)))))
    have hs5 := hb5.size
    obtain ⟨B, hB⟩ : ∃ B, w4.heap.size = B := ⟨_, rfl⟩
    rw [hB] at HO5 hs5
    have hwB : w.heap.size ≤ B := by omega
    obtain ⟨m, hmm⟩ : ∃ m, comp l' 0 0 = m := ⟨_, rfl⟩
    have hml : m.length ≤ 400000 := by have h1 := comp_bound l'; have h2 := hp.out; rw [hmm] at h1; omega
    rw [hmm] at HO5
    clear hmm hr4 hc4 hb1 hb2 hb4 hb5 hrow'
    by_cases hm0 : m = []
    · subst hm0
      obtain ⟨A5, c5, rfl, hc5, hr5⟩ := HO5.out.shape
      replace hr5 := hide hr5
      clear HO5
      go_wp2_with fail
      refine (dec_c (l := []) A5 0 c5 (hide rfl) (by omega) (by omega) _ hr5).mono ?_
      rintro e w6 ⟨v6, rfl, HO6, hb6⟩
      obtain ⟨A6, c6, rfl, hc6, hr6⟩ := HO6.out.shape
      obtain ⟨E, hE⟩ : ∃ E, decErr [] = E := ⟨_, rfl⟩
      obtain ⟨q, hq⟩ : ∃ q, (decOut []).length = q := ⟨_, rfl⟩
      rw [hE]
      rw [hq] at hc6 ⊢
      replace hq := hide hq.symm
      replace hE := hide hE
      replace hr6 := hide hr6
      have hs6 := hb6.size
      clear HO6
      go_wp2_with fail
      refine (rdec_c (l := []) A5 0 c5 (hide rfl) (by omega) (by omega) _ (hide (hr5.out.to (by (repeat' (first | (with_reducible exact Below.refl _ _) | (with_reducible assumption) | (with_reducible refine Below.alloc ?_ ?_ _) | (with_reducible refine Below.drew ?_) | (with_reducible refine below_drewN ?_ _) | (with_reducible refine Below.setCell ?_ ?_ _) | (with_reducible refine below_step (by with_reducible assumption) ?_ ?_) | (first | (with_reducible exact Nat.le_refl _) | (with_reducible assumption) | omega | (simp only [World.size_alloc, World.size_setCell, World.size_drew, size_drewN]; omega) | (simp; omega) | (simp; done)))))))).mono ?_
      rintro e w7 ⟨v7, rfl, HO7, hb7⟩
      obtain ⟨A7, c7, rfl, hc7, hr7⟩ := HO7.out.shape
      rw [hE.out]
      rw [← hq.out] at hc7 ⊢
      replace hr7 := hide hr7
      have hs7 := hb7.size
      clear HO7
      go_wp2_with fail
      refine (eqb_c A6 q c6 A7 q c7 hq hq _ (hide (hr6.out.to (by (repeat' (first | (with_reducible exact Below.refl _ _) | (with_reducible assumption) | (with_reducible refine Below.alloc ?_ ?_ _) | (with_reducible refine Below.drew ?_) | (with_reducible refine below_drewN ?_ _) | (with_reducible refine Below.setCell ?_ ?_ _) | (with_reducible refine below_step (by with_reducible assumption) ?_ ?_) | (first | (with_reducible exact Nat.le_refl _) | (with_reducible assumption) | omega | (simp only [World.size_alloc, World.size_setCell, World.size_drew, size_drewN]; omega) | (simp; omega) | (simp; done))))))) hr7).mono ?_
      rintro e w8 ⟨rfl, rfl⟩
      go_wp2_with fail
      refine (awake9_c _).mono ?_
      rintro e w9 ⟨rfl, hb9⟩
      go_wp2
      go_ret
      exact ⟨rfl, (by (repeat' (first | (with_reducible exact Below.refl _ _) | (with_reducible assumption) | (with_reducible refine Below.alloc ?_ ?_ _) | (with_reducible refine Below.drew ?_) | (with_reducible refine below_drewN ?_ _) | (with_reducible refine Below.setCell ?_ ?_ _) | (with_reducible refine below_step (by with_reducible assumption) ?_ ?_) | (first | (with_reducible exact Nat.le_refl _) | (with_reducible assumption) | omega | (simp only [World.size_alloc, World.size_setCell, World.size_drew, size_drewN]; omega) | (simp; omega) | (simp; done)))))⟩
    · have hmp : 0 < m.length := List.length_pos_iff.2 hm0
      obtain ⟨g, c5, rfl, hgB, hg5⟩ := World.ownsRow.form HO5.out hmp
      obtain ⟨k, hk⟩ : ∃ k, m.length = k := ⟨_, rfl⟩
      have hk4 : k ≤ 400000 := by omega
      have HM := hide (fun w => mod_c (x := at_) (n := (k : Int)) (by omega) (by omega) w)
      have hiv := modV_lt at_ (n := (k : Int)) (by omega)
      obtain ⟨i, hi⟩ : ∃ i : Nat, modV at_ (k : Int) = (i : Int) := ⟨(modV at_ (k : Int)).toNat, by omega⟩
      rw [hi] at HM hiv
      have hik : i < k := by omega
      have HO5' : w5.ownsRow B 5 1 (.slice (some ⟨g, 0, none⟩) m.length c5) m.length (m.map bv) := HO5.out
      have hcl := own_cell HO5.out rfl (i := i) (by omega)
      have hfr := HO5'.frozenAt i
      have hst := (HO5'.stored i (bv X)).1
      have hO6 : Owns (w5.setCell ⟨g, i, none⟩ (bv X)) B (.slice (some ⟨g, 0, none⟩) m.length c5) (m.set i X) := by
        unfold Owns
        rw [set_gb, List.length_set]
        exact hst
      obtain ⟨l6, hl6⟩ : ∃ l6, m.set i X = l6 := ⟨_, rfl⟩
      have hl6k : k = l6.length := by rw [← hl6, List.length_set, hk]
      rw [hl6] at hO6
      rw [hk] at hO6 ⊢
      have hc5k : k ≤ c5 := by obtain ⟨_, _, e, h1, _⟩ := hO6.shape; rw [← hl6k] at e h1; injection e with _ _ e3; omega
      replace hO6 := hide hO6
      replace hl6k := hide hl6k
      clear hst HO5 HO5' hl6 hk hi hm0
      have hk1 : (0 : Int) < (k : Int) := by omega
      have hi0 : (0 : Int) ≤ (i : Int) := by omega
      have hi1 : (i : Int) < (k : Int) := by omega
      go_wp2_with fail
      refine (HM.out _).mono ?_
      rintro e w6 ⟨rfl, rfl⟩
      have hB6 : Below w.heap.size w (w5.setCell ⟨g, i, none⟩ (bv X)) := (by (repeat' (first | (with_reducible exact Below.refl _ _) | (with_reducible assumption) | (with_reducible refine Below.alloc ?_ ?_ _) | (with_reducible refine Below.drew ?_) | (with_reducible refine below_drewN ?_ _) | (with_reducible refine Below.setCell ?_ ?_ _) | (with_reducible refine below_step (by with_reducible assumption) ?_ ?_) | (first | (with_reducible exact Nat.le_refl _) | (with_reducible assumption) | omega | (simp only [World.size_alloc, World.size_setCell, World.size_drew, size_drewN]; omega) | (simp; omega) | (simp; done)))))
      obtain ⟨W, hW⟩ : ∃ W, w5.setCell ⟨g, i, none⟩ (.int .u8 (X.toNat : Int)) = W := ⟨_, rfl⟩
      have hW' : w5.setCell ⟨g, i, none⟩ (bv X) = W := hW
      rw [hW'] at hB6 hO6
      clear hW'
      have hr6 := hide hO6.out.row
      clear hO6
      go_wp2_with fail
      clear hW hcl hfr
      refine (dec_c (l := l6) (some ⟨g, 0, none⟩) k c5 hl6k hc5k (by omega) _ hr6).mono ?_
      rintro e w6 ⟨v6, rfl, HO6, hb6⟩
      obtain ⟨A6, c6, rfl, hc6, hr6'⟩ := HO6.out.shape
      obtain ⟨E, hE⟩ : ∃ E, decErr l6 = E := ⟨_, rfl⟩
      obtain ⟨q, hq⟩ : ∃ q, (decOut l6).length = q := ⟨_, rfl⟩
      rw [hE]
      rw [hq] at hc6 ⊢
      replace hq := hide hq.symm
      replace hE := hide hE
      replace hr6' := hide hr6'
      have hs6 := hb6.size
      clear HO6
      go_wp2_with fail
      refine (rdec_c (l := l6) (some ⟨g, 0, none⟩) k c5 hl6k hc5k (by omega) _ (hide (hr6.out.to (by (repeat' (first | (with_reducible exact Below.refl _ _) | (with_reducible assumption) | (with_reducible refine Below.alloc ?_ ?_ _) | (with_reducible refine Below.drew ?_) | (with_reducible refine below_drewN ?_ _) | (with_reducible refine Below.setCell ?_ ?_ _) | (with_reducible refine below_step (by with_reducible assumption) ?_ ?_) | (first | (with_reducible exact Nat.le_refl _) | (with_reducible assumption) | omega | (simp only [World.size_alloc, World.size_setCell, World.size_drew, size_drewN]; omega) | (simp; omega) | (simp; done)))))))).mono ?_
      rintro e w7 ⟨v7, rfl, HO7, hb7⟩
      obtain ⟨A7, c7, rfl, hc7, hr7⟩ := HO7.out.shape
      rw [hE.out]
      rw [← hq.out] at hc7 ⊢
      replace hr7 := hide hr7
      have hs7 := hb7.size
      clear HO7
      have hsW := hB6.size
      go_wp2_with fail
      refine (eqb_c A6 q c6 A7 q c7 hq hq _ (hide (hr6'.out.to (by (repeat' (first | (with_reducible exact Below.refl _ _) | (with_reducible assumption) | (with_reducible refine Below.alloc ?_ ?_ _) | (with_reducible refine Below.drew ?_) | (with_reducible refine below_drewN ?_ _) | (with_reducible refine Below.setCell ?_ ?_ _) | (with_reducible refine below_step (by with_reducible assumption) ?_ ?_) | (first | (with_reducible exact Nat.le_refl _) | (with_reducible assumption) | omega | (simp only [World.size_alloc, World.size_setCell, World.size_drew, size_drewN]; omega) | (simp; omega) | (simp; done))))))) hr7).mono ?_
      rintro e w8 ⟨rfl, rfl⟩
      go_wp2_with fail
      refine (awake9_c _).mono ?_
      rintro e w9 ⟨rfl, hb9⟩
      go_wp2
      go_ret
      exact ⟨rfl, (by (repeat' (first | (with_reducible exact Below.refl _ _) | (with_reducible assumption) | (with_reducible refine Below.alloc ?_ ?_ _) | (with_reducible refine Below.drew ?_) | (with_reducible refine below_drewN ?_ _) | (with_reducible refine Below.setCell ?_ ?_ _) | (with_reducible refine below_step (by with_reducible assumption) ?_ ?_) | (first | (with_reducible exact Nat.le_refl _) | (with_reducible assumption) | omega | (simp only [World.size_alloc, World.size_setCell, World.size_drew, size_drewN]; omega) | (simp; omega) | (simp; done)))))⟩
end Go.Proofs.Ytkdbgkjckoklcaa
