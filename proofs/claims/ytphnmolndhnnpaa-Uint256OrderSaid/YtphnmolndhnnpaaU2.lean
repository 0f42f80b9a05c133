/- uint256.Uint64, BitLen, the saturating operations, walked. -/
import Derived.WalkKit
import Derived.KernelRfl
import Derived.RowKit3
import Derived.Deep.LoopGhost
import Derived.Deep.QuietTactic
import Derived.BigQuiet
import Derived.WideLaws
import Derived.Laws.Rows
import Derived.Below
import Derived.Deep.Draws
import Derived.Outline
import Derived.LoopN
import Derived.Handy
import Derived.Laws.Externs
import Derived.Laws.BitsAllLaws
import Derived.Laws.BitsLemmas
import Derived.Deep.DeepCutAuto
import Derived.Deep.CutBlock
import Derived.Deep.RegionHeld3
import Derived.Test.YtphnmolndhnnpaaUM
import Derived.Test.YtphnmolndhnnpaaSL
namespace Go.Proofs.Ytphnmolndhnnpaa
open Go.RowKit
set_option linter.unusedVariables false
set_option linter.unusedSimpArgs false
theorem isU.nat {A : Nat} {a0 a1 a2 a3 : Int} (h : isU A a0 a1 a2 a3) : ∃ n0 n1 n2 n3 : Nat, a0 = n0 ∧ a1 = n1 ∧ a2 = n2 ∧ a3 = n3 ∧ A = n0 + 2 ^ 64 * n1 + 2 ^ 128 * n2 + 2 ^ 192 * n3 ∧ n0 < 2 ^ 64 ∧ n1 < 2 ^ 64 ∧ n2 < 2 ^ 64 ∧ n3 < 2 ^ 64 := by
  obtain ⟨p0, p1, p2, p3, q0, q1, q2, q3, v⟩ := h
  exact ⟨a0.toNat, a1.toNat, a2.toNat, a3.toNat, by omega, by omega, by omega, by omega, by omega, by omega, by omega, by omega, by omega⟩
theorem bl3 {A : Nat} {a0 a1 a2 a3 : Int} (h : isU A a0 a1 a2 a3) (h3 : a3 ≠ 0) : blI A = 192 + blI a3.toNat := by
  obtain ⟨n0, n1, n2, n3, rfl, rfl, rfl, rfl, hA, b0, b1, b2, b3⟩ := h.nat
  simp only [Int.toNat_natCast]
  have := blN_top (A := A) (a := n3) 192 (by omega) (by omega) (by omega)
  unfold blI; omega
theorem bl2 {A : Nat} {a0 a1 a2 a3 : Int} (h : isU A a0 a1 a2 a3) (h3 : a3 = 0) (h2 : a2 ≠ 0) : blI A = 128 + blI a2.toNat := by
  obtain ⟨n0, n1, n2, n3, rfl, rfl, rfl, rfl, hA, b0, b1, b2, b3⟩ := h.nat
  simp only [Int.toNat_natCast]
  have := blN_top (A := A) (a := n2) 128 (by omega) (by omega) (by omega)
  unfold blI; omega
theorem bl1 {A : Nat} {a0 a1 a2 a3 : Int} (h : isU A a0 a1 a2 a3) (h3 : a3 = 0) (h2 : a2 = 0) (h1 : a1 ≠ 0) : blI A = 64 + blI a1.toNat := by
  obtain ⟨n0, n1, n2, n3, rfl, rfl, rfl, rfl, hA, b0, b1, b2, b3⟩ := h.nat
  simp only [Int.toNat_natCast]
  have := blN_top (A := A) (a := n1) 64 (by omega) (by omega) (by omega)
  unfold blI; omega
theorem bl0 {A : Nat} {a0 a1 a2 a3 : Int} (h : isU A a0 a1 a2 a3) (h3 : a3 = 0) (h2 : a2 = 0) (h1 : a1 = 0) : blI A = blI a0.toNat := by
  obtain ⟨n0, n1, n2, n3, rfl, rfl, rfl, rfl, hA, b0, b1, b2, b3⟩ := h.nat
  simp only [Int.toNat_natCast]
  have : A = n0 := by omega
  rw [this]
theorem blI_rg {x : Int} (h : x < 18446744073709551616) : 0 ≤ blI x.toNat ∧ blI x.toNat ≤ 64 := by
  have := blN_le (A := x.toNat) (k := 64) (by omega)
  unfold blI; omega
set_option maxHeartbeats 1000000 in
theorem bitlen_c {A : Nat} {a0 a1 a2 a3 : Int} (hA : isU A a0 a1 a2 a3) (w : World) :
   Calls Try.prog 18 #[.agg #[.int .u64 a0, .int .u64 a1, .int .u64 a2, .int .u64 a3]] w fun e w' => e = .returned (.int .i64 (blI A)) ∧ Below w.heap.size w w' := by
  have B0 := bl0 hA
  have B1 := bl1 hA
  have B2 := bl2 hA
  have B3 := bl3 hA
  replace B0 := hide B0
  replace B1 := hide B1
  replace B2 := hide B2
  replace B3 := hide B3
  obtain ⟨p0, p1, p2, p3, q0, q1, q2, q3, v⟩ := hA
  clear v
  obtain ⟨x0, y0⟩ := blI_rg q0
  obtain ⟨x1, y1⟩ := blI_rg q1
  obtain ⟨x2, y2⟩ := blI_rg q2
  obtain ⟨x3, y3⟩ := blI_rg q3
  go_enter Try.func18, Try.ntmps18
  go_wp2
  refine wp_loop_rounds 5 ?_
  repeat' ((rw [rounds_succ]); go_wp2_with (first | (go_at_call 30; refine (len64_c (by assumption) (by assumption) _).mono ?_; rintro e w1 ⟨rfl, rfl⟩)))
  all_goals go_ret
  all_goals refine ⟨ret_int ?_, (by (repeat' (first | (with_reducible exact Below.refl _ _) | (with_reducible assumption) | (with_reducible refine Below.alloc ?_ ?_ _) | (with_reducible refine Below.drew ?_) | (with_reducible refine below_drewN ?_ _) | (with_reducible refine Below.setCell ?_ ?_ _) | (with_reducible refine below_step (by with_reducible assumption) ?_ ?_) | (first | (with_reducible exact Nat.le_refl _) | (with_reducible assumption) | omega | (simp only [World.size_alloc, World.size_setCell, World.size_drew, size_drewN]; omega) | (simp; omega) | (simp; done)))))⟩
  · have h : (a3 != 0) = true := by assumption
    rw [B3.out (by simpa using h)]
  · have h3 : (a3 != 0) = false := by first | assumption | (simp; assumption)
    have h : (a2 != 0) = true := by assumption
    rw [B2.out (by simpa using h3) (by simpa using h)]
  · have h3 : (a3 != 0) = false := by first | assumption | (simp; assumption)
    have h2 : (a2 != 0) = false := by first | assumption | (simp; assumption)
    have h : (a1 != 0) = true := by assumption
    rw [B1.out (by simpa using h3) (by simpa using h2) (by simpa using h)]
  · have h3 : (a3 != 0) = false := by first | assumption | (simp; assumption)
    have h2 : (a2 != 0) = false := by first | assumption | (simp; assumption)
    have h1 : (a1 != 0) = false := by first | assumption | (simp; assumption)
    rw [B0.out (by simpa using h3) (by simpa using h2) (by simpa using h1)]
  · have h3 : (a3 != 0) = false := by first | assumption | (simp; assumption)
    have h2 : (a2 != 0) = false := by first | assumption | (simp; assumption)
    have h1 : (a1 != 0) = false := by first | assumption | (simp; assumption)
    have h0 : (a0 != 0) = false := by first | assumption | (simp; assumption)
    rw [B0.out (by simpa using h3) (by simpa using h2) (by simpa using h1), show a0 = 0 by simpa using h0]
    rfl
theorem or2_zero {x y : Int} (hx : 0 ≤ x) (hx' : x < 18446744073709551616) (hy : 0 ≤ y) (hy' : y < 18446744073709551616) : 0 ≤ bits .or .u64 x y ∧ bits .or .u64 x y < 18446744073709551616 := by
  obtain ⟨X, rfl⟩ := Int.eq_ofNat_of_zero_le hx
  obtain ⟨Y, rfl⟩ := Int.eq_ofNat_of_zero_le hy
  rw [bits_or_u64_nat X Y (by omega) (by omega)]
  have : X ||| Y < 2 ^ 64 := Nat.or_lt_two_pow (by omega) (by omega)
  omega
/-- What uint256.Uint64 answers: the number, and whether it fits. -/
def u64V (A : Nat) : Int := if A < 18446744073709551616 then (A : Int) else 0
def u64B (A : Nat) : Bool := decide (A < 18446744073709551616)
theorem u64_test {A : Nat} {a0 a1 a2 a3 : Int} (h : isU A a0 a1 a2 a3) : bits .or .u64 (bits .or .u64 a1 a2) a3 = 0 ↔ A < 18446744073709551616 := by
  obtain ⟨p0, p1, p2, p3, q0, q1, q2, q3, v⟩ := h
  obtain ⟨x, y⟩ := or2_zero p1 q1 p2 q2
  rw [bits_or_zero x y p3 q3, bits_or_zero p1 q1 p2 q2]
  omega
theorem u64_c {A : Nat} {a0 a1 a2 a3 : Int} (hA : isU A a0 a1 a2 a3) (w : World) :
   Calls Try.prog 13 #[.agg #[.int .u64 a0, .int .u64 a1, .int .u64 a2, .int .u64 a3]] w fun e w' => e = .returned (.tuple #[.int .u64 (u64V A), .bool (u64B A)]) ∧ Below w.heap.size w w' := by
  have T := u64_test hA
  have v := hA.val
  by_cases h : A < 18446744073709551616
  · have t : (bits .or .u64 (bits .or .u64 a1 a2) a3 != 0) = false := by simpa using T.2 h
    have e1 : u64V A = a0 := by unfold u64V; rw [if_pos h]; have := hA.p1; have := hA.p2; have := hA.p3; have := hA.p0; omega
    have e2 : u64B A = true := decide_eq_true h
    rw [e1, e2]
    clear T v h e1 e2 hA
    go_enter Try.func13, Try.ntmps13
    go_wp2
    go_ret2
    exact ⟨rfl, (by (repeat' (first | (with_reducible exact Below.refl _ _) | (with_reducible assumption) | (with_reducible refine Below.alloc ?_ ?_ _) | (with_reducible refine Below.drew ?_) | (with_reducible refine below_drewN ?_ _) | (with_reducible refine Below.setCell ?_ ?_ _) | (with_reducible refine below_step (by with_reducible assumption) ?_ ?_) | (first | (with_reducible exact Nat.le_refl _) | (with_reducible assumption) | omega | (simp only [World.size_alloc, World.size_setCell, World.size_drew, size_drewN]; omega) | (simp; omega) | (simp; done)))))⟩
  · have t : (bits .or .u64 (bits .or .u64 a1 a2) a3 != 0) = true := by simpa using fun x => h (T.1 x)
    have e1 : u64V A = 0 := by unfold u64V; rw [if_neg h]
    have e2 : u64B A = false := decide_eq_false h
    rw [e1, e2]
    clear T v h e1 e2 hA
    go_enter Try.func13, Try.ntmps13
    go_wp2
    go_ret2
    exact ⟨rfl, (by (repeat' (first | (with_reducible exact Below.refl _ _) | (with_reducible assumption) | (with_reducible refine Below.alloc ?_ ?_ _) | (with_reducible refine Below.drew ?_) | (with_reducible refine below_drewN ?_ _) | (with_reducible refine Below.setCell ?_ ?_ _) | (with_reducible refine below_step (by with_reducible assumption) ?_ ?_) | (first | (with_reducible exact Nat.le_refl _) | (with_reducible assumption) | omega | (simp only [World.size_alloc, World.size_setCell, World.size_drew, size_drewN]; omega) | (simp; omega) | (simp; done)))))⟩
theorem lim_max : lim (M256 - 1) 0 = 18446744073709551615 ∧ lim (M256 - 1) 1 = 18446744073709551615 ∧ lim (M256 - 1) 2 = 18446744073709551615 ∧ lim (M256 - 1) 3 = 18446744073709551615 := by decide +kernel
theorem maxv_c (w : World) :
   Calls Try.prog 44 #[] w fun e w' => e = .returned (.agg #[.int .u64 18446744073709551615, .int .u64 18446744073709551615, .int .u64 18446744073709551615, .int .u64 18446744073709551615]) ∧ Below w.heap.size w w' := by
  go_enter Try.func44, Try.ntmps44
  go_wp2
  go_returns
  exact ⟨rfl, (by (repeat' (first | (with_reducible exact Below.refl _ _) | (with_reducible assumption) | (with_reducible refine Below.alloc ?_ ?_ _) | (with_reducible refine Below.drew ?_) | (with_reducible refine below_drewN ?_ _) | (with_reducible refine Below.setCell ?_ ?_ _) | (with_reducible refine below_step (by with_reducible assumption) ?_ ?_) | (first | (with_reducible exact Nat.le_refl _) | (with_reducible assumption) | omega | (simp only [World.size_alloc, World.size_setCell, World.size_drew, size_drewN]; omega) | (simp; omega) | (simp; done)))))⟩
set_option maxHeartbeats 1000000 in
theorem satadd_c {A B : Nat} {a0 a1 a2 a3 b0 b1 b2 b3 : Int} (hA : isU A a0 a1 a2 a3) (hB : isU B b0 b1 b2 b3) (w : World) :
   Calls Try.prog 41 #[.agg #[.int .u64 a0, .int .u64 a1, .int .u64 a2, .int .u64 a3], .agg #[.int .u64 b0, .int .u64 b1, .int .u64 b2, .int .u64 b3]] w fun e w' => e = .returned (.agg #[.int .u64 (lim (satV A B) 0), .int .u64 (lim (satV A B) 1), .int .u64 (lim (satV A B) 2), .int .u64 (lim (satV A B) 3)]) ∧ Below w.heap.size w w' := by
  have C := hide (add_c hA hB)
  clear hA hB
  by_cases h : A + B < M256
  · have e1 : satV A B = addV A B := by rw [satV, addV, if_pos h, if_pos h]
    have e2 : (addE A B == 0) = true := by rw [addE, if_pos h]; rfl
    rw [e1]
    clear h e1
    go_enter Try.func41, Try.ntmps41
    go_wp2_with (go_at_call 20; (with_reducible refine (C.out _).mono ?_); rintro e w1 ⟨rfl, hb1⟩; (have hs1 := hb1.size); (try simp only [World.size_alloc, World.size_setCell, World.size_drew, size_drewN] at hs1); (have hc1_0 : ∀ o, w1.cell? ⟨w.heap.size, o, none⟩ = _ := fun o => hb1.cell (p := ⟨w.heap.size, o, none⟩) (by ((try simp only [World.size_alloc, World.size_setCell, World.size_drew, size_drewN]); omega))); (have hf1_0 : ∀ o, w1.frozen? ⟨w.heap.size, o, none⟩ = _ := fun o => hb1.frozen (p := ⟨w.heap.size, o, none⟩) (by ((try simp only [World.size_alloc, World.size_setCell, World.size_drew, size_drewN]); omega))); (have z1_0 : w.heap.size < w1.heap.size := (by omega)); (have hc1_1 : ∀ o, w1.cell? ⟨w.heap.size + 1, o, none⟩ = _ := fun o => hb1.cell (p := ⟨w.heap.size + 1, o, none⟩) (by ((try simp only [World.size_alloc, World.size_setCell, World.size_drew, size_drewN]); omega))); (have hf1_1 : ∀ o, w1.frozen? ⟨w.heap.size + 1, o, none⟩ = _ := fun o => hb1.frozen (p := ⟨w.heap.size + 1, o, none⟩) (by ((try simp only [World.size_alloc, World.size_setCell, World.size_drew, size_drewN]); omega))); (have z1_1 : w.heap.size + 1 < w1.heap.size := (by omega)); (have hc1_2 : ∀ o, w1.cell? ⟨w.heap.size + 1 + 1, o, none⟩ = _ := fun o => hb1.cell (p := ⟨w.heap.size + 1 + 1, o, none⟩) (by ((try simp only [World.size_alloc, World.size_setCell, World.size_drew, size_drewN]); omega))); (have hf1_2 : ∀ o, w1.frozen? ⟨w.heap.size + 1 + 1, o, none⟩ = _ := fun o => hb1.frozen (p := ⟨w.heap.size + 1 + 1, o, none⟩) (by ((try simp only [World.size_alloc, World.size_setCell, World.size_drew, size_drewN]); omega))); (have z1_2 : w.heap.size + 1 + 1 < w1.heap.size := (by omega)))
    refine bodyPost_ret (v := .agg #[.int .u64 (lim (addV A B) 0), .int .u64 (lim (addV A B) 1), .int .u64 (lim (addV A B) 2), .int .u64 (lim (addV A B) 3)]) (by simp [results, Try.results41, go_sem, *]) rfl ?_
    exact ⟨rfl, (by (repeat' (first | (with_reducible exact Below.refl _ _) | (with_reducible assumption) | (with_reducible refine Below.alloc ?_ ?_ _) | (with_reducible refine Below.drew ?_) | (with_reducible refine below_drewN ?_ _) | (with_reducible refine Below.setCell ?_ ?_ _) | (with_reducible refine below_step (by with_reducible assumption) ?_ ?_) | (first | (with_reducible exact Nat.le_refl _) | (with_reducible assumption) | omega | (simp only [World.size_alloc, World.size_setCell, World.size_drew, size_drewN]; omega) | (simp; omega) | (simp; done)))))⟩
  · have e1 : satV A B = M256 - 1 := by rw [satV, if_neg h]
    have e2 : (addE A B == 0) = false := by rw [addE, if_neg h]; rfl
    obtain ⟨m0, m1, m2, m3⟩ := lim_max
    rw [e1, m0, m1, m2, m3]
    clear h e1 m0 m1 m2 m3
    go_enter Try.func41, Try.ntmps41
    go_wp2_with (first | (go_at_call 20; (with_reducible refine (C.out _).mono ?_); rintro e w1 ⟨rfl, hb1⟩; (have hs1 := hb1.size); (try simp only [World.size_alloc, World.size_setCell, World.size_drew, size_drewN] at hs1); (have hc1_0 : ∀ o, w1.cell? ⟨w.heap.size, o, none⟩ = _ := fun o => hb1.cell (p := ⟨w.heap.size, o, none⟩) (by ((try simp only [World.size_alloc, World.size_setCell, World.size_drew, size_drewN]); omega))); (have hf1_0 : ∀ o, w1.frozen? ⟨w.heap.size, o, none⟩ = _ := fun o => hb1.frozen (p := ⟨w.heap.size, o, none⟩) (by ((try simp only [World.size_alloc, World.size_setCell, World.size_drew, size_drewN]); omega))); (have z1_0 : w.heap.size < w1.heap.size := (by omega)); (have hc1_1 : ∀ o, w1.cell? ⟨w.heap.size + 1, o, none⟩ = _ := fun o => hb1.cell (p := ⟨w.heap.size + 1, o, none⟩) (by ((try simp only [World.size_alloc, World.size_setCell, World.size_drew, size_drewN]); omega))); (have hf1_1 : ∀ o, w1.frozen? ⟨w.heap.size + 1, o, none⟩ = _ := fun o => hb1.frozen (p := ⟨w.heap.size + 1, o, none⟩) (by ((try simp only [World.size_alloc, World.size_setCell, World.size_drew, size_drewN]); omega))); (have z1_1 : w.heap.size + 1 < w1.heap.size := (by omega)); (have hc1_2 : ∀ o, w1.cell? ⟨w.heap.size + 1 + 1, o, none⟩ = _ := fun o => hb1.cell (p := ⟨w.heap.size + 1 + 1, o, none⟩) (by ((try simp only [World.size_alloc, World.size_setCell, World.size_drew, size_drewN]); omega))); (have hf1_2 : ∀ o, w1.frozen? ⟨w.heap.size + 1 + 1, o, none⟩ = _ := fun o => hb1.frozen (p := ⟨w.heap.size + 1 + 1, o, none⟩) (by ((try simp only [World.size_alloc, World.size_setCell, World.size_drew, size_drewN]); omega))); (have z1_2 : w.heap.size + 1 + 1 < w1.heap.size := (by omega))) | (go_at_call 44; (with_reducible refine (maxv_c _).mono ?_); rintro e w2 ⟨rfl, hb2⟩; (have hs2 := hb2.size); (try simp only [World.size_alloc, World.size_setCell, World.size_drew, size_drewN] at hs2); (have hc2_0 : ∀ o, w2.cell? ⟨w.heap.size, o, none⟩ = _ := fun o => hb2.cell (p := ⟨w.heap.size, o, none⟩) (by ((try simp only [World.size_alloc, World.size_setCell, World.size_drew, size_drewN]); omega))); (have hf2_0 : ∀ o, w2.frozen? ⟨w.heap.size, o, none⟩ = _ := fun o => hb2.frozen (p := ⟨w.heap.size, o, none⟩) (by ((try simp only [World.size_alloc, World.size_setCell, World.size_drew, size_drewN]); omega))); (have z2_0 : w.heap.size < w2.heap.size := (by omega)); (have hc2_1 : ∀ o, w2.cell? ⟨w.heap.size + 1, o, none⟩ = _ := fun o => hb2.cell (p := ⟨w.heap.size + 1, o, none⟩) (by ((try simp only [World.size_alloc, World.size_setCell, World.size_drew, size_drewN]); omega))); (have hf2_1 : ∀ o, w2.frozen? ⟨w.heap.size + 1, o, none⟩ = _ := fun o => hb2.frozen (p := ⟨w.heap.size + 1, o, none⟩) (by ((try simp only [World.size_alloc, World.size_setCell, World.size_drew, size_drewN]); omega))); (have z2_1 : w.heap.size + 1 < w2.heap.size := (by omega)); (have hc2_2 : ∀ o, w2.cell? ⟨w.heap.size + 1 + 1, o, none⟩ = _ := fun o => hb2.cell (p := ⟨w.heap.size + 1 + 1, o, none⟩) (by ((try simp only [World.size_alloc, World.size_setCell, World.size_drew, size_drewN]); omega))); (have hf2_2 : ∀ o, w2.frozen? ⟨w.heap.size + 1 + 1, o, none⟩ = _ := fun o => hb2.frozen (p := ⟨w.heap.size + 1 + 1, o, none⟩) (by ((try simp only [World.size_alloc, World.size_setCell, World.size_drew, size_drewN]); omega))); (have z2_2 : w.heap.size + 1 + 1 < w2.heap.size := (by omega)); (have hc2_3 : ∀ o, w2.cell? ⟨w1.heap.size, o, none⟩ = _ := fun o => hb2.cell (p := ⟨w1.heap.size, o, none⟩) (by ((try simp only [World.size_alloc, World.size_setCell, World.size_drew, size_drewN]); omega))); (have hf2_3 : ∀ o, w2.frozen? ⟨w1.heap.size, o, none⟩ = _ := fun o => hb2.frozen (p := ⟨w1.heap.size, o, none⟩) (by ((try simp only [World.size_alloc, World.size_setCell, World.size_drew, size_drewN]); omega))); (have z2_3 : w1.heap.size < w2.heap.size := (by omega))))
    refine bodyPost_ret (v := .agg #[.int .u64 18446744073709551615, .int .u64 18446744073709551615, .int .u64 18446744073709551615, .int .u64 18446744073709551615]) (by simp [results, Try.results41, go_sem, *]) rfl ?_
    exact ⟨rfl, (by (repeat' (first | (with_reducible exact Below.refl _ _) | (with_reducible assumption) | (with_reducible refine Below.alloc ?_ ?_ _) | (with_reducible refine Below.drew ?_) | (with_reducible refine below_drewN ?_ _) | (with_reducible refine Below.setCell ?_ ?_ _) | (with_reducible refine below_step (by with_reducible assumption) ?_ ?_) | (first | (with_reducible exact Nat.le_refl _) | (with_reducible assumption) | omega | (simp only [World.size_alloc, World.size_setCell, World.size_drew, size_drewN]; omega) | (simp; omega) | (simp; done)))))⟩
set_option maxHeartbeats 1000000 in
theorem satmul_c {A B : Nat} {a0 a1 a2 a3 b0 b1 b2 b3 : Int} (hA : isU A a0 a1 a2 a3) (hB : isU B b0 b1 b2 b3) (w : World) :
   Calls Try.prog 42 #[.agg #[.int .u64 a0, .int .u64 a1, .int .u64 a2, .int .u64 a3], .agg #[.int .u64 b0, .int .u64 b1, .int .u64 b2, .int .u64 b3]] w fun e w' => e = .returned (.agg #[.int .u64 (lim (satM A B) 0), .int .u64 (lim (satM A B) 1), .int .u64 (lim (satM A B) 2), .int .u64 (lim (satM A B) 3)]) ∧ Below w.heap.size w w' := by
  have C := hide (mul_c hA hB)
  clear hA hB
  by_cases h : A * B < M256
  · have e1 : satM A B = mulV A B := by rw [satM, mulV, if_pos h, if_pos h]
    have e2 : (mulE A B == 0) = true := by rw [mulE, if_pos h]; rfl
    rw [e1]
    clear h e1
    go_enter Try.func42, Try.ntmps42
    go_wp2_with (go_at_call 24; (with_reducible refine (C.out _).mono ?_); rintro e w1 ⟨rfl, hb1⟩; (have hs1 := hb1.size); (try simp only [World.size_alloc, World.size_setCell, World.size_drew, size_drewN] at hs1); (have hc1_0 : ∀ o, w1.cell? ⟨w.heap.size, o, none⟩ = _ := fun o => hb1.cell (p := ⟨w.heap.size, o, none⟩) (by ((try simp only [World.size_alloc, World.size_setCell, World.size_drew, size_drewN]); omega))); (have hf1_0 : ∀ o, w1.frozen? ⟨w.heap.size, o, none⟩ = _ := fun o => hb1.frozen (p := ⟨w.heap.size, o, none⟩) (by ((try simp only [World.size_alloc, World.size_setCell, World.size_drew, size_drewN]); omega))); (have z1_0 : w.heap.size < w1.heap.size := (by omega)); (have hc1_1 : ∀ o, w1.cell? ⟨w.heap.size + 1, o, none⟩ = _ := fun o => hb1.cell (p := ⟨w.heap.size + 1, o, none⟩) (by ((try simp only [World.size_alloc, World.size_setCell, World.size_drew, size_drewN]); omega))); (have hf1_1 : ∀ o, w1.frozen? ⟨w.heap.size + 1, o, none⟩ = _ := fun o => hb1.frozen (p := ⟨w.heap.size + 1, o, none⟩) (by ((try simp only [World.size_alloc, World.size_setCell, World.size_drew, size_drewN]); omega))); (have z1_1 : w.heap.size + 1 < w1.heap.size := (by omega)); (have hc1_2 : ∀ o, w1.cell? ⟨w.heap.size + 1 + 1, o, none⟩ = _ := fun o => hb1.cell (p := ⟨w.heap.size + 1 + 1, o, none⟩) (by ((try simp only [World.size_alloc, World.size_setCell, World.size_drew, size_drewN]); omega))); (have hf1_2 : ∀ o, w1.frozen? ⟨w.heap.size + 1 + 1, o, none⟩ = _ := fun o => hb1.frozen (p := ⟨w.heap.size + 1 + 1, o, none⟩) (by ((try simp only [World.size_alloc, World.size_setCell, World.size_drew, size_drewN]); omega))); (have z1_2 : w.heap.size + 1 + 1 < w1.heap.size := (by omega)))
    refine bodyPost_ret (v := .agg #[.int .u64 (lim (mulV A B) 0), .int .u64 (lim (mulV A B) 1), .int .u64 (lim (mulV A B) 2), .int .u64 (lim (mulV A B) 3)]) (by simp [results, Try.results42, go_sem, *]) rfl ?_
    exact ⟨rfl, (by (repeat' (first | (with_reducible exact Below.refl _ _) | (with_reducible assumption) | (with_reducible refine Below.alloc ?_ ?_ _) | (with_reducible refine Below.drew ?_) | (with_reducible refine below_drewN ?_ _) | (with_reducible refine Below.setCell ?_ ?_ _) | (with_reducible refine below_step (by with_reducible assumption) ?_ ?_) | (first | (with_reducible exact Nat.le_refl _) | (with_reducible assumption) | omega | (simp only [World.size_alloc, World.size_setCell, World.size_drew, size_drewN]; omega) | (simp; omega) | (simp; done)))))⟩
  · have e1 : satM A B = M256 - 1 := by rw [satM, if_neg h]
    have e2 : (mulE A B == 0) = false := by rw [mulE, if_neg h]; rfl
    obtain ⟨m0, m1, m2, m3⟩ := lim_max
    rw [e1, m0, m1, m2, m3]
    clear h e1 m0 m1 m2 m3
    go_enter Try.func42, Try.ntmps42
    go_wp2_with (first | (go_at_call 24; (with_reducible refine (C.out _).mono ?_); rintro e w1 ⟨rfl, hb1⟩; (have hs1 := hb1.size); (try simp only [World.size_alloc, World.size_setCell, World.size_drew, size_drewN] at hs1); (have hc1_0 : ∀ o, w1.cell? ⟨w.heap.size, o, none⟩ = _ := fun o => hb1.cell (p := ⟨w.heap.size, o, none⟩) (by ((try simp only [World.size_alloc, World.size_setCell, World.size_drew, size_drewN]); omega))); (have hf1_0 : ∀ o, w1.frozen? ⟨w.heap.size, o, none⟩ = _ := fun o => hb1.frozen (p := ⟨w.heap.size, o, none⟩) (by ((try simp only [World.size_alloc, World.size_setCell, World.size_drew, size_drewN]); omega))); (have z1_0 : w.heap.size < w1.heap.size := (by omega)); (have hc1_1 : ∀ o, w1.cell? ⟨w.heap.size + 1, o, none⟩ = _ := fun o => hb1.cell (p := ⟨w.heap.size + 1, o, none⟩) (by ((try simp only [World.size_alloc, World.size_setCell, World.size_drew, size_drewN]); omega))); (have hf1_1 : ∀ o, w1.frozen? ⟨w.heap.size + 1, o, none⟩ = _ := fun o => hb1.frozen (p := ⟨w.heap.size + 1, o, none⟩) (by ((try simp only [World.size_alloc, World.size_setCell, World.size_drew, size_drewN]); omega))); (have z1_1 : w.heap.size + 1 < w1.heap.size := (by omega)); (have hc1_2 : ∀ o, w1.cell? ⟨w.heap.size + 1 + 1, o, none⟩ = _ := fun o => hb1.cell (p := ⟨w.heap.size + 1 + 1, o, none⟩) (by ((try simp only [World.size_alloc, World.size_setCell, World.size_drew, size_drewN]); omega))); (have hf1_2 : ∀ o, w1.frozen? ⟨w.heap.size + 1 + 1, o, none⟩ = _ := fun o => hb1.frozen (p := ⟨w.heap.size + 1 + 1, o, none⟩) (by ((try simp only [World.size_alloc, World.size_setCell, World.size_drew, size_drewN]); omega))); (have z1_2 : w.heap.size + 1 + 1 < w1.heap.size := (by omega))) | (go_at_call 44; (with_reducible refine (maxv_c _).mono ?_); rintro e w2 ⟨rfl, hb2⟩; (have hs2 := hb2.size); (try simp only [World.size_alloc, World.size_setCell, World.size_drew, size_drewN] at hs2); (have hc2_0 : ∀ o, w2.cell? ⟨w.heap.size, o, none⟩ = _ := fun o => hb2.cell (p := ⟨w.heap.size, o, none⟩) (by ((try simp only [World.size_alloc, World.size_setCell, World.size_drew, size_drewN]); omega))); (have hf2_0 : ∀ o, w2.frozen? ⟨w.heap.size, o, none⟩ = _ := fun o => hb2.frozen (p := ⟨w.heap.size, o, none⟩) (by ((try simp only [World.size_alloc, World.size_setCell, World.size_drew, size_drewN]); omega))); (have z2_0 : w.heap.size < w2.heap.size := (by omega)); (have hc2_1 : ∀ o, w2.cell? ⟨w.heap.size + 1, o, none⟩ = _ := fun o => hb2.cell (p := ⟨w.heap.size + 1, o, none⟩) (by ((try simp only [World.size_alloc, World.size_setCell, World.size_drew, size_drewN]); omega))); (have hf2_1 : ∀ o, w2.frozen? ⟨w.heap.size + 1, o, none⟩ = _ := fun o => hb2.frozen (p := ⟨w.heap.size + 1, o, none⟩) (by ((try simp only [World.size_alloc, World.size_setCell, World.size_drew, size_drewN]); omega))); (have z2_1 : w.heap.size + 1 < w2.heap.size := (by omega)); (have hc2_2 : ∀ o, w2.cell? ⟨w.heap.size + 1 + 1, o, none⟩ = _ := fun o => hb2.cell (p := ⟨w.heap.size + 1 + 1, o, none⟩) (by ((try simp only [World.size_alloc, World.size_setCell, World.size_drew, size_drewN]); omega))); (have hf2_2 : ∀ o, w2.frozen? ⟨w.heap.size + 1 + 1, o, none⟩ = _ := fun o => hb2.frozen (p := ⟨w.heap.size + 1 + 1, o, none⟩) (by ((try simp only [World.size_alloc, World.size_setCell, World.size_drew, size_drewN]); omega))); (have z2_2 : w.heap.size + 1 + 1 < w2.heap.size := (by omega)); (have hc2_3 : ∀ o, w2.cell? ⟨w1.heap.size, o, none⟩ = _ := fun o => hb2.cell (p := ⟨w1.heap.size, o, none⟩) (by ((try simp only [World.size_alloc, World.size_setCell, World.size_drew, size_drewN]); omega))); (have hf2_3 : ∀ o, w2.frozen? ⟨w1.heap.size, o, none⟩ = _ := fun o => hb2.frozen (p := ⟨w1.heap.size, o, none⟩) (by ((try simp only [World.size_alloc, World.size_setCell, World.size_drew, size_drewN]); omega))); (have z2_3 : w1.heap.size < w2.heap.size := (by omega))))
    refine bodyPost_ret (v := .agg #[.int .u64 18446744073709551615, .int .u64 18446744073709551615, .int .u64 18446744073709551615, .int .u64 18446744073709551615]) (by simp [results, Try.results42, go_sem, *]) rfl ?_
    exact ⟨rfl, (by (repeat' (first | (with_reducible exact Below.refl _ _) | (with_reducible assumption) | (with_reducible refine Below.alloc ?_ ?_ _) | (with_reducible refine Below.drew ?_) | (with_reducible refine below_drewN ?_ _) | (with_reducible refine Below.setCell ?_ ?_ _) | (with_reducible refine below_step (by with_reducible assumption) ?_ ?_) | (first | (with_reducible exact Nat.le_refl _) | (with_reducible assumption) | omega | (simp only [World.size_alloc, World.size_setCell, World.size_drew, size_drewN]; omega) | (simp; omega) | (simp; done)))))⟩
end Go.Proofs.Ytphnmolndhnnpaa
