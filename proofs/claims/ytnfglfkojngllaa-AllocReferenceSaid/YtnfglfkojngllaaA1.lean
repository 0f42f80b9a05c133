/- alloc.Allocate. -/
import Derived.WalkKit
import Derived.KernelRfl
import Derived.RowKit3
import Derived.Deep.LoopGhost
import Derived.Deep.QuietTactic
import Derived.BigQuiet
import Derived.WideLaws
import Derived.Laws.Rows
import Derived.Below
import Derived.Deep.Draws
import Derived.Outline
import Derived.LoopN
import Derived.Handy
import Derived.Laws.Externs
import Derived.Laws.BitsAllLaws
import Derived.Laws.BitsLemmas
import Derived.Deep.DeepCutAuto
import Derived.Deep.CutBlock
import Derived.Deep.RegionHeld3
import Derived.Test.YtnfglfkojngllaaD9
import Derived.Test.YtnfglfkojngllaaO
namespace Go.Proofs.Ytnfglfkojngllaa
open Go.RowKit
set_option linter.unusedVariables false
set_option linter.unusedSimpArgs false
def alV (u l t n : Int) : Int := if l > t ∨ t > n then 0 else if n = l then u else u * (t - l) / (n - l)
def alE (l t n : Int) : Int := if l > t ∨ t > n then 14 else 0
theorem wrap_id {x : Int} (h0 : 0 ≤ x) (h1 : x < 18446744073709551616) : IntKind.u64.wrap x = x := by rw [IntKind.wrap_u64]; omega
theorem share {u l t n : Int} (u0 : 0 ≤ u) (u1 : u < 18446744073709551616) (h1 : l ≤ t) (h2 : t ≤ n) (h3 : n ≠ l) :
    mdE u.toNat (t - l).toNat (n - l).toNat = 0 ∧ lim (mdV u.toNat (t - l).toNat (n - l).toNat) 0 = u * (t - l) / (n - l) := by
  obtain ⟨U, rfl⟩ := Int.eq_ofNat_of_zero_le u0
  obtain ⟨D, hD⟩ := Int.eq_ofNat_of_zero_le (show 0 ≤ t - l by omega)
  obtain ⟨E, hE⟩ := Int.eq_ofNat_of_zero_le (show 0 ≤ n - l by omega)
  rw [hD, hE, Int.toNat_natCast, Int.toNat_natCast, Int.toNat_natCast]
  have hE0 : 0 < E := by omega
  have hU : U < M256 := by unfold M256; omega
  have hlt : U * D < M256 * E := Nat.lt_of_le_of_lt (Nat.mul_le_mul_left U (show D ≤ E by omega)) (Nat.mul_lt_mul_of_pos_right hU hE0)
  refine ⟨mdE_zero.mpr hlt, ?_⟩
  rw [mdV_eq hlt, lim0]
  have hle : U * D / E ≤ U := Nat.div_le_of_le_mul (by rw [Nat.mul_comm E]; exact Nat.mul_le_mul_left U (by omega))
  rw [Nat.mod_eq_of_lt (by omega)]
  simp
theorem alV_eq {u l t n : Int} (h1 : l ≤ t) (h2 : t ≤ n) : alE l t n = 0 ∧ alV u l t n = if n = l then u else u * (t - l) / (n - l) := by
  have hn : ¬ (l > t ∨ t > n) := by omega
  rw [alE, alV, if_neg hn, if_neg hn]
  exact ⟨rfl, rfl⟩
set_option maxHeartbeats 4000000 in
theorem alloc_c {u l t n : Int} (u0 : 0 ≤ u) (u1 : u < 18446744073709551616) (l0 : 0 ≤ l) (l1 : l < 18446744073709551616) (t0 : 0 ≤ t) (t1 : t < 18446744073709551616) (n0 : 0 ≤ n) (n1 : n < 18446744073709551616) (w : World) :
    Calls Try.prog 7 #[.int .u64 u, .int .u64 l, .int .u64 t, .int .u64 n] w fun e w' => e = .returned (.tuple #[.int .u64 (alV u l t n), .int .i64 (alE l t n)]) ∧ Below w.heap.size w w' := by
  rw [alV, alE]
  by_cases h1 : l > t
  · rw [if_pos (.inl h1), if_pos (.inl h1)]
    go_enter Try.func7, Try.ntmps7
    go_wp2
    go_returns
    exact ⟨rfl, (by (repeat' (first | (with_reducible exact Below.refl _ _) | (with_reducible assumption) | (with_reducible refine Below.alloc ?_ ?_ _) | (with_reducible refine Below.drew ?_) | (with_reducible refine below_drewN ?_ _) | (with_reducible refine Below.setCell ?_ ?_ _) | (with_reducible refine below_step (by with_reducible assumption) ?_ ?_) | (first | (with_reducible exact Nat.le_refl _) | (with_reducible assumption) | omega | (simp only [World.size_alloc, World.size_setCell, World.size_drew, size_drewN]; omega) | (simp; omega) | (simp; done)))))⟩
  have h1' : l ≤ t := by omega
  by_cases h2 : t > n
  · rw [if_pos (.inr h2), if_pos (.inr h2)]
    go_enter Try.func7, Try.ntmps7
    go_wp2
    go_returns
    exact ⟨rfl, (by (repeat' (first | (with_reducible exact Below.refl _ _) | (with_reducible assumption) | (with_reducible refine Below.alloc ?_ ?_ _) | (with_reducible refine Below.drew ?_) | (with_reducible refine below_drewN ?_ _) | (with_reducible refine Below.setCell ?_ ?_ _) | (with_reducible refine below_step (by with_reducible assumption) ?_ ?_) | (first | (with_reducible exact Nat.le_refl _) | (with_reducible assumption) | omega | (simp only [World.size_alloc, World.size_setCell, World.size_drew, size_drewN]; omega) | (simp; omega) | (simp; done)))))⟩
  have h2' : t ≤ n := by omega
  have hn : ¬ (l > t ∨ t > n) := by omega
  rw [if_neg hn, if_neg hn]
  clear hn
  by_cases h3 : n = l
  · rw [if_pos h3]
    have h3' : (n == l) = true := by simpa using h3
    have h4 : t = l := by omega
    subst h3 h4
    clear h1 h2 h3'
    go_enter Try.func7, Try.ntmps7
    go_wp2
    go_returns
    exact ⟨rfl, (by (repeat' (first | (with_reducible exact Below.refl _ _) | (with_reducible assumption) | (with_reducible refine Below.alloc ?_ ?_ _) | (with_reducible refine Below.drew ?_) | (with_reducible refine below_drewN ?_ _) | (with_reducible refine Below.setCell ?_ ?_ _) | (with_reducible refine below_step (by with_reducible assumption) ?_ ?_) | (first | (with_reducible exact Nat.le_refl _) | (with_reducible assumption) | omega | (simp only [World.size_alloc, World.size_setCell, World.size_drew, size_drewN]; omega) | (simp; omega) | (simp; done)))))⟩
  · rw [if_neg h3]
    have h3' : (n == l) = false := by simpa using h3
    obtain ⟨s1, s2⟩ := share u0 u1 h1' h2' h3
    have w1 : IntKind.u64.wrap (t - l) = t - l := wrap_id (by omega) (by omega)
    have w2 : IntKind.u64.wrap (n - l) = n - l := wrap_id (by omega) (by omega)
    have HU := hide (isU_one u0 u1)
    have HT := hide (isU_one (n := t - l) (by omega) (by omega))
    have HN := hide (isU_one (n := n - l) (by omega) (by omega))
    clear h1 h2 h3
    go_enter Try.func7, Try.ntmps7
    go_wp2_with fail
    refine (from_c _ _).mono ?_
    rintro e w1 ⟨rfl, hb1⟩
    have hs1 := hb1.size
    try simp only [World.size_alloc, World.size_setCell, World.size_drew, size_drewN] at hs1
    go_wp2_with fail
    refine (from_c _ _).mono ?_
    rintro e w2 ⟨rfl, hb2⟩
    have hs2 := hb2.size
    try simp only [World.size_alloc, World.size_setCell, World.size_drew, size_drewN] at hs2
    go_wp2_with fail
    refine (from_c _ _).mono ?_
    rintro e w3 ⟨rfl, hb3⟩
    have hs3 := hb3.size
    try simp only [World.size_alloc, World.size_setCell, World.size_drew, size_drewN] at hs3
    go_wp2_with fail
    refine (floor_c HU.out HT.out HN.out _).mono ?_
    rintro e w4 ⟨rfl, hb4⟩
    have hs4 := hb4.size
    try simp only [World.size_alloc, World.size_setCell, World.size_drew, size_drewN] at hs4
    go_wp2
    go_returns
    exact ⟨rfl, (by (repeat' (first | (with_reducible exact Below.refl _ _) | (with_reducible assumption) | (with_reducible refine Below.alloc ?_ ?_ _) | (with_reducible refine Below.drew ?_) | (with_reducible refine below_drewN ?_ _) | (with_reducible refine Below.setCell ?_ ?_ _) | (with_reducible refine below_step (by with_reducible assumption) ?_ ?_) | (first | (with_reducible exact Nat.le_refl _) | (with_reducible assumption) | omega | (simp only [World.size_alloc, World.size_setCell, World.size_drew, size_drewN]; omega) | (simp; omega) | (simp; done)))))⟩
theorem tmod_ex {x K : Int} (h : 0 ≤ x) (hK : 0 < K) : ∃ y, x.tmod K = y ∧ 0 ≤ y ∧ y < K := ⟨_, rfl, Int.tmod_nonneg _ h, Int.tmod_lt_of_pos _ hK⟩
theorem div_le_div' {a b c : Int} (h : a ≤ b) (hc : 0 < c) : a / c ≤ b / c := Int.ediv_le_ediv hc h
theorem al_ex : alV 100 10 20 40 = 33 ∧ alE 10 20 40 = 0 ∧ alE 10 9 40 = 14 := by decide
set_option maxHeartbeats 4000000 in
theorem awake18_c (w : World) : Calls Try.prog 9 #[] w fun e w' => e = .returned (.bool true) ∧ Below w.heap.size w w' := by
  obtain ⟨f1, f2, f3⟩ := al_ex
  go_enter Try.func9, Try.ntmps9
  go_wp2_with fail
  refine (alloc_c (by omega) (by omega) (by omega) (by omega) (by omega) (by omega) (by omega) (by omega) _).mono ?_
  rintro e w1 ⟨rfl, hb1⟩
  have hs1 := hb1.size
  try simp only [World.size_alloc, World.size_setCell, World.size_drew, size_drewN] at hs1
  go_wp2_with fail
  refine (alloc_c (by omega) (by omega) (by omega) (by omega) (by omega) (by omega) (by omega) (by omega) _).mono ?_
  rintro e w2 ⟨rfl, hb2⟩
  have hs2 := hb2.size
  try simp only [World.size_alloc, World.size_setCell, World.size_drew, size_drewN] at hs2
  go_wp2
  go_ret
  exact ⟨rfl, (by (repeat' (first | (with_reducible exact Below.refl _ _) | (with_reducible assumption) | (with_reducible refine Below.alloc ?_ ?_ _) | (with_reducible refine Below.drew ?_) | (with_reducible refine below_drewN ?_ _) | (with_reducible refine Below.setCell ?_ ?_ _) | (with_reducible refine below_step (by with_reducible assumption) ?_ ?_) | (first | (with_reducible exact Nat.le_refl _) | (with_reducible assumption) | omega | (simp only [World.size_alloc, World.size_setCell, World.size_drew, size_drewN]; omega) | (simp; omega) | (simp; done)))))⟩
end Go.Proofs.Ytnfglfkojngllaa
