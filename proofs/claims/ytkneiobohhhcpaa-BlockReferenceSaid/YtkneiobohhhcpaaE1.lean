/- bips: Scale, Split, Exp, ScaleExp. -/
import Derived.WalkKit
import Derived.KernelRfl
import Derived.RowKit3
import Derived.Deep.LoopGhost
import Derived.Deep.QuietTactic
import Derived.BigQuiet
import Derived.WideLaws
import Derived.Laws.Rows
import Derived.Below
import Derived.Deep.Draws
import Derived.Outline
import Derived.LoopN
import Derived.Handy
import Derived.Laws.Externs
import Derived.Laws.BitsAllLaws
import Derived.Laws.BitsLemmas
import Derived.Deep.DeepCutAuto
import Derived.Deep.CutBlock
import Derived.Deep.RegionHeld3
import Derived.Test.YtkneiobohhhcpaaE0
namespace Go.Proofs.Ytkneiobohhhcpaa
open Go.RowKit
set_option linter.unusedVariables false
set_option linter.unusedSimpArgs false
theorem wrap_id {x : Int} (h0 : 0 ≤ x) (h1 : x < 18446744073709551616) : IntKind.u64.wrap x = x := by rw [IntKind.wrap_u64]; omega
set_option maxHeartbeats 4000000 in
theorem scale_c {A : Nat} {a0 a1 a2 a3 b : Int} (uA : isU A a0 a1 a2 a3) (b0 : 0 ≤ b) (b1 : b < 18446744073709551616) (w : World) :
    Calls Try.prog 32 #[.agg #[.int .u64 a0, .int .u64 a1, .int .u64 a2, .int .u64 a3], .int .u64 b] w fun e w' => e = .returned (.tuple #[.agg #[.int .u64 (lim (mdV A b.toNat 10000) 0), .int .u64 (lim (mdV A b.toNat 10000) 1), .int .u64 (lim (mdV A b.toNat 10000) 2), .int .u64 (lim (mdV A b.toNat 10000) 3)], .int .i64 (mdE A b.toNat 10000)]) ∧ Below w.heap.size w w' := by
  obtain ⟨rfl, rfl, rfl, rfl⟩ := uA.lims
  have HA := hide uA
  have HB := hide (isU_one b0 b1)
  have HT := hide (show isU 10000 10000 0 0 0 by constructor <;> omega)
  clear uA
  go_enter Try.func32, Try.ntmps32
  go_wp2_with fail
  go_region_held3 (fun w' => w'.cell? ⟨w.heap.size, 0, none⟩ = some (.int .u64 (lim A 0)) ∧ w'.cell? ⟨w.heap.size, 1, none⟩ = some (.int .u64 (lim A 1)) ∧ w'.cell? ⟨w.heap.size, 2, none⟩ = some (.int .u64 (lim A 2)) ∧ w'.cell? ⟨w.heap.size, 3, none⟩ = some (.int .u64 (lim A 3))) (simp (maxDischargeDepth := 16) [go_sem, *, World.cell?_alloc_some, World.cell?_setCell_far]) (first | (go_at_call 22; (with_reducible refine (from_c _ _).mono ?_); rintro e w1 ⟨rfl, hb1⟩; (have hs1 := hb1.size); (try simp only [World.size_alloc, World.size_setCell, World.size_drew, size_drewN] at hs1); (have hc1_0 : ∀ o, w1.cell? ⟨w.heap.size, o, none⟩ = _ := fun o => hb1.cell (p := ⟨w.heap.size, o, none⟩) (by ((try simp only [World.size_alloc, World.size_setCell, World.size_drew, size_drewN]); omega))); (have hf1_0 : ∀ o, w1.frozen? ⟨w.heap.size, o, none⟩ = _ := fun o => hb1.frozen (p := ⟨w.heap.size, o, none⟩) (by ((try simp only [World.size_alloc, World.size_setCell, World.size_drew, size_drewN]); omega))); (have z1_0 : w.heap.size < w1.heap.size := (by omega)); (have hc1_1 : ∀ o, w1.cell? ⟨w.heap.size + 1, o, none⟩ = _ := fun o => hb1.cell (p := ⟨w.heap.size + 1, o, none⟩) (by ((try simp only [World.size_alloc, World.size_setCell, World.size_drew, size_drewN]); omega))); (have hf1_1 : ∀ o, w1.frozen? ⟨w.heap.size + 1, o, none⟩ = _ := fun o => hb1.frozen (p := ⟨w.heap.size + 1, o, none⟩) (by ((try simp only [World.size_alloc, World.size_setCell, World.size_drew, size_drewN]); omega))); (have z1_1 : w.heap.size + 1 < w1.heap.size := (by omega))) | (go_at_call 47; (with_reducible refine (floor_c HA.out HB.out HT.out _).mono ?_); rintro e w2 ⟨rfl, hb2⟩; (have hs2 := hb2.size); (try simp only [World.size_alloc, World.size_setCell, World.size_drew, size_drewN] at hs2); (have hc2_0 : ∀ o, w2.cell? ⟨w.heap.size, o, none⟩ = _ := fun o => hb2.cell (p := ⟨w.heap.size, o, none⟩) (by ((try simp only [World.size_alloc, World.size_setCell, World.size_drew, size_drewN]); omega))); (have hf2_0 : ∀ o, w2.frozen? ⟨w.heap.size, o, none⟩ = _ := fun o => hb2.frozen (p := ⟨w.heap.size, o, none⟩) (by ((try simp only [World.size_alloc, World.size_setCell, World.size_drew, size_drewN]); omega))); (have z2_0 : w.heap.size < w2.heap.size := (by omega)); (have hc2_1 : ∀ o, w2.cell? ⟨w.heap.size + 1, o, none⟩ = _ := fun o => hb2.cell (p := ⟨w.heap.size + 1, o, none⟩) (by ((try simp only [World.size_alloc, World.size_setCell, World.size_drew, size_drewN]); omega))); (have hf2_1 : ∀ o, w2.frozen? ⟨w.heap.size + 1, o, none⟩ = _ := fun o => hb2.frozen (p := ⟨w.heap.size + 1, o, none⟩) (by ((try simp only [World.size_alloc, World.size_setCell, World.size_drew, size_drewN]); omega))); (have z2_1 : w.heap.size + 1 < w2.heap.size := (by omega))))
  go_wp2
  refine cutW (fun W => Box W (w.heap.size + 1) (lim (mdV A b.toNat 10000) 0) (lim (mdV A b.toNat 10000) 1) (lim (mdV A b.toNat 10000) 2) (lim (mdV A b.toNat 10000) 3) ∧ Below w.heap.size w W) ?_ ?_
  · refine ⟨?_, (by (repeat' (first | (with_reducible exact Below.refl _ _) | (with_reducible assumption) | (with_reducible refine Below.alloc ?_ ?_ _) | (with_reducible refine Below.drew ?_) | (with_reducible refine below_drewN ?_ _) | (with_reducible refine Below.setCell ?_ ?_ _) | (with_reducible refine below_step (by with_reducible assumption) ?_ ?_) | (first | (with_reducible exact Nat.le_refl _) | (with_reducible assumption) | omega | (simp only [World.size_alloc, World.size_setCell, World.size_drew, size_drewN]; omega) | (simp; omega) | (simp; done)))))⟩ <;> (constructor <;> (first | (simp only [World.size_alloc, World.size_setCell, World.size_drew, size_drewN]; omega) | (simp (maxDischargeDepth := 16) [go_sem, *, World.cell?_alloc_some, World.cell?_setCell_far]; done)))
  rintro W ⟨bx0, hbW⟩
  obtain ⟨rc00, rc01, rc02, rc03, rf00, rf01, rf02, rf03, rlt0⟩ := bx0
  refine bodyPost_ret ?_ rfl ⟨rfl, hbW⟩
  simp [results, Try.results32, go_sem, rc00, rc01, rc02, rc03]
def spV (A : Nat) (b : Int) : Nat := if b > 10000 then 0 else mdV A b.toNat 10000
def spR (A : Nat) (b : Int) : Nat := if b > 10000 then 0 else subV A (mdV A b.toNat 10000)
def spE (b : Int) : Int := if b > 10000 then 2 else 0
theorem sc_ok {A : Nat} {b : Int} (hA : A < M256) (h : b ≤ 10000) : mdE A b.toNat 10000 = 0 ∧ A * b.toNat < M256 * 10000 := by
  have h1 : A * b.toNat < M256 * 10000 := Nat.lt_of_le_of_lt (Nat.mul_le_mul_left A (show b.toNat ≤ 10000 by omega)) (Nat.mul_lt_mul_of_pos_right hA (by omega))
  exact ⟨mdE_zero.mpr h1, h1⟩
set_option maxHeartbeats 8000000 in
theorem exp_c {x t : Int} (x0 : 0 ≤ x) (x1 : x < 18446744073709551616) (w : World) :
    Calls Try.prog 31 #[.int .u64 x, .int .i64 t] w fun e w' => e = .returned (.tuple #[.int .u64 (expV x t), .int .i64 (expE x t)]) ∧ Below w.heap.size w w' := by
  rw [expV, expE]
  by_cases h1 : x > 200000
  · rw [if_pos (.inl h1), if_pos (.inl h1)]
    go_enter Try.func31, Try.ntmps31
    go_wp2
    go_returns
    exact ⟨rfl, (by (repeat' (first | (with_reducible exact Below.refl _ _) | (with_reducible assumption) | (with_reducible refine Below.alloc ?_ ?_ _) | (with_reducible refine Below.drew ?_) | (with_reducible refine below_drewN ?_ _) | (with_reducible refine Below.setCell ?_ ?_ _) | (with_reducible refine below_step (by with_reducible assumption) ?_ ?_) | (first | (with_reducible exact Nat.le_refl _) | (with_reducible assumption) | omega | (simp only [World.size_alloc, World.size_setCell, World.size_drew, size_drewN]; omega) | (simp; omega) | (simp; done)))))⟩
  by_cases h2 : t < 1
  · rw [if_pos (.inr (.inl h2)), if_pos (.inr (.inl h2))]
    have h1' : x ≤ 200000 := by omega
    clear h1
    go_enter Try.func31, Try.ntmps31
    go_wp2
    go_returns
    exact ⟨rfl, (by (repeat' (first | (with_reducible exact Below.refl _ _) | (with_reducible assumption) | (with_reducible refine Below.alloc ?_ ?_ _) | (with_reducible refine Below.drew ?_) | (with_reducible refine below_drewN ?_ _) | (with_reducible refine Below.setCell ?_ ?_ _) | (with_reducible refine below_step (by with_reducible assumption) ?_ ?_) | (first | (with_reducible exact Nat.le_refl _) | (with_reducible assumption) | omega | (simp only [World.size_alloc, World.size_setCell, World.size_drew, size_drewN]; omega) | (simp; omega) | (simp; done)))))⟩
  by_cases h3 : t > 20
  · rw [if_pos (.inr (.inr h3)), if_pos (.inr (.inr h3))]
    have h1' : x ≤ 200000 := by omega
    have h2' : 1 ≤ t := by omega
    clear h1 h2
    go_enter Try.func31, Try.ntmps31
    go_wp2
    go_returns
    exact ⟨rfl, (by (repeat' (first | (with_reducible exact Below.refl _ _) | (with_reducible assumption) | (with_reducible refine Below.alloc ?_ ?_ _) | (with_reducible refine Below.drew ?_) | (with_reducible refine below_drewN ?_ _) | (with_reducible refine Below.setCell ?_ ?_ _) | (with_reducible refine below_step (by with_reducible assumption) ?_ ?_) | (first | (with_reducible exact Nat.le_refl _) | (with_reducible assumption) | omega | (simp only [World.size_alloc, World.size_setCell, World.size_drew, size_drewN]; omega) | (simp; omega) | (simp; done)))))⟩
  have hn : ¬ (x > 200000 ∨ t < 1 ∨ t > 20) := by omega
  rw [if_neg hn, if_neg hn]
  obtain ⟨T, rfl⟩ := Int.eq_ofNat_of_zero_le (show 0 ≤ t by omega)
  rw [Int.toNat_natCast]
  have h1' : x ≤ 200000 := by omega
  have h2' : (1 : Int) ≤ (T : Int) := by omega
  have h3' : (T : Int) ≤ 20 := by omega
  clear h1 h2 h3 hn
  go_enter Try.func31, Try.ntmps31
  go_wp2
  go_loopw [6, 7] (fun v6 v7 wr => ∃ (i : Nat) (h : Int), v7 = .int .i64 i ∧ v6 = .int .u64 h ∧ i ≤ 20 ∧ 0 ≤ h ∧ Hid (h ≤ bnd i ∧ expGo x i h = expGo x T 10000) ∧ Hid (Below w.heap.size w wr)) (fun _ v7 _ => (intOf v7).toNat)
  case atStart => exact ⟨T, 10000, rfl, rfl, by omega, by omega, hide ⟨by have := (bnd_top T (by omega)).1; omega, rfl⟩, hide (by (repeat' (first | (with_reducible exact Below.refl _ _) | (with_reducible assumption) | (with_reducible refine Below.alloc ?_ ?_ _) | (with_reducible refine Below.drew ?_) | (with_reducible refine below_drewN ?_ _) | (with_reducible refine Below.setCell ?_ ?_ _) | (with_reducible refine below_step (by with_reducible assumption) ?_ ?_) | (first | (with_reducible exact Nat.le_refl _) | (with_reducible assumption) | omega | (simp only [World.size_alloc, World.size_setCell, World.size_drew, size_drewN]; omega) | (simp; omega) | (simp; done)))))⟩
  case round =>
    obtain ⟨i, h, rfl, rfl, hi, h0, HX, HB⟩ := hrel
    have hb := HB.out
    rcases i with _ | k
    · have hf : expGo x T 10000 = h := HX.out.2.symm
      go_wp2
      refine bodyPost_ret ?_ rfl ⟨by rw [hf], (by (repeat' (first | (with_reducible exact Below.refl _ _) | (with_reducible assumption) | (with_reducible refine Below.alloc ?_ ?_ _) | (with_reducible refine Below.drew ?_) | (with_reducible refine below_drewN ?_ _) | (with_reducible refine Below.setCell ?_ ?_ _) | (with_reducible refine below_step (by with_reducible assumption) ?_ ?_) | (first | (with_reducible exact Nat.le_refl _) | (with_reducible assumption) | omega | (simp only [World.size_alloc, World.size_setCell, World.size_drew, size_drewN]; omega) | (simp; omega) | (simp; done)))))⟩
      simp [results, Try.results31, go_sem]
    · obtain ⟨s1, s2, s3, s4, s5⟩ := exp_step (by omega) x0 h1' h0 HX.out.1
      have f1 : IntKind.u64.wrap (h * x) = h * x := wrap_id s1 (by omega)
      have f2 : IntKind.u64.wrap ((k : Int) + 1) = (k : Int) + 1 := wrap_id (by omega) (by omega)
      have f3 : IntKind.u64.wrap (((k : Int) + 1) * 10000) = ((k : Int) + 1) * 10000 := wrap_id (by omega) (by omega)
      have f4 : (h * x).tdiv (((k : Int) + 1) * 10000) = h * x / (((k : Int) + 1) * 10000) := Int.tdiv_eq_ediv_of_nonneg s1
      have s6 : 0 ≤ h * x / (((k : Int) + 1) * 10000) := by omega
      have f5 : IntKind.u64.wrap (10000 + h * x / (((k : Int) + 1) * 10000)) = 10000 + h * x / (((k : Int) + 1) * 10000) := wrap_id (by omega) (by omega)
      have f6 : IntKind.u64.wrap (h * x / (((k : Int) + 1) * 10000)) = h * x / (((k : Int) + 1) * 10000) := wrap_id s6 (by omega)
      have f7 : ¬ ((k : Int) + 1) * 10000 = 0 := by omega
      have f8 : (((k : Int) + 1) * 10000 == 0) = false := by simp; omega
      have f9 : (1 : Int) ≤ (k : Int) + 1 := by omega
      have HS := hide (And.intro s3 s4)
      clear s1 s2 s3 s4 s5 s6
      go_wp2
      go_roundw
      case rel =>
        refine ⟨k, 10000 + h * x / (((k : Int) + 1) * 10000), by go_num, by go_num, by omega, by have := HS.out.1; omega, hide ⟨HS.out.2, HX.out.2⟩, hide (by (repeat' (first | (with_reducible exact Below.refl _ _) | (with_reducible assumption) | (with_reducible refine Below.alloc ?_ ?_ _) | (with_reducible refine Below.drew ?_) | (with_reducible refine below_drewN ?_ _) | (with_reducible refine Below.setCell ?_ ?_ _) | (with_reducible refine below_step (by with_reducible assumption) ?_ ?_) | (first | (with_reducible exact Nat.le_refl _) | (with_reducible assumption) | omega | (simp only [World.size_alloc, World.size_setCell, World.size_drew, size_drewN]; omega) | (simp; omega) | (simp; done)))))⟩
      case measure => first | (simp [intOf]; done) | (simp [intOf]; omega)
theorem exp_ex : expV 10000 1 = 20000 ∧ expE 10000 1 = 0 ∧ expV 10000 4 = 27083 ∧ expE 10000 4 = 0 ∧ spV 10 2500 = 2 ∧ spR 10 2500 = 8 ∧ spE 2500 = 0 := by decide
end Go.Proofs.Ytkneiobohhhcpaa
