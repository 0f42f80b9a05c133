/- muldiv.MulDivCeil. -/
import Derived.WalkKit
import Derived.KernelRfl
import Derived.RowKit3
import Derived.Deep.LoopGhost
import Derived.Deep.QuietTactic
import Derived.BigQuiet
import Derived.WideLaws
import Derived.Laws.Rows
import Derived.Below
import Derived.Deep.Draws
import Derived.Outline
import Derived.LoopN
import Derived.Handy
import Derived.Laws.Externs
import Derived.Laws.BitsAllLaws
import Derived.Laws.BitsLemmas
import Derived.Deep.DeepCutAuto
import Derived.Deep.CutBlock
import Derived.Deep.RegionHeld3
import Derived.Test.YtjgodkpeapeflaaD7
namespace Go.Proofs.Ytjgodkpeapeflaa
open Go.RowKit
set_option linter.unusedVariables false
set_option linter.unusedSimpArgs false
/-- a * b / c rounded up; the error. -/
def mcV (A B C : Nat) : Nat := if mdE A B C = 0 ∧ mdR A B C ≠ 0 then addV (mdV A B C) 1 else mdV A B C
def mcE (A B C : Nat) : Int := if mdE A B C = 0 ∧ mdR A B C ≠ 0 then addE (mdV A B C) 1 else mdE A B C
theorem mcV_lt (A B C : Nat) : mcV A B C < M256 := by
  unfold mcV
  split
  · exact addV_lt _ _
  · exact mdV_lt _ _ _
set_option maxHeartbeats 4000000 in
theorem ceil_c {A B C : Nat} {a0 a1 a2 a3 b0 b1 b2 b3 c0 c1 c2 c3 : Int} (uA : isU A a0 a1 a2 a3) (uB : isU B b0 b1 b2 b3) (uC : isU C c0 c1 c2 c3) (w : World) :
    Calls Try.prog 18 #[.agg #[.int .u64 a0, .int .u64 a1, .int .u64 a2, .int .u64 a3], .agg #[.int .u64 b0, .int .u64 b1, .int .u64 b2, .int .u64 b3], .agg #[.int .u64 c0, .int .u64 c1, .int .u64 c2, .int .u64 c3]] w fun e w' => e = .returned (.tuple #[.agg #[.int .u64 (lim (mcV A B C) 0), .int .u64 (lim (mcV A B C) 1), .int .u64 (lim (mcV A B C) 2), .int .u64 (lim (mcV A B C) 3)], .int .i64 (mcE A B C)]) ∧ Below w.heap.size w w' := by
  have h1 : isU 1 1 0 0 0 := by constructor <;> omega
  have HA := hide uA
  have HB := hide uB
  have HC := hide uC
  have H1 := hide h1
  have HLo := hide (isU_lim (loV_lt A B))
  have HHi := hide (isU_lim (hiV_lt uA.lt uB.lt))
  have HQ := hide (isU_lim (mdV_lt A B C))
  have hzt := zero_test (divR_lt (L := loV A B) (H := hiV A B) uC.lt)
  clear uA uB uC h1
  by_cases he : mdE A B C = 0
  · have he' : (divE (hiV A B) C != 0) = false := by rw [show divE (hiV A B) C = 0 from he]; rfl
    by_cases hr : mdR A B C = 0
    · rw [mcV, mcE, if_neg (fun h => h.2 hr), if_neg (fun h => h.2 hr), mdV, mdE]
      have hzt' : (lim (divR (loV A B) (hiV A B) C) 0 == 0 && (lim (divR (loV A B) (hiV A B) C) 1 == 0 && (lim (divR (loV A B) (hiV A B) C) 2 == 0 && lim (divR (loV A B) (hiV A B) C) 3 == 0))) = true := hzt.trans (by simpa [mdR] using hr)
      clear hzt he hr HQ
      go_enter Try.func18, Try.ntmps18
      go_wp2_with fail
      refine (mdmul_c HA.out HB.out _).mono ?_
      rintro e w1 ⟨rfl, hb1⟩
      have hs1 := hb1.size
      try simp only [World.size_alloc, World.size_setCell, World.size_drew, size_drewN] at hs1
      have hc1_0 : ∀ o, w1.cell? ⟨w.heap.size, o, none⟩ = _ := fun o => hb1.cell (p := ⟨w.heap.size, o, none⟩) (by ((try simp only [World.size_alloc, World.size_setCell, World.size_drew, size_drewN]); omega))
      have hf1_0 : ∀ o, w1.frozen? ⟨w.heap.size, o, none⟩ = _ := fun o => hb1.frozen (p := ⟨w.heap.size, o, none⟩) (by ((try simp only [World.size_alloc, World.size_setCell, World.size_drew, size_drewN]); omega))
      have z1_0 : w.heap.size < w1.heap.size := (by omega)
      have hc1_1 : ∀ o, w1.cell? ⟨w.heap.size + 1, o, none⟩ = _ := fun o => hb1.cell (p := ⟨w.heap.size + 1, o, none⟩) (by ((try simp only [World.size_alloc, World.size_setCell, World.size_drew, size_drewN]); omega))
      have hf1_1 : ∀ o, w1.frozen? ⟨w.heap.size + 1, o, none⟩ = _ := fun o => hb1.frozen (p := ⟨w.heap.size + 1, o, none⟩) (by ((try simp only [World.size_alloc, World.size_setCell, World.size_drew, size_drewN]); omega))
      have z1_1 : w.heap.size + 1 < w1.heap.size := (by omega)
      have hc1_2 : ∀ o, w1.cell? ⟨w.heap.size + 1 + 1, o, none⟩ = _ := fun o => hb1.cell (p := ⟨w.heap.size + 1 + 1, o, none⟩) (by ((try simp only [World.size_alloc, World.size_setCell, World.size_drew, size_drewN]); omega))
      have hf1_2 : ∀ o, w1.frozen? ⟨w.heap.size + 1 + 1, o, none⟩ = _ := fun o => hb1.frozen (p := ⟨w.heap.size + 1 + 1, o, none⟩) (by ((try simp only [World.size_alloc, World.size_setCell, World.size_drew, size_drewN]); omega))
      have z1_2 : w.heap.size + 1 + 1 < w1.heap.size := (by omega)
      have hc1_3 : ∀ o, w1.cell? ⟨w.heap.size + 1 + 1 + 1, o, none⟩ = _ := fun o => hb1.cell (p := ⟨w.heap.size + 1 + 1 + 1, o, none⟩) (by ((try simp only [World.size_alloc, World.size_setCell, World.size_drew, size_drewN]); omega))
      have hf1_3 : ∀ o, w1.frozen? ⟨w.heap.size + 1 + 1 + 1, o, none⟩ = _ := fun o => hb1.frozen (p := ⟨w.heap.size + 1 + 1 + 1, o, none⟩) (by ((try simp only [World.size_alloc, World.size_setCell, World.size_drew, size_drewN]); omega))
      have z1_3 : w.heap.size + 1 + 1 + 1 < w1.heap.size := (by omega)
      go_wp2_with fail
      refine (div512_c HLo.out HHi.out HC.out _).mono ?_
      rintro e w2 ⟨rfl, hb2⟩
      have hs2 := hb2.size
      try simp only [World.size_alloc, World.size_setCell, World.size_drew, size_drewN] at hs2
      have hc2_0 : ∀ o, w2.cell? ⟨w.heap.size, o, none⟩ = _ := fun o => hb2.cell (p := ⟨w.heap.size, o, none⟩) (by ((try simp only [World.size_alloc, World.size_setCell, World.size_drew, size_drewN]); omega))
      have hf2_0 : ∀ o, w2.frozen? ⟨w.heap.size, o, none⟩ = _ := fun o => hb2.frozen (p := ⟨w.heap.size, o, none⟩) (by ((try simp only [World.size_alloc, World.size_setCell, World.size_drew, size_drewN]); omega))
      have z2_0 : w.heap.size < w2.heap.size := (by omega)
      have hc2_1 : ∀ o, w2.cell? ⟨w.heap.size + 1, o, none⟩ = _ := fun o => hb2.cell (p := ⟨w.heap.size + 1, o, none⟩) (by ((try simp only [World.size_alloc, World.size_setCell, World.size_drew, size_drewN]); omega))
      have hf2_1 : ∀ o, w2.frozen? ⟨w.heap.size + 1, o, none⟩ = _ := fun o => hb2.frozen (p := ⟨w.heap.size + 1, o, none⟩) (by ((try simp only [World.size_alloc, World.size_setCell, World.size_drew, size_drewN]); omega))
      have z2_1 : w.heap.size + 1 < w2.heap.size := (by omega)
      have hc2_2 : ∀ o, w2.cell? ⟨w.heap.size + 1 + 1, o, none⟩ = _ := fun o => hb2.cell (p := ⟨w.heap.size + 1 + 1, o, none⟩) (by ((try simp only [World.size_alloc, World.size_setCell, World.size_drew, size_drewN]); omega))
      have hf2_2 : ∀ o, w2.frozen? ⟨w.heap.size + 1 + 1, o, none⟩ = _ := fun o => hb2.frozen (p := ⟨w.heap.size + 1 + 1, o, none⟩) (by ((try simp only [World.size_alloc, World.size_setCell, World.size_drew, size_drewN]); omega))
      have z2_2 : w.heap.size + 1 + 1 < w2.heap.size := (by omega)
      have hc2_3 : ∀ o, w2.cell? ⟨w.heap.size + 1 + 1 + 1, o, none⟩ = _ := fun o => hb2.cell (p := ⟨w.heap.size + 1 + 1 + 1, o, none⟩) (by ((try simp only [World.size_alloc, World.size_setCell, World.size_drew, size_drewN]); omega))
      have hf2_3 : ∀ o, w2.frozen? ⟨w.heap.size + 1 + 1 + 1, o, none⟩ = _ := fun o => hb2.frozen (p := ⟨w.heap.size + 1 + 1 + 1, o, none⟩) (by ((try simp only [World.size_alloc, World.size_setCell, World.size_drew, size_drewN]); omega))
      have z2_3 : w.heap.size + 1 + 1 + 1 < w2.heap.size := (by omega)
      have hc2_4 : ∀ o, w2.cell? ⟨w1.heap.size, o, none⟩ = _ := fun o => hb2.cell (p := ⟨w1.heap.size, o, none⟩) (by ((try simp only [World.size_alloc, World.size_setCell, World.size_drew, size_drewN]); omega))
      have hf2_4 : ∀ o, w2.frozen? ⟨w1.heap.size, o, none⟩ = _ := fun o => hb2.frozen (p := ⟨w1.heap.size, o, none⟩) (by ((try simp only [World.size_alloc, World.size_setCell, World.size_drew, size_drewN]); omega))
      have z2_4 : w1.heap.size < w2.heap.size := (by omega)
      have hc2_5 : ∀ o, w2.cell? ⟨w1.heap.size + 1, o, none⟩ = _ := fun o => hb2.cell (p := ⟨w1.heap.size + 1, o, none⟩) (by ((try simp only [World.size_alloc, World.size_setCell, World.size_drew, size_drewN]); omega))
      have hf2_5 : ∀ o, w2.frozen? ⟨w1.heap.size + 1, o, none⟩ = _ := fun o => hb2.frozen (p := ⟨w1.heap.size + 1, o, none⟩) (by ((try simp only [World.size_alloc, World.size_setCell, World.size_drew, size_drewN]); omega))
      have z2_5 : w1.heap.size + 1 < w2.heap.size := (by omega)
      go_wp2
      refine cutW (fun W => Box W (w.heap.size + 1 + 1 + 1) (lim (divQ (loV A B) (hiV A B) C) 0) (lim (divQ (loV A B) (hiV A B) C) 1) (lim (divQ (loV A B) (hiV A B) C) 2) (lim (divQ (loV A B) (hiV A B) C) 3) ∧ Below w.heap.size w W) ?_ ?_
      · refine ⟨?_, (by (repeat' (first | (with_reducible exact Below.refl _ _) | (with_reducible assumption) | (with_reducible refine Below.alloc ?_ ?_ _) | (with_reducible refine Below.drew ?_) | (with_reducible refine below_drewN ?_ _) | (with_reducible refine Below.setCell ?_ ?_ _) | (with_reducible refine below_step (by with_reducible assumption) ?_ ?_) | (first | (with_reducible exact Nat.le_refl _) | (with_reducible assumption) | omega | (simp only [World.size_alloc, World.size_setCell, World.size_drew, size_drewN]; omega) | (simp; omega) | (simp; done)))))⟩ <;> (constructor <;> (first | (simp only [World.size_alloc, World.size_setCell, World.size_drew, size_drewN]; omega) | (simp (maxDischargeDepth := 16) [go_sem, *, World.cell?_alloc_some, World.cell?_setCell_far]; done)))
      rintro W ⟨bx0, hbW⟩
      obtain ⟨rc00, rc01, rc02, rc03, rf00, rf01, rf02, rf03, rlt0⟩ := bx0
      refine bodyPost_ret ?_ rfl ⟨rfl, hbW⟩
      simp [results, Try.results18, go_sem, rc00, rc01, rc02, rc03]
    · rw [mcV, mcE, if_pos ⟨he, hr⟩, if_pos ⟨he, hr⟩]
      have hzt' : (lim (divR (loV A B) (hiV A B) C) 0 == 0 && (lim (divR (loV A B) (hiV A B) C) 1 == 0 && (lim (divR (loV A B) (hiV A B) C) 2 == 0 && lim (divR (loV A B) (hiV A B) C) 3 == 0))) = false := hzt.trans (by simpa [mdR] using hr)
      rw [mdV] at HQ ⊢
      clear hzt he hr
      go_enter Try.func18, Try.ntmps18
      go_wp2_with fail
      refine (mdmul_c HA.out HB.out _).mono ?_
      rintro e w1 ⟨rfl, hb1⟩
      have hs1 := hb1.size
      try simp only [World.size_alloc, World.size_setCell, World.size_drew, size_drewN] at hs1
      have hc1_0 : ∀ o, w1.cell? ⟨w.heap.size, o, none⟩ = _ := fun o => hb1.cell (p := ⟨w.heap.size, o, none⟩) (by ((try simp only [World.size_alloc, World.size_setCell, World.size_drew, size_drewN]); omega))
      have hf1_0 : ∀ o, w1.frozen? ⟨w.heap.size, o, none⟩ = _ := fun o => hb1.frozen (p := ⟨w.heap.size, o, none⟩) (by ((try simp only [World.size_alloc, World.size_setCell, World.size_drew, size_drewN]); omega))
      have z1_0 : w.heap.size < w1.heap.size := (by omega)
      have hc1_1 : ∀ o, w1.cell? ⟨w.heap.size + 1, o, none⟩ = _ := fun o => hb1.cell (p := ⟨w.heap.size + 1, o, none⟩) (by ((try simp only [World.size_alloc, World.size_setCell, World.size_drew, size_drewN]); omega))
      have hf1_1 : ∀ o, w1.frozen? ⟨w.heap.size + 1, o, none⟩ = _ := fun o => hb1.frozen (p := ⟨w.heap.size + 1, o, none⟩) (by ((try simp only [World.size_alloc, World.size_setCell, World.size_drew, size_drewN]); omega))
      have z1_1 : w.heap.size + 1 < w1.heap.size := (by omega)
      have hc1_2 : ∀ o, w1.cell? ⟨w.heap.size + 1 + 1, o, none⟩ = _ := fun o => hb1.cell (p := ⟨w.heap.size + 1 + 1, o, none⟩) (by ((try simp only [World.size_alloc, World.size_setCell, World.size_drew, size_drewN]); omega))
      have hf1_2 : ∀ o, w1.frozen? ⟨w.heap.size + 1 + 1, o, none⟩ = _ := fun o => hb1.frozen (p := ⟨w.heap.size + 1 + 1, o, none⟩) (by ((try simp only [World.size_alloc, World.size_setCell, World.size_drew, size_drewN]); omega))
      have z1_2 : w.heap.size + 1 + 1 < w1.heap.size := (by omega)
      have hc1_3 : ∀ o, w1.cell? ⟨w.heap.size + 1 + 1 + 1, o, none⟩ = _ := fun o => hb1.cell (p := ⟨w.heap.size + 1 + 1 + 1, o, none⟩) (by ((try simp only [World.size_alloc, World.size_setCell, World.size_drew, size_drewN]); omega))
      have hf1_3 : ∀ o, w1.frozen? ⟨w.heap.size + 1 + 1 + 1, o, none⟩ = _ := fun o => hb1.frozen (p := ⟨w.heap.size + 1 + 1 + 1, o, none⟩) (by ((try simp only [World.size_alloc, World.size_setCell, World.size_drew, size_drewN]); omega))
      have z1_3 : w.heap.size + 1 + 1 + 1 < w1.heap.size := (by omega)
      go_wp2_with fail
      refine (div512_c HLo.out HHi.out HC.out _).mono ?_
      rintro e w2 ⟨rfl, hb2⟩
      have hs2 := hb2.size
      try simp only [World.size_alloc, World.size_setCell, World.size_drew, size_drewN] at hs2
      have hc2_0 : ∀ o, w2.cell? ⟨w.heap.size, o, none⟩ = _ := fun o => hb2.cell (p := ⟨w.heap.size, o, none⟩) (by ((try simp only [World.size_alloc, World.size_setCell, World.size_drew, size_drewN]); omega))
      have hf2_0 : ∀ o, w2.frozen? ⟨w.heap.size, o, none⟩ = _ := fun o => hb2.frozen (p := ⟨w.heap.size, o, none⟩) (by ((try simp only [World.size_alloc, World.size_setCell, World.size_drew, size_drewN]); omega))
      have z2_0 : w.heap.size < w2.heap.size := (by omega)
      have hc2_1 : ∀ o, w2.cell? ⟨w.heap.size + 1, o, none⟩ = _ := fun o => hb2.cell (p := ⟨w.heap.size + 1, o, none⟩) (by ((try simp only [World.size_alloc, World.size_setCell, World.size_drew, size_drewN]); omega))
      have hf2_1 : ∀ o, w2.frozen? ⟨w.heap.size + 1, o, none⟩ = _ := fun o => hb2.frozen (p := ⟨w.heap.size + 1, o, none⟩) (by ((try simp only [World.size_alloc, World.size_setCell, World.size_drew, size_drewN]); omega))
      have z2_1 : w.heap.size + 1 < w2.heap.size := (by omega)
      have hc2_2 : ∀ o, w2.cell? ⟨w.heap.size + 1 + 1, o, none⟩ = _ := fun o => hb2.cell (p := ⟨w.heap.size + 1 + 1, o, none⟩) (by ((try simp only [World.size_alloc, World.size_setCell, World.size_drew, size_drewN]); omega))
      have hf2_2 : ∀ o, w2.frozen? ⟨w.heap.size + 1 + 1, o, none⟩ = _ := fun o => hb2.frozen (p := ⟨w.heap.size + 1 + 1, o, none⟩) (by ((try simp only [World.size_alloc, World.size_setCell, World.size_drew, size_drewN]); omega))
      have z2_2 : w.heap.size + 1 + 1 < w2.heap.size := (by omega)
      have hc2_3 : ∀ o, w2.cell? ⟨w.heap.size + 1 + 1 + 1, o, none⟩ = _ := fun o => hb2.cell (p := ⟨w.heap.size + 1 + 1 + 1, o, none⟩) (by ((try simp only [World.size_alloc, World.size_setCell, World.size_drew, size_drewN]); omega))
      have hf2_3 : ∀ o, w2.frozen? ⟨w.heap.size + 1 + 1 + 1, o, none⟩ = _ := fun o => hb2.frozen (p := ⟨w.heap.size + 1 + 1 + 1, o, none⟩) (by ((try simp only [World.size_alloc, World.size_setCell, World.size_drew, size_drewN]); omega))
      have z2_3 : w.heap.size + 1 + 1 + 1 < w2.heap.size := (by omega)
      have hc2_4 : ∀ o, w2.cell? ⟨w1.heap.size, o, none⟩ = _ := fun o => hb2.cell (p := ⟨w1.heap.size, o, none⟩) (by ((try simp only [World.size_alloc, World.size_setCell, World.size_drew, size_drewN]); omega))
      have hf2_4 : ∀ o, w2.frozen? ⟨w1.heap.size, o, none⟩ = _ := fun o => hb2.frozen (p := ⟨w1.heap.size, o, none⟩) (by ((try simp only [World.size_alloc, World.size_setCell, World.size_drew, size_drewN]); omega))
      have z2_4 : w1.heap.size < w2.heap.size := (by omega)
      have hc2_5 : ∀ o, w2.cell? ⟨w1.heap.size + 1, o, none⟩ = _ := fun o => hb2.cell (p := ⟨w1.heap.size + 1, o, none⟩) (by ((try simp only [World.size_alloc, World.size_setCell, World.size_drew, size_drewN]); omega))
      have hf2_5 : ∀ o, w2.frozen? ⟨w1.heap.size + 1, o, none⟩ = _ := fun o => hb2.frozen (p := ⟨w1.heap.size + 1, o, none⟩) (by ((try simp only [World.size_alloc, World.size_setCell, World.size_drew, size_drewN]); omega))
      have z2_5 : w1.heap.size + 1 < w2.heap.size := (by omega)
      go_wp2_with fail
      go_region_held3 (fun w' => w'.cell? ⟨w2.heap.size, 0, none⟩ = some (.int .u64 (lim (divQ (loV A B) (hiV A B) C) 0)) ∧ w'.cell? ⟨w2.heap.size, 1, none⟩ = some (.int .u64 (lim (divQ (loV A B) (hiV A B) C) 1)) ∧ w'.cell? ⟨w2.heap.size, 2, none⟩ = some (.int .u64 (lim (divQ (loV A B) (hiV A B) C) 2)) ∧ w'.cell? ⟨w2.heap.size, 3, none⟩ = some (.int .u64 (lim (divQ (loV A B) (hiV A B) C) 3))) (simp (maxDischargeDepth := 16) [go_sem, *, World.cell?_alloc_some, World.cell?_setCell_far]) (first | (go_at_call 38; (with_reducible refine (from_c _ _).mono ?_); rintro e w3 ⟨rfl, hb3⟩; (have hs3 := hb3.size); (try simp only [World.size_alloc, World.size_setCell, World.size_drew, size_drewN] at hs3); (have hc3_0 : ∀ o, w3.cell? ⟨w.heap.size, o, none⟩ = _ := fun o => hb3.cell (p := ⟨w.heap.size, o, none⟩) (by ((try simp only [World.size_alloc, World.size_setCell, World.size_drew, size_drewN]); omega))); (have hf3_0 : ∀ o, w3.frozen? ⟨w.heap.size, o, none⟩ = _ := fun o => hb3.frozen (p := ⟨w.heap.size, o, none⟩) (by ((try simp only [World.size_alloc, World.size_setCell, World.size_drew, size_drewN]); omega))); (have z3_0 : w.heap.size < w3.heap.size := (by omega)); (have hc3_1 : ∀ o, w3.cell? ⟨w.heap.size + 1, o, none⟩ = _ := fun o => hb3.cell (p := ⟨w.heap.size + 1, o, none⟩) (by ((try simp only [World.size_alloc, World.size_setCell, World.size_drew, size_drewN]); omega))); (have hf3_1 : ∀ o, w3.frozen? ⟨w.heap.size + 1, o, none⟩ = _ := fun o => hb3.frozen (p := ⟨w.heap.size + 1, o, none⟩) (by ((try simp only [World.size_alloc, World.size_setCell, World.size_drew, size_drewN]); omega))); (have z3_1 : w.heap.size + 1 < w3.heap.size := (by omega)); (have hc3_2 : ∀ o, w3.cell? ⟨w.heap.size + 1 + 1, o, none⟩ = _ := fun o => hb3.cell (p := ⟨w.heap.size + 1 + 1, o, none⟩) (by ((try simp only [World.size_alloc, World.size_setCell, World.size_drew, size_drewN]); omega))); (have hf3_2 : ∀ o, w3.frozen? ⟨w.heap.size + 1 + 1, o, none⟩ = _ := fun o => hb3.frozen (p := ⟨w.heap.size + 1 + 1, o, none⟩) (by ((try simp only [World.size_alloc, World.size_setCell, World.size_drew, size_drewN]); omega))); (have z3_2 : w.heap.size + 1 + 1 < w3.heap.size := (by omega)); (have hc3_3 : ∀ o, w3.cell? ⟨w.heap.size + 1 + 1 + 1, o, none⟩ = _ := fun o => hb3.cell (p := ⟨w.heap.size + 1 + 1 + 1, o, none⟩) (by ((try simp only [World.size_alloc, World.size_setCell, World.size_drew, size_drewN]); omega))); (have hf3_3 : ∀ o, w3.frozen? ⟨w.heap.size + 1 + 1 + 1, o, none⟩ = _ := fun o => hb3.frozen (p := ⟨w.heap.size + 1 + 1 + 1, o, none⟩) (by ((try simp only [World.size_alloc, World.size_setCell, World.size_drew, size_drewN]); omega))); (have z3_3 : w.heap.size + 1 + 1 + 1 < w3.heap.size := (by omega)); (have hc3_4 : ∀ o, w3.cell? ⟨w1.heap.size, o, none⟩ = _ := fun o => hb3.cell (p := ⟨w1.heap.size, o, none⟩) (by ((try simp only [World.size_alloc, World.size_setCell, World.size_drew, size_drewN]); omega))); (have hf3_4 : ∀ o, w3.frozen? ⟨w1.heap.size, o, none⟩ = _ := fun o => hb3.frozen (p := ⟨w1.heap.size, o, none⟩) (by ((try simp only [World.size_alloc, World.size_setCell, World.size_drew, size_drewN]); omega))); (have z3_4 : w1.heap.size < w3.heap.size := (by omega)); (have hc3_5 : ∀ o, w3.cell? ⟨w1.heap.size + 1, o, none⟩ = _ := fun o => hb3.cell (p := ⟨w1.heap.size + 1, o, none⟩) (by ((try simp only [World.size_alloc, World.size_setCell, World.size_drew, size_drewN]); omega))); (have hf3_5 : ∀ o, w3.frozen? ⟨w1.heap.size + 1, o, none⟩ = _ := fun o => hb3.frozen (p := ⟨w1.heap.size + 1, o, none⟩) (by ((try simp only [World.size_alloc, World.size_setCell, World.size_drew, size_drewN]); omega))); (have z3_5 : w1.heap.size + 1 < w3.heap.size := (by omega)); (have hc3_6 : ∀ o, w3.cell? ⟨w2.heap.size, o, none⟩ = _ := fun o => hb3.cell (p := ⟨w2.heap.size, o, none⟩) (by ((try simp only [World.size_alloc, World.size_setCell, World.size_drew, size_drewN]); omega))); (have hf3_6 : ∀ o, w3.frozen? ⟨w2.heap.size, o, none⟩ = _ := fun o => hb3.frozen (p := ⟨w2.heap.size, o, none⟩) (by ((try simp only [World.size_alloc, World.size_setCell, World.size_drew, size_drewN]); omega))); (have z3_6 : w2.heap.size < w3.heap.size := (by omega)); (have hc3_7 : ∀ o, w3.cell? ⟨w2.heap.size + 1, o, none⟩ = _ := fun o => hb3.cell (p := ⟨w2.heap.size + 1, o, none⟩) (by ((try simp only [World.size_alloc, World.size_setCell, World.size_drew, size_drewN]); omega))); (have hf3_7 : ∀ o, w3.frozen? ⟨w2.heap.size + 1, o, none⟩ = _ := fun o => hb3.frozen (p := ⟨w2.heap.size + 1, o, none⟩) (by ((try simp only [World.size_alloc, World.size_setCell, World.size_drew, size_drewN]); omega))); (have z3_7 : w2.heap.size + 1 < w3.heap.size := (by omega))) | (go_at_call 21; (with_reducible refine (add_c HQ.out H1.out _).mono ?_); rintro e w4 ⟨rfl, hb4⟩; (have hs4 := hb4.size); (try simp only [World.size_alloc, World.size_setCell, World.size_drew, size_drewN] at hs4); (have hc4_0 : ∀ o, w4.cell? ⟨w.heap.size, o, none⟩ = _ := fun o => hb4.cell (p := ⟨w.heap.size, o, none⟩) (by ((try simp only [World.size_alloc, World.size_setCell, World.size_drew, size_drewN]); omega))); (have hf4_0 : ∀ o, w4.frozen? ⟨w.heap.size, o, none⟩ = _ := fun o => hb4.frozen (p := ⟨w.heap.size, o, none⟩) (by ((try simp only [World.size_alloc, World.size_setCell, World.size_drew, size_drewN]); omega))); (have z4_0 : w.heap.size < w4.heap.size := (by omega)); (have hc4_1 : ∀ o, w4.cell? ⟨w.heap.size + 1, o, none⟩ = _ := fun o => hb4.cell (p := ⟨w.heap.size + 1, o, none⟩) (by ((try simp only [World.size_alloc, World.size_setCell, World.size_drew, size_drewN]); omega))); (have hf4_1 : ∀ o, w4.frozen? ⟨w.heap.size + 1, o, none⟩ = _ := fun o => hb4.frozen (p := ⟨w.heap.size + 1, o, none⟩) (by ((try simp only [World.size_alloc, World.size_setCell, World.size_drew, size_drewN]); omega))); (have z4_1 : w.heap.size + 1 < w4.heap.size := (by omega)); (have hc4_2 : ∀ o, w4.cell? ⟨w.heap.size + 1 + 1, o, none⟩ = _ := fun o => hb4.cell (p := ⟨w.heap.size + 1 + 1, o, none⟩) (by ((try simp only [World.size_alloc, World.size_setCell, World.size_drew, size_drewN]); omega))); (have hf4_2 : ∀ o, w4.frozen? ⟨w.heap.size + 1 + 1, o, none⟩ = _ := fun o => hb4.frozen (p := ⟨w.heap.size + 1 + 1, o, none⟩) (by ((try simp only [World.size_alloc, World.size_setCell, World.size_drew, size_drewN]); omega))); (have z4_2 : w.heap.size + 1 + 1 < w4.heap.size := (by omega)); (have hc4_3 : ∀ o, w4.cell? ⟨w.heap.size + 1 + 1 + 1, o, none⟩ = _ := fun o => hb4.cell (p := ⟨w.heap.size + 1 + 1 + 1, o, none⟩) (by ((try simp only [World.size_alloc, World.size_setCell, World.size_drew, size_drewN]); omega))); (have hf4_3 : ∀ o, w4.frozen? ⟨w.heap.size + 1 + 1 + 1, o, none⟩ = _ := fun o => hb4.frozen (p := ⟨w.heap.size + 1 + 1 + 1, o, none⟩) (by ((try simp only [World.size_alloc, World.size_setCell, World.size_drew, size_drewN]); omega))); (have z4_3 : w.heap.size + 1 + 1 + 1 < w4.heap.size := (by omega)); (have hc4_4 : ∀ o, w4.cell? ⟨w1.heap.size, o, none⟩ = _ := fun o => hb4.cell (p := ⟨w1.heap.size, o, none⟩) (by ((try simp only [World.size_alloc, World.size_setCell, World.size_drew, size_drewN]); omega))); (have hf4_4 : ∀ o, w4.frozen? ⟨w1.heap.size, o, none⟩ = _ := fun o => hb4.frozen (p := ⟨w1.heap.size, o, none⟩) (by ((try simp only [World.size_alloc, World.size_setCell, World.size_drew, size_drewN]); omega))); (have z4_4 : w1.heap.size < w4.heap.size := (by omega)); (have hc4_5 : ∀ o, w4.cell? ⟨w1.heap.size + 1, o, none⟩ = _ := fun o => hb4.cell (p := ⟨w1.heap.size + 1, o, none⟩) (by ((try simp only [World.size_alloc, World.size_setCell, World.size_drew, size_drewN]); omega))); (have hf4_5 : ∀ o, w4.frozen? ⟨w1.heap.size + 1, o, none⟩ = _ := fun o => hb4.frozen (p := ⟨w1.heap.size + 1, o, none⟩) (by ((try simp only [World.size_alloc, World.size_setCell, World.size_drew, size_drewN]); omega))); (have z4_5 : w1.heap.size + 1 < w4.heap.size := (by omega)); (have hc4_6 : ∀ o, w4.cell? ⟨w2.heap.size, o, none⟩ = _ := fun o => hb4.cell (p := ⟨w2.heap.size, o, none⟩) (by ((try simp only [World.size_alloc, World.size_setCell, World.size_drew, size_drewN]); omega))); (have hf4_6 : ∀ o, w4.frozen? ⟨w2.heap.size, o, none⟩ = _ := fun o => hb4.frozen (p := ⟨w2.heap.size, o, none⟩) (by ((try simp only [World.size_alloc, World.size_setCell, World.size_drew, size_drewN]); omega))); (have z4_6 : w2.heap.size < w4.heap.size := (by omega)); (have hc4_7 : ∀ o, w4.cell? ⟨w2.heap.size + 1, o, none⟩ = _ := fun o => hb4.cell (p := ⟨w2.heap.size + 1, o, none⟩) (by ((try simp only [World.size_alloc, World.size_setCell, World.size_drew, size_drewN]); omega))); (have hf4_7 : ∀ o, w4.frozen? ⟨w2.heap.size + 1, o, none⟩ = _ := fun o => hb4.frozen (p := ⟨w2.heap.size + 1, o, none⟩) (by ((try simp only [World.size_alloc, World.size_setCell, World.size_drew, size_drewN]); omega))); (have z4_7 : w2.heap.size + 1 < w4.heap.size := (by omega))))
      go_wp2
      refine cutW (fun W => Box W (w.heap.size + 1 + 1 + 1) (lim (addV (divQ (loV A B) (hiV A B) C) 1) 0) (lim (addV (divQ (loV A B) (hiV A B) C) 1) 1) (lim (addV (divQ (loV A B) (hiV A B) C) 1) 2) (lim (addV (divQ (loV A B) (hiV A B) C) 1) 3) ∧ Below w.heap.size w W) ?_ ?_
      · refine ⟨?_, (by (repeat' (first | (with_reducible exact Below.refl _ _) | (with_reducible assumption) | (with_reducible refine Below.alloc ?_ ?_ _) | (with_reducible refine Below.drew ?_) | (with_reducible refine below_drewN ?_ _) | (with_reducible refine Below.setCell ?_ ?_ _) | (with_reducible refine below_step (by with_reducible assumption) ?_ ?_) | (first | (with_reducible exact Nat.le_refl _) | (with_reducible assumption) | omega | (simp only [World.size_alloc, World.size_setCell, World.size_drew, size_drewN]; omega) | (simp; omega) | (simp; done)))))⟩ <;> (constructor <;> (first | (simp only [World.size_alloc, World.size_setCell, World.size_drew, size_drewN]; omega) | (simp (maxDischargeDepth := 16) [go_sem, *, World.cell?_alloc_some, World.cell?_setCell_far]; done)))
      rintro W ⟨bx0, hbW⟩
      obtain ⟨rc00, rc01, rc02, rc03, rf00, rf01, rf02, rf03, rlt0⟩ := bx0
      refine bodyPost_ret ?_ rfl ⟨rfl, hbW⟩
      simp [results, Try.results18, go_sem, rc00, rc01, rc02, rc03]
  · rw [mcV, mcE, if_neg (fun h => he h.1), if_neg (fun h => he h.1), mdV, mdE]
    have he' : (divE (hiV A B) C != 0) = true := by simpa [mdE] using he
    clear hzt he HQ
    go_enter Try.func18, Try.ntmps18
    go_wp2_with fail
    refine (mdmul_c HA.out HB.out _).mono ?_
    rintro e w1 ⟨rfl, hb1⟩
    have hs1 := hb1.size
    try simp only [World.size_alloc, World.size_setCell, World.size_drew, size_drewN] at hs1
    have hc1_0 : ∀ o, w1.cell? ⟨w.heap.size, o, none⟩ = _ := fun o => hb1.cell (p := ⟨w.heap.size, o, none⟩) (by ((try simp only [World.size_alloc, World.size_setCell, World.size_drew, size_drewN]); omega))
    have hf1_0 : ∀ o, w1.frozen? ⟨w.heap.size, o, none⟩ = _ := fun o => hb1.frozen (p := ⟨w.heap.size, o, none⟩) (by ((try simp only [World.size_alloc, World.size_setCell, World.size_drew, size_drewN]); omega))
    have z1_0 : w.heap.size < w1.heap.size := (by omega)
    have hc1_1 : ∀ o, w1.cell? ⟨w.heap.size + 1, o, none⟩ = _ := fun o => hb1.cell (p := ⟨w.heap.size + 1, o, none⟩) (by ((try simp only [World.size_alloc, World.size_setCell, World.size_drew, size_drewN]); omega))
    have hf1_1 : ∀ o, w1.frozen? ⟨w.heap.size + 1, o, none⟩ = _ := fun o => hb1.frozen (p := ⟨w.heap.size + 1, o, none⟩) (by ((try simp only [World.size_alloc, World.size_setCell, World.size_drew, size_drewN]); omega))
    have z1_1 : w.heap.size + 1 < w1.heap.size := (by omega)
    have hc1_2 : ∀ o, w1.cell? ⟨w.heap.size + 1 + 1, o, none⟩ = _ := fun o => hb1.cell (p := ⟨w.heap.size + 1 + 1, o, none⟩) (by ((try simp only [World.size_alloc, World.size_setCell, World.size_drew, size_drewN]); omega))
    have hf1_2 : ∀ o, w1.frozen? ⟨w.heap.size + 1 + 1, o, none⟩ = _ := fun o => hb1.frozen (p := ⟨w.heap.size + 1 + 1, o, none⟩) (by ((try simp only [World.size_alloc, World.size_setCell, World.size_drew, size_drewN]); omega))
    have z1_2 : w.heap.size + 1 + 1 < w1.heap.size := (by omega)
    have hc1_3 : ∀ o, w1.cell? ⟨w.heap.size + 1 + 1 + 1, o, none⟩ = _ := fun o => hb1.cell (p := ⟨w.heap.size + 1 + 1 + 1, o, none⟩) (by ((try simp only [World.size_alloc, World.size_setCell, World.size_drew, size_drewN]); omega))
    have hf1_3 : ∀ o, w1.frozen? ⟨w.heap.size + 1 + 1 + 1, o, none⟩ = _ := fun o => hb1.frozen (p := ⟨w.heap.size + 1 + 1 + 1, o, none⟩) (by ((try simp only [World.size_alloc, World.size_setCell, World.size_drew, size_drewN]); omega))
    have z1_3 : w.heap.size + 1 + 1 + 1 < w1.heap.size := (by omega)
    go_wp2_with fail
    refine (div512_c HLo.out HHi.out HC.out _).mono ?_
    rintro e w2 ⟨rfl, hb2⟩
    have hs2 := hb2.size
    try simp only [World.size_alloc, World.size_setCell, World.size_drew, size_drewN] at hs2
    have hc2_0 : ∀ o, w2.cell? ⟨w.heap.size, o, none⟩ = _ := fun o => hb2.cell (p := ⟨w.heap.size, o, none⟩) (by ((try simp only [World.size_alloc, World.size_setCell, World.size_drew, size_drewN]); omega))
    have hf2_0 : ∀ o, w2.frozen? ⟨w.heap.size, o, none⟩ = _ := fun o => hb2.frozen (p := ⟨w.heap.size, o, none⟩) (by ((try simp only [World.size_alloc, World.size_setCell, World.size_drew, size_drewN]); omega))
    have z2_0 : w.heap.size < w2.heap.size := (by omega)
    have hc2_1 : ∀ o, w2.cell? ⟨w.heap.size + 1, o, none⟩ = _ := fun o => hb2.cell (p := ⟨w.heap.size + 1, o, none⟩) (by ((try simp only [World.size_alloc, World.size_setCell, World.size_drew, size_drewN]); omega))
    have hf2_1 : ∀ o, w2.frozen? ⟨w.heap.size + 1, o, none⟩ = _ := fun o => hb2.frozen (p := ⟨w.heap.size + 1, o, none⟩) (by ((try simp only [World.size_alloc, World.size_setCell, World.size_drew, size_drewN]); omega))
    have z2_1 : w.heap.size + 1 < w2.heap.size := (by omega)
    have hc2_2 : ∀ o, w2.cell? ⟨w.heap.size + 1 + 1, o, none⟩ = _ := fun o => hb2.cell (p := ⟨w.heap.size + 1 + 1, o, none⟩) (by ((try simp only [World.size_alloc, World.size_setCell, World.size_drew, size_drewN]); omega))
    have hf2_2 : ∀ o, w2.frozen? ⟨w.heap.size + 1 + 1, o, none⟩ = _ := fun o => hb2.frozen (p := ⟨w.heap.size + 1 + 1, o, none⟩) (by ((try simp only [World.size_alloc, World.size_setCell, World.size_drew, size_drewN]); omega))
    have z2_2 : w.heap.size + 1 + 1 < w2.heap.size := (by omega)
    have hc2_3 : ∀ o, w2.cell? ⟨w.heap.size + 1 + 1 + 1, o, none⟩ = _ := fun o => hb2.cell (p := ⟨w.heap.size + 1 + 1 + 1, o, none⟩) (by ((try simp only [World.size_alloc, World.size_setCell, World.size_drew, size_drewN]); omega))
    have hf2_3 : ∀ o, w2.frozen? ⟨w.heap.size + 1 + 1 + 1, o, none⟩ = _ := fun o => hb2.frozen (p := ⟨w.heap.size + 1 + 1 + 1, o, none⟩) (by ((try simp only [World.size_alloc, World.size_setCell, World.size_drew, size_drewN]); omega))
    have z2_3 : w.heap.size + 1 + 1 + 1 < w2.heap.size := (by omega)
    have hc2_4 : ∀ o, w2.cell? ⟨w1.heap.size, o, none⟩ = _ := fun o => hb2.cell (p := ⟨w1.heap.size, o, none⟩) (by ((try simp only [World.size_alloc, World.size_setCell, World.size_drew, size_drewN]); omega))
    have hf2_4 : ∀ o, w2.frozen? ⟨w1.heap.size, o, none⟩ = _ := fun o => hb2.frozen (p := ⟨w1.heap.size, o, none⟩) (by ((try simp only [World.size_alloc, World.size_setCell, World.size_drew, size_drewN]); omega))
    have z2_4 : w1.heap.size < w2.heap.size := (by omega)
    have hc2_5 : ∀ o, w2.cell? ⟨w1.heap.size + 1, o, none⟩ = _ := fun o => hb2.cell (p := ⟨w1.heap.size + 1, o, none⟩) (by ((try simp only [World.size_alloc, World.size_setCell, World.size_drew, size_drewN]); omega))
    have hf2_5 : ∀ o, w2.frozen? ⟨w1.heap.size + 1, o, none⟩ = _ := fun o => hb2.frozen (p := ⟨w1.heap.size + 1, o, none⟩) (by ((try simp only [World.size_alloc, World.size_setCell, World.size_drew, size_drewN]); omega))
    have z2_5 : w1.heap.size + 1 < w2.heap.size := (by omega)
    go_wp2
    refine cutW (fun W => Box W (w.heap.size + 1 + 1 + 1) (lim (divQ (loV A B) (hiV A B) C) 0) (lim (divQ (loV A B) (hiV A B) C) 1) (lim (divQ (loV A B) (hiV A B) C) 2) (lim (divQ (loV A B) (hiV A B) C) 3) ∧ Below w.heap.size w W) ?_ ?_
    · refine ⟨?_, (by (repeat' (first | (with_reducible exact Below.refl _ _) | (with_reducible assumption) | (with_reducible refine Below.alloc ?_ ?_ _) | (with_reducible refine Below.drew ?_) | (with_reducible refine below_drewN ?_ _) | (with_reducible refine Below.setCell ?_ ?_ _) | (with_reducible refine below_step (by with_reducible assumption) ?_ ?_) | (first | (with_reducible exact Nat.le_refl _) | (with_reducible assumption) | omega | (simp only [World.size_alloc, World.size_setCell, World.size_drew, size_drewN]; omega) | (simp; omega) | (simp; done)))))⟩ <;> (constructor <;> (first | (simp only [World.size_alloc, World.size_setCell, World.size_drew, size_drewN]; omega) | (simp (maxDischargeDepth := 16) [go_sem, *, World.cell?_alloc_some, World.cell?_setCell_far]; done)))
    rintro W ⟨bx0, hbW⟩
    obtain ⟨rc00, rc01, rc02, rc03, rf00, rf01, rf02, rf03, rlt0⟩ := bx0
    refine bodyPost_ret ?_ rfl ⟨rfl, hbW⟩
    simp [results, Try.results18, go_sem, rc00, rc01, rc02, rc03]
end Go.Proofs.Ytjgodkpeapeflaa
