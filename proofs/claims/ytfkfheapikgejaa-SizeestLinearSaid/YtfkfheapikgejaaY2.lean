/- sizeest, walked: Cost and its reference. -/
import Derived.WalkKit
import Derived.KernelRfl
import Derived.RowKit3
import Derived.Deep.LoopGhost
import Derived.Deep.QuietTactic
import Derived.BigQuiet
import Derived.WideLaws
import Derived.Laws.Rows
import Derived.Below
import Derived.Deep.Draws
import Derived.Outline
import Derived.LoopN
import Derived.Handy
import Derived.Laws.Externs
import Derived.Laws.BitsAllLaws
import Derived.Laws.BitsLemmas
import Derived.Deep.DeepCutAuto
import Derived.Deep.CutBlock
import Derived.Deep.RegionHeld3
import Derived.Test.YtfkfheapikgejaaUM
import Derived.Test.YtfkfheapikgejaaR8
import Derived.Test.YtfkfheapikgejaaY1
namespace Go.Proofs.Ytfkfheapikgejaa
open Go.RowKit
set_option linter.unusedVariables false
set_option linter.unusedSimpArgs false
theorem cutW {f : World → Prop} {W : World} (H : World → Prop) (h1 : H W) (h2 : ∀ W', H W' → f W') : f W := h2 W h1
set_option maxHeartbeats 4000000 in
theorem cost_c {A : Nat} {a0 a1 a2 a3 u : Int} (uA : isU A a0 a1 a2 a3) (b0 : 0 ≤ u) (b1 : u < 18446744073709551616) (w : World) :
    Calls Try.prog 14 #[.int .u64 u, .agg #[.int .u64 a0, .int .u64 a1, .int .u64 a2, .int .u64 a3]] w fun e w' => e = .returned (.tuple #[.agg #[.int .u64 (lim (mulV u.toNat A) 0), .int .u64 (lim (mulV u.toNat A) 1), .int .u64 (lim (mulV u.toNat A) 2), .int .u64 (lim (mulV u.toNat A) 3)], .int .i64 (mulE u.toNat A)]) ∧ Below w.heap.size w w' := by
  obtain ⟨rfl, rfl, rfl, rfl⟩ := uA.lims
  have HA := hide uA
  have HU := hide (isU_one b0 b1)
  clear uA
  go_enter Try.func14, Try.ntmps14
  go_wp2_with fail
  go_region_held3 (fun w' => w'.cell? ⟨w.heap.size, 0, none⟩ = some (.int .u64 (lim A 0)) ∧ w'.cell? ⟨w.heap.size, 1, none⟩ = some (.int .u64 (lim A 1)) ∧ w'.cell? ⟨w.heap.size, 2, none⟩ = some (.int .u64 (lim A 2)) ∧ w'.cell? ⟨w.heap.size, 3, none⟩ = some (.int .u64 (lim A 3))) (simp (maxDischargeDepth := 16) [go_sem, *, World.cell?_alloc_some, World.cell?_setCell_far]) (first | (go_at_call 21; (with_reducible refine (from_c _ _).mono ?_); rintro e w1 ⟨rfl, hb1⟩; (have hs1 := hb1.size); (try simp only [World.size_alloc, World.size_setCell, World.size_drew, size_drewN] at hs1); (have hc1_0 : ∀ o, w1.cell? ⟨w.heap.size, o, none⟩ = _ := fun o => hb1.cell (p := ⟨w.heap.size, o, none⟩) (by ((try simp only [World.size_alloc, World.size_setCell, World.size_drew, size_drewN]); omega))); (have hf1_0 : ∀ o, w1.frozen? ⟨w.heap.size, o, none⟩ = _ := fun o => hb1.frozen (p := ⟨w.heap.size, o, none⟩) (by ((try simp only [World.size_alloc, World.size_setCell, World.size_drew, size_drewN]); omega))); (have z1_0 : w.heap.size < w1.heap.size := (by omega)); (have hc1_1 : ∀ o, w1.cell? ⟨w.heap.size + 1, o, none⟩ = _ := fun o => hb1.cell (p := ⟨w.heap.size + 1, o, none⟩) (by ((try simp only [World.size_alloc, World.size_setCell, World.size_drew, size_drewN]); omega))); (have hf1_1 : ∀ o, w1.frozen? ⟨w.heap.size + 1, o, none⟩ = _ := fun o => hb1.frozen (p := ⟨w.heap.size + 1, o, none⟩) (by ((try simp only [World.size_alloc, World.size_setCell, World.size_drew, size_drewN]); omega))); (have z1_1 : w.heap.size + 1 < w1.heap.size := (by omega))) | (go_at_call 20; (with_reducible refine (mul_c HU.out HA.out _).mono ?_); rintro e w2 ⟨rfl, hb2⟩; (have hs2 := hb2.size); (try simp only [World.size_alloc, World.size_setCell, World.size_drew, size_drewN] at hs2); (have hc2_0 : ∀ o, w2.cell? ⟨w.heap.size, o, none⟩ = _ := fun o => hb2.cell (p := ⟨w.heap.size, o, none⟩) (by ((try simp only [World.size_alloc, World.size_setCell, World.size_drew, size_drewN]); omega))); (have hf2_0 : ∀ o, w2.frozen? ⟨w.heap.size, o, none⟩ = _ := fun o => hb2.frozen (p := ⟨w.heap.size, o, none⟩) (by ((try simp only [World.size_alloc, World.size_setCell, World.size_drew, size_drewN]); omega))); (have z2_0 : w.heap.size < w2.heap.size := (by omega)); (have hc2_1 : ∀ o, w2.cell? ⟨w.heap.size + 1, o, none⟩ = _ := fun o => hb2.cell (p := ⟨w.heap.size + 1, o, none⟩) (by ((try simp only [World.size_alloc, World.size_setCell, World.size_drew, size_drewN]); omega))); (have hf2_1 : ∀ o, w2.frozen? ⟨w.heap.size + 1, o, none⟩ = _ := fun o => hb2.frozen (p := ⟨w.heap.size + 1, o, none⟩) (by ((try simp only [World.size_alloc, World.size_setCell, World.size_drew, size_drewN]); omega))); (have z2_1 : w.heap.size + 1 < w2.heap.size := (by omega))))
  go_wp2
  refine cutW (fun W => Box W (w.heap.size + 1) (lim (mulV u.toNat A) 0) (lim (mulV u.toNat A) 1) (lim (mulV u.toNat A) 2) (lim (mulV u.toNat A) 3) ∧ Below w.heap.size w W) ?_ ?_
  · refine ⟨?_, (by (repeat' (first | (with_reducible exact Below.refl _ _) | (with_reducible assumption) | (with_reducible refine Below.alloc ?_ ?_ _) | (with_reducible refine Below.drew ?_) | (with_reducible refine below_drewN ?_ _) | (with_reducible refine Below.setCell ?_ ?_ _) | (with_reducible refine below_step (by with_reducible assumption) ?_ ?_) | (first | (with_reducible exact Nat.le_refl _) | (with_reducible assumption) | omega | (simp only [World.size_alloc, World.size_setCell, World.size_drew, size_drewN]; omega) | (simp; omega) | (simp; done)))))⟩ <;> (constructor <;> (first | (simp only [World.size_alloc, World.size_setCell, World.size_drew, size_drewN]; omega) | (simp (maxDischargeDepth := 16) [go_sem, *, World.cell?_alloc_some, World.cell?_setCell_far]; done)))
  rintro W ⟨bx0, hbW⟩
  obtain ⟨rc00, rc01, rc02, rc03, rf00, rf01, rf02, rf03, rlt0⟩ := bx0
  refine bodyPost_ret ?_ rfl ⟨rfl, hbW⟩
  simp [results, Try.results14, go_sem, rc00, rc01, rc02, rc03]
set_option maxHeartbeats 4000000 in
theorem rcost_c {A : Nat} {a0 a1 a2 a3 u : Int} (uA : isU A a0 a1 a2 a3) (b0 : 0 ≤ u) (b1 : u < 18446744073709551616) (w : World) :
    Calls Try.prog 15 #[.int .u64 u, .agg #[.int .u64 a0, .int .u64 a1, .int .u64 a2, .int .u64 a3]] w fun e w' => e = .returned (.tuple #[.agg #[.int .u64 (lim (mulV u.toNat A) 0), .int .u64 (lim (mulV u.toNat A) 1), .int .u64 (lim (mulV u.toNat A) 2), .int .u64 (lim (mulV u.toNat A) 3)], .int .i64 (mulE u.toNat A)]) ∧ Below w.heap.size w w' := by
  obtain ⟨rfl, rfl, rfl, rfl⟩ := uA.lims
  have HX := hide (isU_one b0 b1)
  have hx4 := HX.out.lims
  have e0 : lim u.toNat 0 = u := hx4.1.symm
  have e1 : lim u.toNat 1 = 0 := hx4.2.1.symm
  have e2 : lim u.toNat 2 = 0 := hx4.2.2.1.symm
  have e3 : lim u.toNat 3 = 0 := hx4.2.2.2.symm
  have F := fun w => mul256_c HX.out.lt uA.lt w
  rw [e0, e1, e2, e3] at F
  replace F := hide F
  clear uA HX hx4 e0 e1 e2 e3
  go_enter Try.func15, Try.ntmps15
  go_wp2_with fail
  refine (F.out _).mono ?_
  rintro e w1 ⟨rfl, hb1⟩
  have hs1 := hb1.size
  try simp only [World.size_alloc, World.size_setCell, World.size_drew, size_drewN] at hs1
  have hc1_0 : ∀ o, w1.cell? ⟨w.heap.size, o, none⟩ = _ := fun o => hb1.cell (p := ⟨w.heap.size, o, none⟩) (by ((try simp only [World.size_alloc, World.size_setCell, World.size_drew, size_drewN]); omega))
  have hf1_0 : ∀ o, w1.frozen? ⟨w.heap.size, o, none⟩ = _ := fun o => hb1.frozen (p := ⟨w.heap.size, o, none⟩) (by ((try simp only [World.size_alloc, World.size_setCell, World.size_drew, size_drewN]); omega))
  have z1_0 : w.heap.size < w1.heap.size := (by omega)
  have hc1_1 : ∀ o, w1.cell? ⟨w.heap.size + 1, o, none⟩ = _ := fun o => hb1.cell (p := ⟨w.heap.size + 1, o, none⟩) (by ((try simp only [World.size_alloc, World.size_setCell, World.size_drew, size_drewN]); omega))
  have hf1_1 : ∀ o, w1.frozen? ⟨w.heap.size + 1, o, none⟩ = _ := fun o => hb1.frozen (p := ⟨w.heap.size + 1, o, none⟩) (by ((try simp only [World.size_alloc, World.size_setCell, World.size_drew, size_drewN]); omega))
  have z1_1 : w.heap.size + 1 < w1.heap.size := (by omega)
  go_wp2
  refine cutW (fun W => Box W (w.heap.size + 1) (lim (mulV u.toNat A) 0) (lim (mulV u.toNat A) 1) (lim (mulV u.toNat A) 2) (lim (mulV u.toNat A) 3) ∧ Below w.heap.size w W) ?_ ?_
  · refine ⟨?_, (by (repeat' (first | (with_reducible exact Below.refl _ _) | (with_reducible assumption) | (with_reducible refine Below.alloc ?_ ?_ _) | (with_reducible refine Below.drew ?_) | (with_reducible refine below_drewN ?_ _) | (with_reducible refine Below.setCell ?_ ?_ _) | (with_reducible refine below_step (by with_reducible assumption) ?_ ?_) | (first | (with_reducible exact Nat.le_refl _) | (with_reducible assumption) | omega | (simp only [World.size_alloc, World.size_setCell, World.size_drew, size_drewN]; omega) | (simp; omega) | (simp; done)))))⟩ <;> (constructor <;> (first | (simp only [World.size_alloc, World.size_setCell, World.size_drew, size_drewN]; omega) | (simp (maxDischargeDepth := 16) [go_sem, *, World.cell?_alloc_some, World.cell?_setCell_far]; done)))
  rintro W ⟨bx0, hbW⟩
  obtain ⟨rc00, rc01, rc02, rc03, rf00, rf01, rf02, rf03, rlt0⟩ := bx0
  refine bodyPost_ret ?_ rfl ⟨rfl, hbW⟩
  simp [results, Try.results15, go_sem, rc00, rc01, rc02, rc03]
end Go.Proofs.Ytfkfheapikgejaa
