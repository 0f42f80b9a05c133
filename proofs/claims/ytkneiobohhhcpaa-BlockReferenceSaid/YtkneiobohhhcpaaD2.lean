/- muldiv.Div512, walked: the loop's relation. -/
import Derived.WalkKit
import Derived.KernelRfl
import Derived.RowKit3
import Derived.Deep.LoopGhost
import Derived.Deep.QuietTactic
import Derived.BigQuiet
import Derived.WideLaws
import Derived.Laws.Rows
import Derived.Below
import Derived.Deep.Draws
import Derived.Outline
import Derived.LoopN
import Derived.Handy
import Derived.Laws.Externs
import Derived.Laws.BitsAllLaws
import Derived.Laws.BitsLemmas
import Derived.Deep.DeepCutAuto
import Derived.Deep.CutBlock
import Derived.Deep.RegionHeld3
import Derived.Deep.RegionLaw
import Derived.Test.YtkneiobohhhcpaaD1
import Derived.Test.YtkneiobohhhcpaaD0
namespace Go.Proofs.Ytkneiobohhhcpaa
open Go.RowKit
set_option linter.unusedVariables false
set_option linter.unusedSimpArgs false
theorem zero_test {A : Nat} (h : A < M256) : (lim A 0 == 0 && (lim A 1 == 0 && (lim A 2 == 0 && lim A 3 == 0))) = decide (A = 0) := by
  have hu := isU_lim h
  obtain ⟨p0, p1, p2, p3, q0, q1, q2, q3, v⟩ := hu
  rw [Bool.eq_iff_iff]
  simp only [Bool.and_eq_true, beq_iff_eq, decide_eq_true_eq]
  omega
theorem Box.set0 {w : World} {g : Nat} {a0 a1 a2 a3 : Int} (h : Box w g a0 a1 a2 a3) (x : Int) : Box (w.setCell ⟨g, 0, none⟩ (.int .u64 x)) g x a1 a2 a3 := by
  obtain ⟨c0, c1, c2, c3, f0, f1, f2, f3, lt⟩ := h
  constructor <;> simp [go_sem, *]
theorem Box.set1 {w : World} {g : Nat} {a0 a1 a2 a3 : Int} (h : Box w g a0 a1 a2 a3) (x : Int) : Box (w.setCell ⟨g, 1, none⟩ (.int .u64 x)) g a0 x a2 a3 := by
  obtain ⟨c0, c1, c2, c3, f0, f1, f2, f3, lt⟩ := h
  constructor <;> simp [go_sem, *]
theorem Box.set2 {w : World} {g : Nat} {a0 a1 a2 a3 : Int} (h : Box w g a0 a1 a2 a3) (x : Int) : Box (w.setCell ⟨g, 2, none⟩ (.int .u64 x)) g a0 a1 x a3 := by
  obtain ⟨c0, c1, c2, c3, f0, f1, f2, f3, lt⟩ := h
  constructor <;> simp [go_sem, *]
theorem Box.set3 {w : World} {g : Nat} {a0 a1 a2 a3 : Int} (h : Box w g a0 a1 a2 a3) (x : Int) : Box (w.setCell ⟨g, 3, none⟩ (.int .u64 x)) g a0 a1 a2 x := by
  obtain ⟨c0, c1, c2, c3, f0, f1, f2, f3, lt⟩ := h
  constructor <;> simp [go_sem, *]
theorem cutW {f : World → Prop} {W : World} (H : World → Prop) (h1 : H W) (h2 : ∀ W', H W' → f W') : f W := h2 W h1
def divQ (L H C : Nat) : Nat := if H < C then (L + M256 * H) / C else 0
def divR (L H C : Nat) : Nat := if H < C then (L + M256 * H) % C else 0
def divE (H C : Nat) : Int := if C = 0 then 5 else if H < C then 0 else 4
set_option maxHeartbeats 16000000 in
theorem div512_in {L H C : Nat} (hL : L < M256) (hH : H < M256) (hC : C < M256) (hlt : H < C) (w : World) :
    Calls Try.prog 61 #[.agg #[.int .u64 (lim L 0), .int .u64 (lim L 1), .int .u64 (lim L 2), .int .u64 (lim L 3)], .agg #[.int .u64 (lim H 0), .int .u64 (lim H 1), .int .u64 (lim H 2), .int .u64 (lim H 3)], .agg #[.int .u64 (lim C 0), .int .u64 (lim C 1), .int .u64 (lim C 2), .int .u64 (lim C 3)]] w fun e w' => e = .returned (.tuple #[.agg #[.int .u64 (lim ((L + M256 * H) / C) 0), .int .u64 (lim ((L + M256 * H) / C) 1), .int .u64 (lim ((L + M256 * H) / C) 2), .int .u64 (lim ((L + M256 * H) / C) 3)], .agg #[.int .u64 (lim ((L + M256 * H) % C) 0), .int .u64 (lim ((L + M256 * H) % C) 1), .int .u64 (lim ((L + M256 * H) % C) 2), .int .u64 (lim ((L + M256 * H) % C) 3)], .int .i64 0]) ∧ Below w.heap.size w w' := by
  have hz : (lim C 0 == 0 && (lim C 1 == 0 && (lim C 2 == 0 && lim C 3 == 0))) = false := by rw [zero_test hC]; simp; omega
  have hcm : cmpV H C = -1 := by rw [cmpV, if_pos hlt]
  go_enter Try.func61, Try.ntmps61
  go_wp2_with fail
  refine (cmp_c (isU_lim hH) (isU_lim hC) _).mono ?_
  rintro e w1 ⟨rfl, hb1⟩
  have hs1 := hb1.size
  try simp only [World.size_alloc, World.size_setCell, World.size_drew, size_drewN] at hs1
  have hc1_0 : ∀ o, w1.cell? ⟨w.heap.size, o, none⟩ = _ := fun o => hb1.cell (p := ⟨w.heap.size, o, none⟩) (by ((try simp only [World.size_alloc, World.size_setCell, World.size_drew, size_drewN]); omega))
  have hf1_0 : ∀ o, w1.frozen? ⟨w.heap.size, o, none⟩ = _ := fun o => hb1.frozen (p := ⟨w.heap.size, o, none⟩) (by ((try simp only [World.size_alloc, World.size_setCell, World.size_drew, size_drewN]); omega))
  have z1_0 : w.heap.size < w1.heap.size := (by omega)
  have hc1_1 : ∀ o, w1.cell? ⟨w.heap.size + 1, o, none⟩ = _ := fun o => hb1.cell (p := ⟨w.heap.size + 1, o, none⟩) (by ((try simp only [World.size_alloc, World.size_setCell, World.size_drew, size_drewN]); omega))
  have hf1_1 : ∀ o, w1.frozen? ⟨w.heap.size + 1, o, none⟩ = _ := fun o => hb1.frozen (p := ⟨w.heap.size + 1, o, none⟩) (by ((try simp only [World.size_alloc, World.size_setCell, World.size_drew, size_drewN]); omega))
  have z1_1 : w.heap.size + 1 < w1.heap.size := (by omega)
  have hc1_2 : ∀ o, w1.cell? ⟨w.heap.size + 1 + 1, o, none⟩ = _ := fun o => hb1.cell (p := ⟨w.heap.size + 1 + 1, o, none⟩) (by ((try simp only [World.size_alloc, World.size_setCell, World.size_drew, size_drewN]); omega))
  have hf1_2 : ∀ o, w1.frozen? ⟨w.heap.size + 1 + 1, o, none⟩ = _ := fun o => hb1.frozen (p := ⟨w.heap.size + 1 + 1, o, none⟩) (by ((try simp only [World.size_alloc, World.size_setCell, World.size_drew, size_drewN]); omega))
  have z1_2 : w.heap.size + 1 + 1 < w1.heap.size := (by omega)
  have hc1_3 : ∀ o, w1.cell? ⟨w.heap.size + 1 + 1 + 1, o, none⟩ = _ := fun o => hb1.cell (p := ⟨w.heap.size + 1 + 1 + 1, o, none⟩) (by ((try simp only [World.size_alloc, World.size_setCell, World.size_drew, size_drewN]); omega))
  have hf1_3 : ∀ o, w1.frozen? ⟨w.heap.size + 1 + 1 + 1, o, none⟩ = _ := fun o => hb1.frozen (p := ⟨w.heap.size + 1 + 1 + 1, o, none⟩) (by ((try simp only [World.size_alloc, World.size_setCell, World.size_drew, size_drewN]); omega))
  have z1_3 : w.heap.size + 1 + 1 + 1 < w1.heap.size := (by omega)
  have hc1_4 : ∀ o, w1.cell? ⟨w.heap.size + 1 + 1 + 1 + 1, o, none⟩ = _ := fun o => hb1.cell (p := ⟨w.heap.size + 1 + 1 + 1 + 1, o, none⟩) (by ((try simp only [World.size_alloc, World.size_setCell, World.size_drew, size_drewN]); omega))
  have hf1_4 : ∀ o, w1.frozen? ⟨w.heap.size + 1 + 1 + 1 + 1, o, none⟩ = _ := fun o => hb1.frozen (p := ⟨w.heap.size + 1 + 1 + 1 + 1, o, none⟩) (by ((try simp only [World.size_alloc, World.size_setCell, World.size_drew, size_drewN]); omega))
  have z1_4 : w.heap.size + 1 + 1 + 1 + 1 < w1.heap.size := (by omega)
  go_wp2
  clear hz hcm
  go_loopw [9] (fun v9 wr => ∃ (j Q R : Nat) (x : Int), v9 = .int .i64 x ∧ x = (j : Int) - 1 ∧ j ≤ 256 ∧ Hid (DivS L H C j R Q) ∧ Hid (Box wr (w.heap.size) (lim L 0) (lim L 1) (lim L 2) (lim L 3)) ∧ Hid (Box wr (w.heap.size + 1 + 1) (lim C 0) (lim C 1) (lim C 2) (lim C 3)) ∧ Hid (Box wr (w.heap.size + 1 + 1 + 1) (lim Q 0) (lim Q 1) (lim Q 2) (lim Q 3)) ∧ Hid (Box wr (w.heap.size + 1 + 1 + 1 + 1) (lim R 0) (lim R 1) (lim R 2) (lim R 3)) ∧ Hid (Below w.heap.size w wr)) (fun v9 _ => (intOf v9 + 1).toNat)
  case atStart =>
    refine ⟨256, 0, H, 255, rfl, by omega, by omega, hide (DivS.start hL hlt), hide ?_, hide ?_, hide ?_, hide ?_, hide (by (repeat' (first | (with_reducible exact Below.refl _ _) | (with_reducible assumption) | (with_reducible refine Below.alloc ?_ ?_ _) | (with_reducible refine Below.drew ?_) | (with_reducible refine below_drewN ?_ _) | (with_reducible refine Below.setCell ?_ ?_ _) | (with_reducible refine below_step (by with_reducible assumption) ?_ ?_) | (first | (with_reducible exact Nat.le_refl _) | (with_reducible assumption) | omega | (simp only [World.size_alloc, World.size_setCell, World.size_drew, size_drewN]; omega) | (simp; omega) | (simp; done)))))⟩
    all_goals (constructor <;> (first | (simp only [World.size_alloc, World.size_setCell, World.size_drew, size_drewN]; omega) | (simp (maxDischargeDepth := 16) [go_sem, *, World.cell?_alloc_some, World.cell?_setCell_far]; done) | (simp (maxDischargeDepth := 16) [go_sem, *, World.cell?_alloc_some, World.cell?_setCell_far, lim_zero]; done)))
  case round =>
    obtain ⟨j, Q, R, x, rfl, hx, hj, HD, BL, BC, BQ, BR, HBl⟩ := hrel
    have hbb := HBl.out
    rcases j with _ | k
    · obtain rfl : x = -1 := by omega
      clear hx
      obtain ⟨hQ, hR⟩ := HD.out.done
      obtain ⟨c0, c1, c2, c3, f0, f1, f2, f3, lt0⟩ := BQ.out
      obtain ⟨d0, d1, d2, d3, g0, g1, g2, g3, lt1⟩ := BR.out
      have hE := hide (And.intro hQ hR)
      clear hQ hR
      go_wp2
      go_region
      refine cutW (fun W => Box W (w.heap.size + 1 + 1 + 1) (lim Q 0) (lim Q 1) (lim Q 2) (lim Q 3) ∧ Box W (w.heap.size + 1 + 1 + 1 + 1) (lim R 0) (lim R 1) (lim R 2) (lim R 3) ∧ Below w.heap.size w W) ?_ ?_
      · refine ⟨?_, ?_, (by (repeat' (first | (with_reducible exact Below.refl _ _) | (with_reducible assumption) | (with_reducible refine Below.alloc ?_ ?_ _) | (with_reducible refine Below.drew ?_) | (with_reducible refine below_drewN ?_ _) | (with_reducible refine Below.setCell ?_ ?_ _) | (with_reducible refine below_step (by with_reducible assumption) ?_ ?_) | (first | (with_reducible exact Nat.le_refl _) | (with_reducible assumption) | omega | (simp only [World.size_alloc, World.size_setCell, World.size_drew, size_drewN]; omega) | (simp; omega) | (simp; done)))))⟩
        · have hxQ := BQ.out
          (repeat' (first | (with_reducible assumption) | (with_reducible refine Box.drewN ?_ _) | (with_reducible refine Box.drew ?_) | (with_reducible refine Box.alloc ?_ _) | (refine Box.other ?_ (by intro hh; dsimp only at hh; omega) _) | (refine Box.below ?_ (by with_reducible assumption) ?_) | (with_reducible exact Nat.lt_of_lt_of_le (by assumption) (by assumption)) | (simp only [World.size_alloc, World.size_setCell, World.size_drew, size_drewN]; omega)))
          refine Box.put (a0 := lim Q 0) (a1 := lim Q 1) (a2 := lim Q 2) (a3 := lim Q 3) ?_ _ _ _ _
          (repeat' (first | (with_reducible assumption) | (with_reducible refine Box.drewN ?_ _) | (with_reducible refine Box.drew ?_) | (with_reducible refine Box.alloc ?_ _) | (refine Box.other ?_ (by intro hh; dsimp only at hh; omega) _) | (refine Box.below ?_ (by with_reducible assumption) ?_) | (with_reducible exact Nat.lt_of_lt_of_le (by assumption) (by assumption)) | (simp only [World.size_alloc, World.size_setCell, World.size_drew, size_drewN]; omega)))
        · have hxR := BR.out
          (repeat' (first | (with_reducible assumption) | (with_reducible refine Box.drewN ?_ _) | (with_reducible refine Box.drew ?_) | (with_reducible refine Box.alloc ?_ _) | (refine Box.other ?_ (by intro hh; dsimp only at hh; omega) _) | (refine Box.below ?_ (by with_reducible assumption) ?_) | (with_reducible exact Nat.lt_of_lt_of_le (by assumption) (by assumption)) | (simp only [World.size_alloc, World.size_setCell, World.size_drew, size_drewN]; omega)))
          refine Box.put (a0 := lim R 0) (a1 := lim R 1) (a2 := lim R 2) (a3 := lim R 3) ?_ _ _ _ _
          (repeat' (first | (with_reducible assumption) | (with_reducible refine Box.drewN ?_ _) | (with_reducible refine Box.drew ?_) | (with_reducible refine Box.alloc ?_ _) | (refine Box.other ?_ (by intro hh; dsimp only at hh; omega) _) | (refine Box.below ?_ (by with_reducible assumption) ?_) | (with_reducible exact Nat.lt_of_lt_of_le (by assumption) (by assumption)) | (simp only [World.size_alloc, World.size_setCell, World.size_drew, size_drewN]; omega)))
      rintro W ⟨bq, br, hbW⟩
      clear c0 c1 c2 c3 f0 f1 f2 f3 lt0 d0 d1 d2 d3 g0 g1 g2 g3 lt1
      obtain ⟨c0, c1, c2, c3, f0, f1, f2, f3, lt0⟩ := bq
      obtain ⟨d0, d1, d2, d3, g0, g1, g2, g3, lt1⟩ := br
      go_wp2
      obtain ⟨hQ, hR⟩ := hE.out
      rw [← hQ, ← hR]
      refine bodyPost_ret (v := .tuple #[.agg #[.int .u64 (lim Q 0), .int .u64 (lim Q 1), .int .u64 (lim Q 2), .int .u64 (lim Q 3)], .agg #[.int .u64 (lim R 0), .int .u64 (lim R 1), .int .u64 (lim R 2), .int .u64 (lim R 3)], .int .i64 0]) (by simp [results, Try.results61, go_sem, c0, c1, c2, c3, d0, d1, d2, d3]) rfl ?_
      exact ⟨rfl, hbW⟩
    · obtain rfl : x = (k : Int) := by omega
      clear hx
      obtain ⟨b, hb⟩ : ∃ b : Nat, bitN L k = b := ⟨_, rfl⟩
      have hb1 : b ≤ 1 := by rw [← hb]; exact bitN_le L k
      obtain ⟨s, hs⟩ : ∃ s : Nat, k % 64 = s := ⟨_, rfl⟩
      have hs64 : s < 64 := by omega
      have hr : (k : Int).tmod 64 = (s : Int) := by rw [Int.tmod_eq_emod_of_nonneg (by omega)]; omega
      have HS := hide hs
      clear hs
      have hRC := HD.out.lt
      have hR : R < M256 := Nat.lt_trans hRC hC
      have HB := hide hb
      have HSH := hide (shl_c (b := (b : Int)) hR (by omega) (by omega))
      obtain ⟨l0, l1, l2, l3, m0, m1, m2, m3, lt2⟩ := BL.out
      obtain ⟨c0, c1, c2, c3, f0, f1, f2, f3, lt0⟩ := BQ.out
      obtain ⟨d0, d1, d2, d3, g0, g1, g2, g3, lt1⟩ := BR.out
      obtain ⟨y0, y1, y2, y3, t0, t1, t2, t3, lt3⟩ := BC.out
      by_cases h0 : k < 64
      · have hq : (k : Int).tdiv 64 = 0 := by rw [Int.tdiv_eq_ediv_of_nonneg (by omega)]; omega
        have hw : IntKind.i64.wrap 0 = 0 := by decide
        have hbit : bits .and .u64 (lim L 0 / 2 ^ s) 1 = ((b : Nat) : Int) := by rw [← HB.out]; exact bit_law L k (by omega) HS.out
        have HSET := hide (fun h => lim_set (Q := Q) (k := k) (c := 0) (s := s) h (by omega) HS.out)
        have HOTH := hide (fun h => And.intro (lim_other (Q := Q) (k := k) (c := 1) h (by omega)) (And.intro (lim_other (Q := Q) (k := k) (c := 2) h (by omega)) (lim_other (Q := Q) (k := k) (c := 3) h (by omega))))
        by_cases hT : 2 * R + b < C
        · obtain ⟨T, hTe⟩ : ∃ T : Nat, 2 * R + b = T := ⟨_, rfl⟩
          have hT256 : T < M256 := by omega
          have hO : shlO R (b : Int) = 0 := by rw [shlO, Int.toNat_natCast, if_pos (by omega)]
          have hV : shlV R (b : Int) = T := by rw [shlV, Int.toNat_natCast, if_pos (by omega)]; omega
          have HN := hide (show DivS L H C k T Q from hTe ▸ HD.out.low HB.out hT)
          have hcm : cmpV T C = -1 := by rw [cmpV, if_pos (by omega)]
          clear hTe
          clear hT
          have HCM := hide (fun w => cmp_c (isU_lim hT256) (isU_lim hC) w)
          go_wp2
          go_region_law (first | (go_simp; (go_at_call 65; (with_reducible refine (HSH.out _).mono ?_); rintro e w2 ⟨rfl, hb2⟩; (have hs2 := hb2.size); (try simp only [World.size_alloc, World.size_setCell, World.size_drew, size_drewN] at hs2); (have hc2_0 : ∀ o, w2.cell? ⟨w.heap.size, o, none⟩ = _ := fun o => hb2.cell (p := ⟨w.heap.size, o, none⟩) (by ((try simp only [World.size_alloc, World.size_setCell, World.size_drew, size_drewN]); omega))); (have hf2_0 : ∀ o, w2.frozen? ⟨w.heap.size, o, none⟩ = _ := fun o => hb2.frozen (p := ⟨w.heap.size, o, none⟩) (by ((try simp only [World.size_alloc, World.size_setCell, World.size_drew, size_drewN]); omega))); (have z2_0 : w.heap.size < w2.heap.size := (by omega)); (have hc2_1 : ∀ o, w2.cell? ⟨w.heap.size + 1, o, none⟩ = _ := fun o => hb2.cell (p := ⟨w.heap.size + 1, o, none⟩) (by ((try simp only [World.size_alloc, World.size_setCell, World.size_drew, size_drewN]); omega))); (have hf2_1 : ∀ o, w2.frozen? ⟨w.heap.size + 1, o, none⟩ = _ := fun o => hb2.frozen (p := ⟨w.heap.size + 1, o, none⟩) (by ((try simp only [World.size_alloc, World.size_setCell, World.size_drew, size_drewN]); omega))); (have z2_1 : w.heap.size + 1 < w2.heap.size := (by omega)); (have hc2_2 : ∀ o, w2.cell? ⟨w.heap.size + 1 + 1, o, none⟩ = _ := fun o => hb2.cell (p := ⟨w.heap.size + 1 + 1, o, none⟩) (by ((try simp only [World.size_alloc, World.size_setCell, World.size_drew, size_drewN]); omega))); (have hf2_2 : ∀ o, w2.frozen? ⟨w.heap.size + 1 + 1, o, none⟩ = _ := fun o => hb2.frozen (p := ⟨w.heap.size + 1 + 1, o, none⟩) (by ((try simp only [World.size_alloc, World.size_setCell, World.size_drew, size_drewN]); omega))); (have z2_2 : w.heap.size + 1 + 1 < w2.heap.size := (by omega)); (have hc2_3 : ∀ o, w2.cell? ⟨w.heap.size + 1 + 1 + 1, o, none⟩ = _ := fun o => hb2.cell (p := ⟨w.heap.size + 1 + 1 + 1, o, none⟩) (by ((try simp only [World.size_alloc, World.size_setCell, World.size_drew, size_drewN]); omega))); (have hf2_3 : ∀ o, w2.frozen? ⟨w.heap.size + 1 + 1 + 1, o, none⟩ = _ := fun o => hb2.frozen (p := ⟨w.heap.size + 1 + 1 + 1, o, none⟩) (by ((try simp only [World.size_alloc, World.size_setCell, World.size_drew, size_drewN]); omega))); (have z2_3 : w.heap.size + 1 + 1 + 1 < w2.heap.size := (by omega)); (have hc2_4 : ∀ o, w2.cell? ⟨w.heap.size + 1 + 1 + 1 + 1, o, none⟩ = _ := fun o => hb2.cell (p := ⟨w.heap.size + 1 + 1 + 1 + 1, o, none⟩) (by ((try simp only [World.size_alloc, World.size_setCell, World.size_drew, size_drewN]); omega))); (have hf2_4 : ∀ o, w2.frozen? ⟨w.heap.size + 1 + 1 + 1 + 1, o, none⟩ = _ := fun o => hb2.frozen (p := ⟨w.heap.size + 1 + 1 + 1 + 1, o, none⟩) (by ((try simp only [World.size_alloc, World.size_setCell, World.size_drew, size_drewN]); omega))); (have z2_4 : w.heap.size + 1 + 1 + 1 + 1 < w2.heap.size := (by omega)))))
          all_goals (
            go_wp2_with fail
            refine (HCM.out _).mono ?_
            rintro e w3 ⟨rfl, hb3⟩
            have hs3 := hb3.size
            try simp only [World.size_alloc, World.size_setCell, World.size_drew, size_drewN] at hs3
            have hc3_0 : ∀ o, w3.cell? ⟨w.heap.size, o, none⟩ = _ := fun o => hb3.cell (p := ⟨w.heap.size, o, none⟩) (by ((try simp only [World.size_alloc, World.size_setCell, World.size_drew, size_drewN]); omega))
            have hf3_0 : ∀ o, w3.frozen? ⟨w.heap.size, o, none⟩ = _ := fun o => hb3.frozen (p := ⟨w.heap.size, o, none⟩) (by ((try simp only [World.size_alloc, World.size_setCell, World.size_drew, size_drewN]); omega))
            have z3_0 : w.heap.size < w3.heap.size := (by omega)
            have hc3_1 : ∀ o, w3.cell? ⟨w.heap.size + 1, o, none⟩ = _ := fun o => hb3.cell (p := ⟨w.heap.size + 1, o, none⟩) (by ((try simp only [World.size_alloc, World.size_setCell, World.size_drew, size_drewN]); omega))
            have hf3_1 : ∀ o, w3.frozen? ⟨w.heap.size + 1, o, none⟩ = _ := fun o => hb3.frozen (p := ⟨w.heap.size + 1, o, none⟩) (by ((try simp only [World.size_alloc, World.size_setCell, World.size_drew, size_drewN]); omega))
            have z3_1 : w.heap.size + 1 < w3.heap.size := (by omega)
            have hc3_2 : ∀ o, w3.cell? ⟨w.heap.size + 1 + 1, o, none⟩ = _ := fun o => hb3.cell (p := ⟨w.heap.size + 1 + 1, o, none⟩) (by ((try simp only [World.size_alloc, World.size_setCell, World.size_drew, size_drewN]); omega))
            have hf3_2 : ∀ o, w3.frozen? ⟨w.heap.size + 1 + 1, o, none⟩ = _ := fun o => hb3.frozen (p := ⟨w.heap.size + 1 + 1, o, none⟩) (by ((try simp only [World.size_alloc, World.size_setCell, World.size_drew, size_drewN]); omega))
            have z3_2 : w.heap.size + 1 + 1 < w3.heap.size := (by omega)
            have hc3_3 : ∀ o, w3.cell? ⟨w.heap.size + 1 + 1 + 1, o, none⟩ = _ := fun o => hb3.cell (p := ⟨w.heap.size + 1 + 1 + 1, o, none⟩) (by ((try simp only [World.size_alloc, World.size_setCell, World.size_drew, size_drewN]); omega))
            have hf3_3 : ∀ o, w3.frozen? ⟨w.heap.size + 1 + 1 + 1, o, none⟩ = _ := fun o => hb3.frozen (p := ⟨w.heap.size + 1 + 1 + 1, o, none⟩) (by ((try simp only [World.size_alloc, World.size_setCell, World.size_drew, size_drewN]); omega))
            have z3_3 : w.heap.size + 1 + 1 + 1 < w3.heap.size := (by omega)
            have hc3_4 : ∀ o, w3.cell? ⟨w.heap.size + 1 + 1 + 1 + 1, o, none⟩ = _ := fun o => hb3.cell (p := ⟨w.heap.size + 1 + 1 + 1 + 1, o, none⟩) (by ((try simp only [World.size_alloc, World.size_setCell, World.size_drew, size_drewN]); omega))
            have hf3_4 : ∀ o, w3.frozen? ⟨w.heap.size + 1 + 1 + 1 + 1, o, none⟩ = _ := fun o => hb3.frozen (p := ⟨w.heap.size + 1 + 1 + 1 + 1, o, none⟩) (by ((try simp only [World.size_alloc, World.size_setCell, World.size_drew, size_drewN]); omega))
            have z3_4 : w.heap.size + 1 + 1 + 1 + 1 < w3.heap.size := (by omega)
            go_wp2
            go_roundw
            case measure => first | (simp [intOf]; done) | (simp [intOf]; omega)
            case rel =>
              have hxL := BL.out
              have hxC := BC.out
              have hxQ := BQ.out
              have hxR := BR.out
              refine ⟨k, Q, T, (k : Int) - 1, by go_num, rfl, by omega, HN, hide ?_, hide ?_, hide ?_, hide ?_, hide (by (repeat' (first | (with_reducible exact Below.refl _ _) | (with_reducible assumption) | (with_reducible refine Below.alloc ?_ ?_ _) | (with_reducible refine Below.drew ?_) | (with_reducible refine below_drewN ?_ _) | (with_reducible refine Below.setCell ?_ ?_ _) | (with_reducible refine below_step (by with_reducible assumption) ?_ ?_) | (first | (with_reducible exact Nat.le_refl _) | (with_reducible assumption) | omega | (simp only [World.size_alloc, World.size_setCell, World.size_drew, size_drewN]; omega) | (simp; omega) | (simp; done)))))⟩
              · (repeat' (first | (with_reducible assumption) | (with_reducible refine Box.drewN ?_ _) | (with_reducible refine Box.drew ?_) | (with_reducible refine Box.alloc ?_ _) | (refine Box.other ?_ (by intro hh; dsimp only at hh; omega) _) | (refine Box.below ?_ (by with_reducible assumption) ?_) | (with_reducible exact Nat.lt_of_lt_of_le (by assumption) (by assumption)) | (simp only [World.size_alloc, World.size_setCell, World.size_drew, size_drewN]; omega)))
              · (repeat' (first | (with_reducible assumption) | (with_reducible refine Box.drewN ?_ _) | (with_reducible refine Box.drew ?_) | (with_reducible refine Box.alloc ?_ _) | (refine Box.other ?_ (by intro hh; dsimp only at hh; omega) _) | (refine Box.below ?_ (by with_reducible assumption) ?_) | (with_reducible exact Nat.lt_of_lt_of_le (by assumption) (by assumption)) | (simp only [World.size_alloc, World.size_setCell, World.size_drew, size_drewN]; omega)))
              · (repeat' (first | (with_reducible assumption) | (with_reducible refine Box.drewN ?_ _) | (with_reducible refine Box.drew ?_) | (with_reducible refine Box.alloc ?_ _) | (refine Box.other ?_ (by intro hh; dsimp only at hh; omega) _) | (refine Box.below ?_ (by with_reducible assumption) ?_) | (with_reducible exact Nat.lt_of_lt_of_le (by assumption) (by assumption)) | (simp only [World.size_alloc, World.size_setCell, World.size_drew, size_drewN]; omega)))
              · (repeat' (first | (with_reducible assumption) | (with_reducible refine Box.drewN ?_ _) | (with_reducible refine Box.drew ?_) | (with_reducible refine Box.alloc ?_ _) | (refine Box.other ?_ (by intro hh; dsimp only at hh; omega) _) | (refine Box.below ?_ (by with_reducible assumption) ?_) | (with_reducible exact Nat.lt_of_lt_of_le (by assumption) (by assumption)) | (simp only [World.size_alloc, World.size_setCell, World.size_drew, size_drewN]; omega)))
                refine Box.put (a0 := lim R 0) (a1 := lim R 1) (a2 := lim R 2) (a3 := lim R 3) ?_ _ _ _ _
                (repeat' (first | (with_reducible assumption) | (with_reducible refine Box.drewN ?_ _) | (with_reducible refine Box.drew ?_) | (with_reducible refine Box.alloc ?_ _) | (refine Box.other ?_ (by intro hh; dsimp only at hh; omega) _) | (refine Box.below ?_ (by with_reducible assumption) ?_) | (with_reducible exact Nat.lt_of_lt_of_le (by assumption) (by assumption)) | (simp only [World.size_alloc, World.size_setCell, World.size_drew, size_drewN]; omega))))
        by_cases hT2 : 2 * R + b < M256
        · obtain ⟨T, hTe⟩ : ∃ T : Nat, 2 * R + b = T := ⟨_, rfl⟩
          have hT256 : T < M256 := by omega
          have hO : shlO R (b : Int) = 0 := by rw [shlO, Int.toNat_natCast, if_pos (by omega)]
          have hV : shlV R (b : Int) = T := by rw [shlV, Int.toNat_natCast, if_pos (by omega)]; omega
          obtain ⟨S, hSe⟩ : ∃ S : Nat, 2 * R + b - C = S := ⟨_, rfl⟩
          have hW : wrapV T C = S := by rw [wrapV]; split <;> omega
          have HN := hide (show DivS L H C k S (Q + 2 ^ k) from hSe ▸ HD.out.high hL hlt HB.out (by omega))
          have HSW := hide (subw_c (A := T) (B := C) hT256 hC)
          obtain ⟨z, hcm, hz0⟩ : ∃ z, cmpV T C = z ∧ 0 ≤ z := ⟨_, rfl, by rw [cmpV, if_neg (by omega)]; split <;> decide⟩
          clear hTe hSe
          clear hT hT2
          have HCM := hide (fun w => cmp_c (isU_lim hT256) (isU_lim hC) w)
          go_wp2
          go_region_law (first | (go_simp; (go_at_call 65; (with_reducible refine (HSH.out _).mono ?_); rintro e w2 ⟨rfl, hb2⟩; (have hs2 := hb2.size); (try simp only [World.size_alloc, World.size_setCell, World.size_drew, size_drewN] at hs2); (have hc2_0 : ∀ o, w2.cell? ⟨w.heap.size, o, none⟩ = _ := fun o => hb2.cell (p := ⟨w.heap.size, o, none⟩) (by ((try simp only [World.size_alloc, World.size_setCell, World.size_drew, size_drewN]); omega))); (have hf2_0 : ∀ o, w2.frozen? ⟨w.heap.size, o, none⟩ = _ := fun o => hb2.frozen (p := ⟨w.heap.size, o, none⟩) (by ((try simp only [World.size_alloc, World.size_setCell, World.size_drew, size_drewN]); omega))); (have z2_0 : w.heap.size < w2.heap.size := (by omega)); (have hc2_1 : ∀ o, w2.cell? ⟨w.heap.size + 1, o, none⟩ = _ := fun o => hb2.cell (p := ⟨w.heap.size + 1, o, none⟩) (by ((try simp only [World.size_alloc, World.size_setCell, World.size_drew, size_drewN]); omega))); (have hf2_1 : ∀ o, w2.frozen? ⟨w.heap.size + 1, o, none⟩ = _ := fun o => hb2.frozen (p := ⟨w.heap.size + 1, o, none⟩) (by ((try simp only [World.size_alloc, World.size_setCell, World.size_drew, size_drewN]); omega))); (have z2_1 : w.heap.size + 1 < w2.heap.size := (by omega)); (have hc2_2 : ∀ o, w2.cell? ⟨w.heap.size + 1 + 1, o, none⟩ = _ := fun o => hb2.cell (p := ⟨w.heap.size + 1 + 1, o, none⟩) (by ((try simp only [World.size_alloc, World.size_setCell, World.size_drew, size_drewN]); omega))); (have hf2_2 : ∀ o, w2.frozen? ⟨w.heap.size + 1 + 1, o, none⟩ = _ := fun o => hb2.frozen (p := ⟨w.heap.size + 1 + 1, o, none⟩) (by ((try simp only [World.size_alloc, World.size_setCell, World.size_drew, size_drewN]); omega))); (have z2_2 : w.heap.size + 1 + 1 < w2.heap.size := (by omega)); (have hc2_3 : ∀ o, w2.cell? ⟨w.heap.size + 1 + 1 + 1, o, none⟩ = _ := fun o => hb2.cell (p := ⟨w.heap.size + 1 + 1 + 1, o, none⟩) (by ((try simp only [World.size_alloc, World.size_setCell, World.size_drew, size_drewN]); omega))); (have hf2_3 : ∀ o, w2.frozen? ⟨w.heap.size + 1 + 1 + 1, o, none⟩ = _ := fun o => hb2.frozen (p := ⟨w.heap.size + 1 + 1 + 1, o, none⟩) (by ((try simp only [World.size_alloc, World.size_setCell, World.size_drew, size_drewN]); omega))); (have z2_3 : w.heap.size + 1 + 1 + 1 < w2.heap.size := (by omega)); (have hc2_4 : ∀ o, w2.cell? ⟨w.heap.size + 1 + 1 + 1 + 1, o, none⟩ = _ := fun o => hb2.cell (p := ⟨w.heap.size + 1 + 1 + 1 + 1, o, none⟩) (by ((try simp only [World.size_alloc, World.size_setCell, World.size_drew, size_drewN]); omega))); (have hf2_4 : ∀ o, w2.frozen? ⟨w.heap.size + 1 + 1 + 1 + 1, o, none⟩ = _ := fun o => hb2.frozen (p := ⟨w.heap.size + 1 + 1 + 1 + 1, o, none⟩) (by ((try simp only [World.size_alloc, World.size_setCell, World.size_drew, size_drewN]); omega))); (have z2_4 : w.heap.size + 1 + 1 + 1 + 1 < w2.heap.size := (by omega)))))
          all_goals (
            go_wp2_with fail
            refine (HCM.out _).mono ?_
            rintro e w3 ⟨rfl, hb3⟩
            have hs3 := hb3.size
            try simp only [World.size_alloc, World.size_setCell, World.size_drew, size_drewN] at hs3
            have hc3_0 : ∀ o, w3.cell? ⟨w.heap.size, o, none⟩ = _ := fun o => hb3.cell (p := ⟨w.heap.size, o, none⟩) (by ((try simp only [World.size_alloc, World.size_setCell, World.size_drew, size_drewN]); omega))
            have hf3_0 : ∀ o, w3.frozen? ⟨w.heap.size, o, none⟩ = _ := fun o => hb3.frozen (p := ⟨w.heap.size, o, none⟩) (by ((try simp only [World.size_alloc, World.size_setCell, World.size_drew, size_drewN]); omega))
            have z3_0 : w.heap.size < w3.heap.size := (by omega)
            have hc3_1 : ∀ o, w3.cell? ⟨w.heap.size + 1, o, none⟩ = _ := fun o => hb3.cell (p := ⟨w.heap.size + 1, o, none⟩) (by ((try simp only [World.size_alloc, World.size_setCell, World.size_drew, size_drewN]); omega))
            have hf3_1 : ∀ o, w3.frozen? ⟨w.heap.size + 1, o, none⟩ = _ := fun o => hb3.frozen (p := ⟨w.heap.size + 1, o, none⟩) (by ((try simp only [World.size_alloc, World.size_setCell, World.size_drew, size_drewN]); omega))
            have z3_1 : w.heap.size + 1 < w3.heap.size := (by omega)
            have hc3_2 : ∀ o, w3.cell? ⟨w.heap.size + 1 + 1, o, none⟩ = _ := fun o => hb3.cell (p := ⟨w.heap.size + 1 + 1, o, none⟩) (by ((try simp only [World.size_alloc, World.size_setCell, World.size_drew, size_drewN]); omega))
            have hf3_2 : ∀ o, w3.frozen? ⟨w.heap.size + 1 + 1, o, none⟩ = _ := fun o => hb3.frozen (p := ⟨w.heap.size + 1 + 1, o, none⟩) (by ((try simp only [World.size_alloc, World.size_setCell, World.size_drew, size_drewN]); omega))
            have z3_2 : w.heap.size + 1 + 1 < w3.heap.size := (by omega)
            have hc3_3 : ∀ o, w3.cell? ⟨w.heap.size + 1 + 1 + 1, o, none⟩ = _ := fun o => hb3.cell (p := ⟨w.heap.size + 1 + 1 + 1, o, none⟩) (by ((try simp only [World.size_alloc, World.size_setCell, World.size_drew, size_drewN]); omega))
            have hf3_3 : ∀ o, w3.frozen? ⟨w.heap.size + 1 + 1 + 1, o, none⟩ = _ := fun o => hb3.frozen (p := ⟨w.heap.size + 1 + 1 + 1, o, none⟩) (by ((try simp only [World.size_alloc, World.size_setCell, World.size_drew, size_drewN]); omega))
            have z3_3 : w.heap.size + 1 + 1 + 1 < w3.heap.size := (by omega)
            have hc3_4 : ∀ o, w3.cell? ⟨w.heap.size + 1 + 1 + 1 + 1, o, none⟩ = _ := fun o => hb3.cell (p := ⟨w.heap.size + 1 + 1 + 1 + 1, o, none⟩) (by ((try simp only [World.size_alloc, World.size_setCell, World.size_drew, size_drewN]); omega))
            have hf3_4 : ∀ o, w3.frozen? ⟨w.heap.size + 1 + 1 + 1 + 1, o, none⟩ = _ := fun o => hb3.frozen (p := ⟨w.heap.size + 1 + 1 + 1 + 1, o, none⟩) (by ((try simp only [World.size_alloc, World.size_setCell, World.size_drew, size_drewN]); omega))
            have z3_4 : w.heap.size + 1 + 1 + 1 + 1 < w3.heap.size := (by omega)
            go_wp2_with fail
            refine (HSW.out _).mono ?_
            rintro e w4 ⟨rfl, hb4⟩
            have hs4 := hb4.size
            try simp only [World.size_alloc, World.size_setCell, World.size_drew, size_drewN] at hs4
            have hc4_0 : ∀ o, w4.cell? ⟨w.heap.size, o, none⟩ = _ := fun o => hb4.cell (p := ⟨w.heap.size, o, none⟩) (by ((try simp only [World.size_alloc, World.size_setCell, World.size_drew, size_drewN]); omega))
            have hf4_0 : ∀ o, w4.frozen? ⟨w.heap.size, o, none⟩ = _ := fun o => hb4.frozen (p := ⟨w.heap.size, o, none⟩) (by ((try simp only [World.size_alloc, World.size_setCell, World.size_drew, size_drewN]); omega))
            have z4_0 : w.heap.size < w4.heap.size := (by omega)
            have hc4_1 : ∀ o, w4.cell? ⟨w.heap.size + 1, o, none⟩ = _ := fun o => hb4.cell (p := ⟨w.heap.size + 1, o, none⟩) (by ((try simp only [World.size_alloc, World.size_setCell, World.size_drew, size_drewN]); omega))
            have hf4_1 : ∀ o, w4.frozen? ⟨w.heap.size + 1, o, none⟩ = _ := fun o => hb4.frozen (p := ⟨w.heap.size + 1, o, none⟩) (by ((try simp only [World.size_alloc, World.size_setCell, World.size_drew, size_drewN]); omega))
            have z4_1 : w.heap.size + 1 < w4.heap.size := (by omega)
            have hc4_2 : ∀ o, w4.cell? ⟨w.heap.size + 1 + 1, o, none⟩ = _ := fun o => hb4.cell (p := ⟨w.heap.size + 1 + 1, o, none⟩) (by ((try simp only [World.size_alloc, World.size_setCell, World.size_drew, size_drewN]); omega))
            have hf4_2 : ∀ o, w4.frozen? ⟨w.heap.size + 1 + 1, o, none⟩ = _ := fun o => hb4.frozen (p := ⟨w.heap.size + 1 + 1, o, none⟩) (by ((try simp only [World.size_alloc, World.size_setCell, World.size_drew, size_drewN]); omega))
            have z4_2 : w.heap.size + 1 + 1 < w4.heap.size := (by omega)
            have hc4_3 : ∀ o, w4.cell? ⟨w.heap.size + 1 + 1 + 1, o, none⟩ = _ := fun o => hb4.cell (p := ⟨w.heap.size + 1 + 1 + 1, o, none⟩) (by ((try simp only [World.size_alloc, World.size_setCell, World.size_drew, size_drewN]); omega))
            have hf4_3 : ∀ o, w4.frozen? ⟨w.heap.size + 1 + 1 + 1, o, none⟩ = _ := fun o => hb4.frozen (p := ⟨w.heap.size + 1 + 1 + 1, o, none⟩) (by ((try simp only [World.size_alloc, World.size_setCell, World.size_drew, size_drewN]); omega))
            have z4_3 : w.heap.size + 1 + 1 + 1 < w4.heap.size := (by omega)
            have hc4_4 : ∀ o, w4.cell? ⟨w.heap.size + 1 + 1 + 1 + 1, o, none⟩ = _ := fun o => hb4.cell (p := ⟨w.heap.size + 1 + 1 + 1 + 1, o, none⟩) (by ((try simp only [World.size_alloc, World.size_setCell, World.size_drew, size_drewN]); omega))
            have hf4_4 : ∀ o, w4.frozen? ⟨w.heap.size + 1 + 1 + 1 + 1, o, none⟩ = _ := fun o => hb4.frozen (p := ⟨w.heap.size + 1 + 1 + 1 + 1, o, none⟩) (by ((try simp only [World.size_alloc, World.size_setCell, World.size_drew, size_drewN]); omega))
            have z4_4 : w.heap.size + 1 + 1 + 1 + 1 < w4.heap.size := (by omega)
            go_wp2
            go_region
            go_wp2
            go_roundw
            case measure => first | (simp [intOf]; done) | (simp [intOf]; omega)
            case rel =>
              have hxL := BL.out
              have hxC := BC.out
              have hxQ := BQ.out
              have hxR := BR.out
              refine ⟨k, (Q + 2 ^ k), S, (k : Int) - 1, by go_num, rfl, by omega, HN, hide ?_, hide ?_, hide ?_, hide ?_, hide (by (repeat' (first | (with_reducible exact Below.refl _ _) | (with_reducible assumption) | (with_reducible refine Below.alloc ?_ ?_ _) | (with_reducible refine Below.drew ?_) | (with_reducible refine below_drewN ?_ _) | (with_reducible refine Below.setCell ?_ ?_ _) | (with_reducible refine below_step (by with_reducible assumption) ?_ ?_) | (first | (with_reducible exact Nat.le_refl _) | (with_reducible assumption) | omega | (simp only [World.size_alloc, World.size_setCell, World.size_drew, size_drewN]; omega) | (simp; omega) | (simp; done)))))⟩
              · (repeat' (first | (with_reducible assumption) | (with_reducible refine Box.drewN ?_ _) | (with_reducible refine Box.drew ?_) | (with_reducible refine Box.alloc ?_ _) | (refine Box.other ?_ (by intro hh; dsimp only at hh; omega) _) | (refine Box.below ?_ (by with_reducible assumption) ?_) | (with_reducible exact Nat.lt_of_lt_of_le (by assumption) (by assumption)) | (simp only [World.size_alloc, World.size_setCell, World.size_drew, size_drewN]; omega)))
              · (repeat' (first | (with_reducible assumption) | (with_reducible refine Box.drewN ?_ _) | (with_reducible refine Box.drew ?_) | (with_reducible refine Box.alloc ?_ _) | (refine Box.other ?_ (by intro hh; dsimp only at hh; omega) _) | (refine Box.below ?_ (by with_reducible assumption) ?_) | (with_reducible exact Nat.lt_of_lt_of_le (by assumption) (by assumption)) | (simp only [World.size_alloc, World.size_setCell, World.size_drew, size_drewN]; omega)))
              · have hdv := HD.out.d
                have hoth := HOTH.out hdv
                rw [hoth.1, hoth.2.1, hoth.2.2, ← HSET.out hdv]
                (repeat' (first | (with_reducible assumption) | (with_reducible refine Box.drewN ?_ _) | (with_reducible refine Box.drew ?_) | (with_reducible refine Box.alloc ?_ _) | (refine Box.other ?_ (by intro hh; dsimp only at hh; omega) _) | (refine Box.below ?_ (by with_reducible assumption) ?_) | (with_reducible exact Nat.lt_of_lt_of_le (by assumption) (by assumption)) | (simp only [World.size_alloc, World.size_setCell, World.size_drew, size_drewN]; omega)))
                refine Box.set0 (a0 := lim Q 0) ?_ _
                (repeat' (first | (with_reducible assumption) | (with_reducible refine Box.drewN ?_ _) | (with_reducible refine Box.drew ?_) | (with_reducible refine Box.alloc ?_ _) | (refine Box.other ?_ (by intro hh; dsimp only at hh; omega) _) | (refine Box.below ?_ (by with_reducible assumption) ?_) | (with_reducible exact Nat.lt_of_lt_of_le (by assumption) (by assumption)) | (simp only [World.size_alloc, World.size_setCell, World.size_drew, size_drewN]; omega)))
              · (repeat' (first | (with_reducible assumption) | (with_reducible refine Box.drewN ?_ _) | (with_reducible refine Box.drew ?_) | (with_reducible refine Box.alloc ?_ _) | (refine Box.other ?_ (by intro hh; dsimp only at hh; omega) _) | (refine Box.below ?_ (by with_reducible assumption) ?_) | (with_reducible exact Nat.lt_of_lt_of_le (by assumption) (by assumption)) | (simp only [World.size_alloc, World.size_setCell, World.size_drew, size_drewN]; omega)))
                refine Box.put (a0 := lim T 0) (a1 := lim T 1) (a2 := lim T 2) (a3 := lim T 3) ?_ _ _ _ _
                (repeat' (first | (with_reducible assumption) | (with_reducible refine Box.drewN ?_ _) | (with_reducible refine Box.drew ?_) | (with_reducible refine Box.alloc ?_ _) | (refine Box.other ?_ (by intro hh; dsimp only at hh; omega) _) | (refine Box.below ?_ (by with_reducible assumption) ?_) | (with_reducible exact Nat.lt_of_lt_of_le (by assumption) (by assumption)) | (simp only [World.size_alloc, World.size_setCell, World.size_drew, size_drewN]; omega)))
                refine Box.put (a0 := lim R 0) (a1 := lim R 1) (a2 := lim R 2) (a3 := lim R 3) ?_ _ _ _ _
                (repeat' (first | (with_reducible assumption) | (with_reducible refine Box.drewN ?_ _) | (with_reducible refine Box.drew ?_) | (with_reducible refine Box.alloc ?_ _) | (refine Box.other ?_ (by intro hh; dsimp only at hh; omega) _) | (refine Box.below ?_ (by with_reducible assumption) ?_) | (with_reducible exact Nat.lt_of_lt_of_le (by assumption) (by assumption)) | (simp only [World.size_alloc, World.size_setCell, World.size_drew, size_drewN]; omega))))
        have hM : (M256 : Nat) = 115792089237316195423570985008687907853269984665640564039457584007913129639936 := rfl
        obtain ⟨T, hTe⟩ : ∃ T : Nat, 2 * R + b - M256 = T := ⟨_, rfl⟩
        have hT256 : T < M256 := by omega
        have hO : shlO R (b : Int) = 1 := by rw [shlO, Int.toNat_natCast, if_neg (by omega)]
        have hV : shlV R (b : Int) = T := by rw [shlV, Int.toNat_natCast, if_neg (by omega)]; omega
        obtain ⟨S, hSe⟩ : ∃ S : Nat, 2 * R + b - C = S := ⟨_, rfl⟩
        have hW : wrapV T C = S := by rw [wrapV]; split <;> omega
        have HN := hide (show DivS L H C k S (Q + 2 ^ k) from hSe ▸ HD.out.high hL hlt HB.out (by omega))
        have HSW := hide (subw_c (A := T) (B := C) hT256 hC)
        clear hTe hSe
        clear hT hT2 hM
        have HCM := hide (fun w => cmp_c (isU_lim hT256) (isU_lim hC) w)
        go_wp2
        go_region_law (first | (go_simp; (go_at_call 65; (with_reducible refine (HSH.out _).mono ?_); rintro e w2 ⟨rfl, hb2⟩; (have hs2 := hb2.size); (try simp only [World.size_alloc, World.size_setCell, World.size_drew, size_drewN] at hs2); (have hc2_0 : ∀ o, w2.cell? ⟨w.heap.size, o, none⟩ = _ := fun o => hb2.cell (p := ⟨w.heap.size, o, none⟩) (by ((try simp only [World.size_alloc, World.size_setCell, World.size_drew, size_drewN]); omega))); (have hf2_0 : ∀ o, w2.frozen? ⟨w.heap.size, o, none⟩ = _ := fun o => hb2.frozen (p := ⟨w.heap.size, o, none⟩) (by ((try simp only [World.size_alloc, World.size_setCell, World.size_drew, size_drewN]); omega))); (have z2_0 : w.heap.size < w2.heap.size := (by omega)); (have hc2_1 : ∀ o, w2.cell? ⟨w.heap.size + 1, o, none⟩ = _ := fun o => hb2.cell (p := ⟨w.heap.size + 1, o, none⟩) (by ((try simp only [World.size_alloc, World.size_setCell, World.size_drew, size_drewN]); omega))); (have hf2_1 : ∀ o, w2.frozen? ⟨w.heap.size + 1, o, none⟩ = _ := fun o => hb2.frozen (p := ⟨w.heap.size + 1, o, none⟩) (by ((try simp only [World.size_alloc, World.size_setCell, World.size_drew, size_drewN]); omega))); (have z2_1 : w.heap.size + 1 < w2.heap.size := (by omega)); (have hc2_2 : ∀ o, w2.cell? ⟨w.heap.size + 1 + 1, o, none⟩ = _ := fun o => hb2.cell (p := ⟨w.heap.size + 1 + 1, o, none⟩) (by ((try simp only [World.size_alloc, World.size_setCell, World.size_drew, size_drewN]); omega))); (have hf2_2 : ∀ o, w2.frozen? ⟨w.heap.size + 1 + 1, o, none⟩ = _ := fun o => hb2.frozen (p := ⟨w.heap.size + 1 + 1, o, none⟩) (by ((try simp only [World.size_alloc, World.size_setCell, World.size_drew, size_drewN]); omega))); (have z2_2 : w.heap.size + 1 + 1 < w2.heap.size := (by omega)); (have hc2_3 : ∀ o, w2.cell? ⟨w.heap.size + 1 + 1 + 1, o, none⟩ = _ := fun o => hb2.cell (p := ⟨w.heap.size + 1 + 1 + 1, o, none⟩) (by ((try simp only [World.size_alloc, World.size_setCell, World.size_drew, size_drewN]); omega))); (have hf2_3 : ∀ o, w2.frozen? ⟨w.heap.size + 1 + 1 + 1, o, none⟩ = _ := fun o => hb2.frozen (p := ⟨w.heap.size + 1 + 1 + 1, o, none⟩) (by ((try simp only [World.size_alloc, World.size_setCell, World.size_drew, size_drewN]); omega))); (have z2_3 : w.heap.size + 1 + 1 + 1 < w2.heap.size := (by omega)); (have hc2_4 : ∀ o, w2.cell? ⟨w.heap.size + 1 + 1 + 1 + 1, o, none⟩ = _ := fun o => hb2.cell (p := ⟨w.heap.size + 1 + 1 + 1 + 1, o, none⟩) (by ((try simp only [World.size_alloc, World.size_setCell, World.size_drew, size_drewN]); omega))); (have hf2_4 : ∀ o, w2.frozen? ⟨w.heap.size + 1 + 1 + 1 + 1, o, none⟩ = _ := fun o => hb2.frozen (p := ⟨w.heap.size + 1 + 1 + 1 + 1, o, none⟩) (by ((try simp only [World.size_alloc, World.size_setCell, World.size_drew, size_drewN]); omega))); (have z2_4 : w.heap.size + 1 + 1 + 1 + 1 < w2.heap.size := (by omega)))))
        all_goals (
          go_wp2_with fail
          refine (HSW.out _).mono ?_
          rintro e w3 ⟨rfl, hb3⟩
          have hs3 := hb3.size
          try simp only [World.size_alloc, World.size_setCell, World.size_drew, size_drewN] at hs3
          have hc3_0 : ∀ o, w3.cell? ⟨w.heap.size, o, none⟩ = _ := fun o => hb3.cell (p := ⟨w.heap.size, o, none⟩) (by ((try simp only [World.size_alloc, World.size_setCell, World.size_drew, size_drewN]); omega))
          have hf3_0 : ∀ o, w3.frozen? ⟨w.heap.size, o, none⟩ = _ := fun o => hb3.frozen (p := ⟨w.heap.size, o, none⟩) (by ((try simp only [World.size_alloc, World.size_setCell, World.size_drew, size_drewN]); omega))
          have z3_0 : w.heap.size < w3.heap.size := (by omega)
          have hc3_1 : ∀ o, w3.cell? ⟨w.heap.size + 1, o, none⟩ = _ := fun o => hb3.cell (p := ⟨w.heap.size + 1, o, none⟩) (by ((try simp only [World.size_alloc, World.size_setCell, World.size_drew, size_drewN]); omega))
          have hf3_1 : ∀ o, w3.frozen? ⟨w.heap.size + 1, o, none⟩ = _ := fun o => hb3.frozen (p := ⟨w.heap.size + 1, o, none⟩) (by ((try simp only [World.size_alloc, World.size_setCell, World.size_drew, size_drewN]); omega))
          have z3_1 : w.heap.size + 1 < w3.heap.size := (by omega)
          have hc3_2 : ∀ o, w3.cell? ⟨w.heap.size + 1 + 1, o, none⟩ = _ := fun o => hb3.cell (p := ⟨w.heap.size + 1 + 1, o, none⟩) (by ((try simp only [World.size_alloc, World.size_setCell, World.size_drew, size_drewN]); omega))
          have hf3_2 : ∀ o, w3.frozen? ⟨w.heap.size + 1 + 1, o, none⟩ = _ := fun o => hb3.frozen (p := ⟨w.heap.size + 1 + 1, o, none⟩) (by ((try simp only [World.size_alloc, World.size_setCell, World.size_drew, size_drewN]); omega))
          have z3_2 : w.heap.size + 1 + 1 < w3.heap.size := (by omega)
          have hc3_3 : ∀ o, w3.cell? ⟨w.heap.size + 1 + 1 + 1, o, none⟩ = _ := fun o => hb3.cell (p := ⟨w.heap.size + 1 + 1 + 1, o, none⟩) (by ((try simp only [World.size_alloc, World.size_setCell, World.size_drew, size_drewN]); omega))
          have hf3_3 : ∀ o, w3.frozen? ⟨w.heap.size + 1 + 1 + 1, o, none⟩ = _ := fun o => hb3.frozen (p := ⟨w.heap.size + 1 + 1 + 1, o, none⟩) (by ((try simp only [World.size_alloc, World.size_setCell, World.size_drew, size_drewN]); omega))
          have z3_3 : w.heap.size + 1 + 1 + 1 < w3.heap.size := (by omega)
          have hc3_4 : ∀ o, w3.cell? ⟨w.heap.size + 1 + 1 + 1 + 1, o, none⟩ = _ := fun o => hb3.cell (p := ⟨w.heap.size + 1 + 1 + 1 + 1, o, none⟩) (by ((try simp only [World.size_alloc, World.size_setCell, World.size_drew, size_drewN]); omega))
          have hf3_4 : ∀ o, w3.frozen? ⟨w.heap.size + 1 + 1 + 1 + 1, o, none⟩ = _ := fun o => hb3.frozen (p := ⟨w.heap.size + 1 + 1 + 1 + 1, o, none⟩) (by ((try simp only [World.size_alloc, World.size_setCell, World.size_drew, size_drewN]); omega))
          have z3_4 : w.heap.size + 1 + 1 + 1 + 1 < w3.heap.size := (by omega)
          go_wp2
          go_region
          go_wp2
          go_roundw
          case measure => first | (simp [intOf]; done) | (simp [intOf]; omega)
          case rel =>
            have hxL := BL.out
            have hxC := BC.out
            have hxQ := BQ.out
            have hxR := BR.out
            refine ⟨k, (Q + 2 ^ k), S, (k : Int) - 1, by go_num, rfl, by omega, HN, hide ?_, hide ?_, hide ?_, hide ?_, hide (by (repeat' (first | (with_reducible exact Below.refl _ _) | (with_reducible assumption) | (with_reducible refine Below.alloc ?_ ?_ _) | (with_reducible refine Below.drew ?_) | (with_reducible refine below_drewN ?_ _) | (with_reducible refine Below.setCell ?_ ?_ _) | (with_reducible refine below_step (by with_reducible assumption) ?_ ?_) | (first | (with_reducible exact Nat.le_refl _) | (with_reducible assumption) | omega | (simp only [World.size_alloc, World.size_setCell, World.size_drew, size_drewN]; omega) | (simp; omega) | (simp; done)))))⟩
            · (repeat' (first | (with_reducible assumption) | (with_reducible refine Box.drewN ?_ _) | (with_reducible refine Box.drew ?_) | (with_reducible refine Box.alloc ?_ _) | (refine Box.other ?_ (by intro hh; dsimp only at hh; omega) _) | (refine Box.below ?_ (by with_reducible assumption) ?_) | (with_reducible exact Nat.lt_of_lt_of_le (by assumption) (by assumption)) | (simp only [World.size_alloc, World.size_setCell, World.size_drew, size_drewN]; omega)))
            · (repeat' (first | (with_reducible assumption) | (with_reducible refine Box.drewN ?_ _) | (with_reducible refine Box.drew ?_) | (with_reducible refine Box.alloc ?_ _) | (refine Box.other ?_ (by intro hh; dsimp only at hh; omega) _) | (refine Box.below ?_ (by with_reducible assumption) ?_) | (with_reducible exact Nat.lt_of_lt_of_le (by assumption) (by assumption)) | (simp only [World.size_alloc, World.size_setCell, World.size_drew, size_drewN]; omega)))
            · have hdv := HD.out.d
              have hoth := HOTH.out hdv
              rw [hoth.1, hoth.2.1, hoth.2.2, ← HSET.out hdv]
              (repeat' (first | (with_reducible assumption) | (with_reducible refine Box.drewN ?_ _) | (with_reducible refine Box.drew ?_) | (with_reducible refine Box.alloc ?_ _) | (refine Box.other ?_ (by intro hh; dsimp only at hh; omega) _) | (refine Box.below ?_ (by with_reducible assumption) ?_) | (with_reducible exact Nat.lt_of_lt_of_le (by assumption) (by assumption)) | (simp only [World.size_alloc, World.size_setCell, World.size_drew, size_drewN]; omega)))
              refine Box.set0 (a0 := lim Q 0) ?_ _
              (repeat' (first | (with_reducible assumption) | (with_reducible refine Box.drewN ?_ _) | (with_reducible refine Box.drew ?_) | (with_reducible refine Box.alloc ?_ _) | (refine Box.other ?_ (by intro hh; dsimp only at hh; omega) _) | (refine Box.below ?_ (by with_reducible assumption) ?_) | (with_reducible exact Nat.lt_of_lt_of_le (by assumption) (by assumption)) | (simp only [World.size_alloc, World.size_setCell, World.size_drew, size_drewN]; omega)))
            · (repeat' (first | (with_reducible assumption) | (with_reducible refine Box.drewN ?_ _) | (with_reducible refine Box.drew ?_) | (with_reducible refine Box.alloc ?_ _) | (refine Box.other ?_ (by intro hh; dsimp only at hh; omega) _) | (refine Box.below ?_ (by with_reducible assumption) ?_) | (with_reducible exact Nat.lt_of_lt_of_le (by assumption) (by assumption)) | (simp only [World.size_alloc, World.size_setCell, World.size_drew, size_drewN]; omega)))
              refine Box.put (a0 := lim T 0) (a1 := lim T 1) (a2 := lim T 2) (a3 := lim T 3) ?_ _ _ _ _
              (repeat' (first | (with_reducible assumption) | (with_reducible refine Box.drewN ?_ _) | (with_reducible refine Box.drew ?_) | (with_reducible refine Box.alloc ?_ _) | (refine Box.other ?_ (by intro hh; dsimp only at hh; omega) _) | (refine Box.below ?_ (by with_reducible assumption) ?_) | (with_reducible exact Nat.lt_of_lt_of_le (by assumption) (by assumption)) | (simp only [World.size_alloc, World.size_setCell, World.size_drew, size_drewN]; omega)))
              refine Box.put (a0 := lim R 0) (a1 := lim R 1) (a2 := lim R 2) (a3 := lim R 3) ?_ _ _ _ _
              (repeat' (first | (with_reducible assumption) | (with_reducible refine Box.drewN ?_ _) | (with_reducible refine Box.drew ?_) | (with_reducible refine Box.alloc ?_ _) | (refine Box.other ?_ (by intro hh; dsimp only at hh; omega) _) | (refine Box.below ?_ (by with_reducible assumption) ?_) | (with_reducible exact Nat.lt_of_lt_of_le (by assumption) (by assumption)) | (simp only [World.size_alloc, World.size_setCell, World.size_drew, size_drewN]; omega))))
      by_cases h1 : k < 128
      · have hq : (k : Int).tdiv 64 = 1 := by rw [Int.tdiv_eq_ediv_of_nonneg (by omega)]; omega
        have hw : IntKind.i64.wrap 1 = 1 := by decide
        have hbit : bits .and .u64 (lim L 1 / 2 ^ s) 1 = ((b : Nat) : Int) := by rw [← HB.out]; exact bit_law L k (by omega) HS.out
        have HSET := hide (fun h => lim_set (Q := Q) (k := k) (c := 1) (s := s) h (by omega) HS.out)
        have HOTH := hide (fun h => And.intro (lim_other (Q := Q) (k := k) (c := 0) h (by omega)) (And.intro (lim_other (Q := Q) (k := k) (c := 2) h (by omega)) (lim_other (Q := Q) (k := k) (c := 3) h (by omega))))
        by_cases hT : 2 * R + b < C
        · obtain ⟨T, hTe⟩ : ∃ T : Nat, 2 * R + b = T := ⟨_, rfl⟩
          have hT256 : T < M256 := by omega
          have hO : shlO R (b : Int) = 0 := by rw [shlO, Int.toNat_natCast, if_pos (by omega)]
          have hV : shlV R (b : Int) = T := by rw [shlV, Int.toNat_natCast, if_pos (by omega)]; omega
          have HN := hide (show DivS L H C k T Q from hTe ▸ HD.out.low HB.out hT)
          have hcm : cmpV T C = -1 := by rw [cmpV, if_pos (by omega)]
          clear hTe
          clear hT
          have HCM := hide (fun w => cmp_c (isU_lim hT256) (isU_lim hC) w)
          go_wp2
          go_region_law (first | (go_simp; (go_at_call 65; (with_reducible refine (HSH.out _).mono ?_); rintro e w2 ⟨rfl, hb2⟩; (have hs2 := hb2.size); (try simp only [World.size_alloc, World.size_setCell, World.size_drew, size_drewN] at hs2); (have hc2_0 : ∀ o, w2.cell? ⟨w.heap.size, o, none⟩ = _ := fun o => hb2.cell (p := ⟨w.heap.size, o, none⟩) (by ((try simp only [World.size_alloc, World.size_setCell, World.size_drew, size_drewN]); omega))); (have hf2_0 : ∀ o, w2.frozen? ⟨w.heap.size, o, none⟩ = _ := fun o => hb2.frozen (p := ⟨w.heap.size, o, none⟩) (by ((try simp only [World.size_alloc, World.size_setCell, World.size_drew, size_drewN]); omega))); (have z2_0 : w.heap.size < w2.heap.size := (by omega)); (have hc2_1 : ∀ o, w2.cell? ⟨w.heap.size + 1, o, none⟩ = _ := fun o => hb2.cell (p := ⟨w.heap.size + 1, o, none⟩) (by ((try simp only [World.size_alloc, World.size_setCell, World.size_drew, size_drewN]); omega))); (have hf2_1 : ∀ o, w2.frozen? ⟨w.heap.size + 1, o, none⟩ = _ := fun o => hb2.frozen (p := ⟨w.heap.size + 1, o, none⟩) (by ((try simp only [World.size_alloc, World.size_setCell, World.size_drew, size_drewN]); omega))); (have z2_1 : w.heap.size + 1 < w2.heap.size := (by omega)); (have hc2_2 : ∀ o, w2.cell? ⟨w.heap.size + 1 + 1, o, none⟩ = _ := fun o => hb2.cell (p := ⟨w.heap.size + 1 + 1, o, none⟩) (by ((try simp only [World.size_alloc, World.size_setCell, World.size_drew, size_drewN]); omega))); (have hf2_2 : ∀ o, w2.frozen? ⟨w.heap.size + 1 + 1, o, none⟩ = _ := fun o => hb2.frozen (p := ⟨w.heap.size + 1 + 1, o, none⟩) (by ((try simp only [World.size_alloc, World.size_setCell, World.size_drew, size_drewN]); omega))); (have z2_2 : w.heap.size + 1 + 1 < w2.heap.size := (by omega)); (have hc2_3 : ∀ o, w2.cell? ⟨w.heap.size + 1 + 1 + 1, o, none⟩ = _ := fun o => hb2.cell (p := ⟨w.heap.size + 1 + 1 + 1, o, none⟩) (by ((try simp only [World.size_alloc, World.size_setCell, World.size_drew, size_drewN]); omega))); (have hf2_3 : ∀ o, w2.frozen? ⟨w.heap.size + 1 + 1 + 1, o, none⟩ = _ := fun o => hb2.frozen (p := ⟨w.heap.size + 1 + 1 + 1, o, none⟩) (by ((try simp only [World.size_alloc, World.size_setCell, World.size_drew, size_drewN]); omega))); (have z2_3 : w.heap.size + 1 + 1 + 1 < w2.heap.size := (by omega)); (have hc2_4 : ∀ o, w2.cell? ⟨w.heap.size + 1 + 1 + 1 + 1, o, none⟩ = _ := fun o => hb2.cell (p := ⟨w.heap.size + 1 + 1 + 1 + 1, o, none⟩) (by ((try simp only [World.size_alloc, World.size_setCell, World.size_drew, size_drewN]); omega))); (have hf2_4 : ∀ o, w2.frozen? ⟨w.heap.size + 1 + 1 + 1 + 1, o, none⟩ = _ := fun o => hb2.frozen (p := ⟨w.heap.size + 1 + 1 + 1 + 1, o, none⟩) (by ((try simp only [World.size_alloc, World.size_setCell, World.size_drew, size_drewN]); omega))); (have z2_4 : w.heap.size + 1 + 1 + 1 + 1 < w2.heap.size := (by omega)))))
          all_goals (
            go_wp2_with fail
            refine (HCM.out _).mono ?_
            rintro e w3 ⟨rfl, hb3⟩
            have hs3 := hb3.size
            try simp only [World.size_alloc, World.size_setCell, World.size_drew, size_drewN] at hs3
            have hc3_0 : ∀ o, w3.cell? ⟨w.heap.size, o, none⟩ = _ := fun o => hb3.cell (p := ⟨w.heap.size, o, none⟩) (by ((try simp only [World.size_alloc, World.size_setCell, World.size_drew, size_drewN]); omega))
            have hf3_0 : ∀ o, w3.frozen? ⟨w.heap.size, o, none⟩ = _ := fun o => hb3.frozen (p := ⟨w.heap.size, o, none⟩) (by ((try simp only [World.size_alloc, World.size_setCell, World.size_drew, size_drewN]); omega))
            have z3_0 : w.heap.size < w3.heap.size := (by omega)
            have hc3_1 : ∀ o, w3.cell? ⟨w.heap.size + 1, o, none⟩ = _ := fun o => hb3.cell (p := ⟨w.heap.size + 1, o, none⟩) (by ((try simp only [World.size_alloc, World.size_setCell, World.size_drew, size_drewN]); omega))
            have hf3_1 : ∀ o, w3.frozen? ⟨w.heap.size + 1, o, none⟩ = _ := fun o => hb3.frozen (p := ⟨w.heap.size + 1, o, none⟩) (by ((try simp only [World.size_alloc, World.size_setCell, World.size_drew, size_drewN]); omega))
            have z3_1 : w.heap.size + 1 < w3.heap.size := (by omega)
            have hc3_2 : ∀ o, w3.cell? ⟨w.heap.size + 1 + 1, o, none⟩ = _ := fun o => hb3.cell (p := ⟨w.heap.size + 1 + 1, o, none⟩) (by ((try simp only [World.size_alloc, World.size_setCell, World.size_drew, size_drewN]); omega))
            have hf3_2 : ∀ o, w3.frozen? ⟨w.heap.size + 1 + 1, o, none⟩ = _ := fun o => hb3.frozen (p := ⟨w.heap.size + 1 + 1, o, none⟩) (by ((try simp only [World.size_alloc, World.size_setCell, World.size_drew, size_drewN]); omega))
            have z3_2 : w.heap.size + 1 + 1 < w3.heap.size := (by omega)
            have hc3_3 : ∀ o, w3.cell? ⟨w.heap.size + 1 + 1 + 1, o, none⟩ = _ := fun o => hb3.cell (p := ⟨w.heap.size + 1 + 1 + 1, o, none⟩) (by ((try simp only [World.size_alloc, World.size_setCell, World.size_drew, size_drewN]); omega))
            have hf3_3 : ∀ o, w3.frozen? ⟨w.heap.size + 1 + 1 + 1, o, none⟩ = _ := fun o => hb3.frozen (p := ⟨w.heap.size + 1 + 1 + 1, o, none⟩) (by ((try simp only [World.size_alloc, World.size_setCell, World.size_drew, size_drewN]); omega))
            have z3_3 : w.heap.size + 1 + 1 + 1 < w3.heap.size := (by omega)
            have hc3_4 : ∀ o, w3.cell? ⟨w.heap.size + 1 + 1 + 1 + 1, o, none⟩ = _ := fun o => hb3.cell (p := ⟨w.heap.size + 1 + 1 + 1 + 1, o, none⟩) (by ((try simp only [World.size_alloc, World.size_setCell, World.size_drew, size_drewN]); omega))
            have hf3_4 : ∀ o, w3.frozen? ⟨w.heap.size + 1 + 1 + 1 + 1, o, none⟩ = _ := fun o => hb3.frozen (p := ⟨w.heap.size + 1 + 1 + 1 + 1, o, none⟩) (by ((try simp only [World.size_alloc, World.size_setCell, World.size_drew, size_drewN]); omega))
            have z3_4 : w.heap.size + 1 + 1 + 1 + 1 < w3.heap.size := (by omega)
            go_wp2
            go_roundw
            case measure => first | (simp [intOf]; done) | (simp [intOf]; omega)
            case rel =>
              have hxL := BL.out
              have hxC := BC.out
              have hxQ := BQ.out
              have hxR := BR.out
              refine ⟨k, Q, T, (k : Int) - 1, by go_num, rfl, by omega, HN, hide ?_, hide ?_, hide ?_, hide ?_, hide (by (repeat' (first | (with_reducible exact Below.refl _ _) | (with_reducible assumption) | (with_reducible refine Below.alloc ?_ ?_ _) | (with_reducible refine Below.drew ?_) | (with_reducible refine below_drewN ?_ _) | (with_reducible refine Below.setCell ?_ ?_ _) | (with_reducible refine below_step (by with_reducible assumption) ?_ ?_) | (first | (with_reducible exact Nat.le_refl _) | (with_reducible assumption) | omega | (simp only [World.size_alloc, World.size_setCell, World.size_drew, size_drewN]; omega) | (simp; omega) | (simp; done)))))⟩
              · (repeat' (first | (with_reducible assumption) | (with_reducible refine Box.drewN ?_ _) | (with_reducible refine Box.drew ?_) | (with_reducible refine Box.alloc ?_ _) | (refine Box.other ?_ (by intro hh; dsimp only at hh; omega) _) | (refine Box.below ?_ (by with_reducible assumption) ?_) | (with_reducible exact Nat.lt_of_lt_of_le (by assumption) (by assumption)) | (simp only [World.size_alloc, World.size_setCell, World.size_drew, size_drewN]; omega)))
              · (repeat' (first | (with_reducible assumption) | (with_reducible refine Box.drewN ?_ _) | (with_reducible refine Box.drew ?_) | (with_reducible refine Box.alloc ?_ _) | (refine Box.other ?_ (by intro hh; dsimp only at hh; omega) _) | (refine Box.below ?_ (by with_reducible assumption) ?_) | (with_reducible exact Nat.lt_of_lt_of_le (by assumption) (by assumption)) | (simp only [World.size_alloc, World.size_setCell, World.size_drew, size_drewN]; omega)))
              · (repeat' (first | (with_reducible assumption) | (with_reducible refine Box.drewN ?_ _) | (with_reducible refine Box.drew ?_) | (with_reducible refine Box.alloc ?_ _) | (refine Box.other ?_ (by intro hh; dsimp only at hh; omega) _) | (refine Box.below ?_ (by with_reducible assumption) ?_) | (with_reducible exact Nat.lt_of_lt_of_le (by assumption) (by assumption)) | (simp only [World.size_alloc, World.size_setCell, World.size_drew, size_drewN]; omega)))
              · (repeat' (first | (with_reducible assumption) | (with_reducible refine Box.drewN ?_ _) | (with_reducible refine Box.drew ?_) | (with_reducible refine Box.alloc ?_ _) | (refine Box.other ?_ (by intro hh; dsimp only at hh; omega) _) | (refine Box.below ?_ (by with_reducible assumption) ?_) | (with_reducible exact Nat.lt_of_lt_of_le (by assumption) (by assumption)) | (simp only [World.size_alloc, World.size_setCell, World.size_drew, size_drewN]; omega)))
                refine Box.put (a0 := lim R 0) (a1 := lim R 1) (a2 := lim R 2) (a3 := lim R 3) ?_ _ _ _ _
                (repeat' (first | (with_reducible assumption) | (with_reducible refine Box.drewN ?_ _) | (with_reducible refine Box.drew ?_) | (with_reducible refine Box.alloc ?_ _) | (refine Box.other ?_ (by intro hh; dsimp only at hh; omega) _) | (refine Box.below ?_ (by with_reducible assumption) ?_) | (with_reducible exact Nat.lt_of_lt_of_le (by assumption) (by assumption)) | (simp only [World.size_alloc, World.size_setCell, World.size_drew, size_drewN]; omega))))
        by_cases hT2 : 2 * R + b < M256
        · obtain ⟨T, hTe⟩ : ∃ T : Nat, 2 * R + b = T := ⟨_, rfl⟩
          have hT256 : T < M256 := by omega
          have hO : shlO R (b : Int) = 0 := by rw [shlO, Int.toNat_natCast, if_pos (by omega)]
          have hV : shlV R (b : Int) = T := by rw [shlV, Int.toNat_natCast, if_pos (by omega)]; omega
          obtain ⟨S, hSe⟩ : ∃ S : Nat, 2 * R + b - C = S := ⟨_, rfl⟩
          have hW : wrapV T C = S := by rw [wrapV]; split <;> omega
          have HN := hide (show DivS L H C k S (Q + 2 ^ k) from hSe ▸ HD.out.high hL hlt HB.out (by omega))
          have HSW := hide (subw_c (A := T) (B := C) hT256 hC)
          obtain ⟨z, hcm, hz0⟩ : ∃ z, cmpV T C = z ∧ 0 ≤ z := ⟨_, rfl, by rw [cmpV, if_neg (by omega)]; split <;> decide⟩
          clear hTe hSe
          clear hT hT2
          have HCM := hide (fun w => cmp_c (isU_lim hT256) (isU_lim hC) w)
          go_wp2
          go_region_law (first | (go_simp; (go_at_call 65; (with_reducible refine (HSH.out _).mono ?_); rintro e w2 ⟨rfl, hb2⟩; (have hs2 := hb2.size); (try simp only [World.size_alloc, World.size_setCell, World.size_drew, size_drewN] at hs2); (have hc2_0 : ∀ o, w2.cell? ⟨w.heap.size, o, none⟩ = _ := fun o => hb2.cell (p := ⟨w.heap.size, o, none⟩) (by ((try simp only [World.size_alloc, World.size_setCell, World.size_drew, size_drewN]); omega))); (have hf2_0 : ∀ o, w2.frozen? ⟨w.heap.size, o, none⟩ = _ := fun o => hb2.frozen (p := ⟨w.heap.size, o, none⟩) (by ((try simp only [World.size_alloc, World.size_setCell, World.size_drew, size_drewN]); omega))); (have z2_0 : w.heap.size < w2.heap.size := (by omega)); (have hc2_1 : ∀ o, w2.cell? ⟨w.heap.size + 1, o, none⟩ = _ := fun o => hb2.cell (p := ⟨w.heap.size + 1, o, none⟩) (by ((try simp only [World.size_alloc, World.size_setCell, World.size_drew, size_drewN]); omega))); (have hf2_1 : ∀ o, w2.frozen? ⟨w.heap.size + 1, o, none⟩ = _ := fun o => hb2.frozen (p := ⟨w.heap.size + 1, o, none⟩) (by ((try simp only [World.size_alloc, World.size_setCell, World.size_drew, size_drewN]); omega))); (have z2_1 : w.heap.size + 1 < w2.heap.size := (by omega)); (have hc2_2 : ∀ o, w2.cell? ⟨w.heap.size + 1 + 1, o, none⟩ = _ := fun o => hb2.cell (p := ⟨w.heap.size + 1 + 1, o, none⟩) (by ((try simp only [World.size_alloc, World.size_setCell, World.size_drew, size_drewN]); omega))); (have hf2_2 : ∀ o, w2.frozen? ⟨w.heap.size + 1 + 1, o, none⟩ = _ := fun o => hb2.frozen (p := ⟨w.heap.size + 1 + 1, o, none⟩) (by ((try simp only [World.size_alloc, World.size_setCell, World.size_drew, size_drewN]); omega))); (have z2_2 : w.heap.size + 1 + 1 < w2.heap.size := (by omega)); (have hc2_3 : ∀ o, w2.cell? ⟨w.heap.size + 1 + 1 + 1, o, none⟩ = _ := fun o => hb2.cell (p := ⟨w.heap.size + 1 + 1 + 1, o, none⟩) (by ((try simp only [World.size_alloc, World.size_setCell, World.size_drew, size_drewN]); omega))); (have hf2_3 : ∀ o, w2.frozen? ⟨w.heap.size + 1 + 1 + 1, o, none⟩ = _ := fun o => hb2.frozen (p := ⟨w.heap.size + 1 + 1 + 1, o, none⟩) (by ((try simp only [World.size_alloc, World.size_setCell, World.size_drew, size_drewN]); omega))); (have z2_3 : w.heap.size + 1 + 1 + 1 < w2.heap.size := (by omega)); (have hc2_4 : ∀ o, w2.cell? ⟨w.heap.size + 1 + 1 + 1 + 1, o, none⟩ = _ := fun o => hb2.cell (p := ⟨w.heap.size + 1 + 1 + 1 + 1, o, none⟩) (by ((try simp only [World.size_alloc, World.size_setCell, World.size_drew, size_drewN]); omega))); (have hf2_4 : ∀ o, w2.frozen? ⟨w.heap.size + 1 + 1 + 1 + 1, o, none⟩ = _ := fun o => hb2.frozen (p := ⟨w.heap.size + 1 + 1 + 1 + 1, o, none⟩) (by ((try simp only [World.size_alloc, World.size_setCell, World.size_drew, size_drewN]); omega))); (have z2_4 : w.heap.size + 1 + 1 + 1 + 1 < w2.heap.size := (by omega)))))
          all_goals (
            go_wp2_with fail
            refine (HCM.out _).mono ?_
            rintro e w3 ⟨rfl, hb3⟩
            have hs3 := hb3.size
            try simp only [World.size_alloc, World.size_setCell, World.size_drew, size_drewN] at hs3
            have hc3_0 : ∀ o, w3.cell? ⟨w.heap.size, o, none⟩ = _ := fun o => hb3.cell (p := ⟨w.heap.size, o, none⟩) (by ((try simp only [World.size_alloc, World.size_setCell, World.size_drew, size_drewN]); omega))
            have hf3_0 : ∀ o, w3.frozen? ⟨w.heap.size, o, none⟩ = _ := fun o => hb3.frozen (p := ⟨w.heap.size, o, none⟩) (by ((try simp only [World.size_alloc, World.size_setCell, World.size_drew, size_drewN]); omega))
            have z3_0 : w.heap.size < w3.heap.size := (by omega)
            have hc3_1 : ∀ o, w3.cell? ⟨w.heap.size + 1, o, none⟩ = _ := fun o => hb3.cell (p := ⟨w.heap.size + 1, o, none⟩) (by ((try simp only [World.size_alloc, World.size_setCell, World.size_drew, size_drewN]); omega))
            have hf3_1 : ∀ o, w3.frozen? ⟨w.heap.size + 1, o, none⟩ = _ := fun o => hb3.frozen (p := ⟨w.heap.size + 1, o, none⟩) (by ((try simp only [World.size_alloc, World.size_setCell, World.size_drew, size_drewN]); omega))
            have z3_1 : w.heap.size + 1 < w3.heap.size := (by omega)
            have hc3_2 : ∀ o, w3.cell? ⟨w.heap.size + 1 + 1, o, none⟩ = _ := fun o => hb3.cell (p := ⟨w.heap.size + 1 + 1, o, none⟩) (by ((try simp only [World.size_alloc, World.size_setCell, World.size_drew, size_drewN]); omega))
            have hf3_2 : ∀ o, w3.frozen? ⟨w.heap.size + 1 + 1, o, none⟩ = _ := fun o => hb3.frozen (p := ⟨w.heap.size + 1 + 1, o, none⟩) (by ((try simp only [World.size_alloc, World.size_setCell, World.size_drew, size_drewN]); omega))
            have z3_2 : w.heap.size + 1 + 1 < w3.heap.size := (by omega)
            have hc3_3 : ∀ o, w3.cell? ⟨w.heap.size + 1 + 1 + 1, o, none⟩ = _ := fun o => hb3.cell (p := ⟨w.heap.size + 1 + 1 + 1, o, none⟩) (by ((try simp only [World.size_alloc, World.size_setCell, World.size_drew, size_drewN]); omega))
            have hf3_3 : ∀ o, w3.frozen? ⟨w.heap.size + 1 + 1 + 1, o, none⟩ = _ := fun o => hb3.frozen (p := ⟨w.heap.size + 1 + 1 + 1, o, none⟩) (by ((try simp only [World.size_alloc, World.size_setCell, World.size_drew, size_drewN]); omega))
            have z3_3 : w.heap.size + 1 + 1 + 1 < w3.heap.size := (by omega)
            have hc3_4 : ∀ o, w3.cell? ⟨w.heap.size + 1 + 1 + 1 + 1, o, none⟩ = _ := fun o => hb3.cell (p := ⟨w.heap.size + 1 + 1 + 1 + 1, o, none⟩) (by ((try simp only [World.size_alloc, World.size_setCell, World.size_drew, size_drewN]); omega))
            have hf3_4 : ∀ o, w3.frozen? ⟨w.heap.size + 1 + 1 + 1 + 1, o, none⟩ = _ := fun o => hb3.frozen (p := ⟨w.heap.size + 1 + 1 + 1 + 1, o, none⟩) (by ((try simp only [World.size_alloc, World.size_setCell, World.size_drew, size_drewN]); omega))
            have z3_4 : w.heap.size + 1 + 1 + 1 + 1 < w3.heap.size := (by omega)
            go_wp2_with fail
            refine (HSW.out _).mono ?_
            rintro e w4 ⟨rfl, hb4⟩
            have hs4 := hb4.size
            try simp only [World.size_alloc, World.size_setCell, World.size_drew, size_drewN] at hs4
            have hc4_0 : ∀ o, w4.cell? ⟨w.heap.size, o, none⟩ = _ := fun o => hb4.cell (p := ⟨w.heap.size, o, none⟩) (by ((try simp only [World.size_alloc, World.size_setCell, World.size_drew, size_drewN]); omega))
            have hf4_0 : ∀ o, w4.frozen? ⟨w.heap.size, o, none⟩ = _ := fun o => hb4.frozen (p := ⟨w.heap.size, o, none⟩) (by ((try simp only [World.size_alloc, World.size_setCell, World.size_drew, size_drewN]); omega))
            have z4_0 : w.heap.size < w4.heap.size := (by omega)
            have hc4_1 : ∀ o, w4.cell? ⟨w.heap.size + 1, o, none⟩ = _ := fun o => hb4.cell (p := ⟨w.heap.size + 1, o, none⟩) (by ((try simp only [World.size_alloc, World.size_setCell, World.size_drew, size_drewN]); omega))
            have hf4_1 : ∀ o, w4.frozen? ⟨w.heap.size + 1, o, none⟩ = _ := fun o => hb4.frozen (p := ⟨w.heap.size + 1, o, none⟩) (by ((try simp only [World.size_alloc, World.size_setCell, World.size_drew, size_drewN]); omega))
            have z4_1 : w.heap.size + 1 < w4.heap.size := (by omega)
            have hc4_2 : ∀ o, w4.cell? ⟨w.heap.size + 1 + 1, o, none⟩ = _ := fun o => hb4.cell (p := ⟨w.heap.size + 1 + 1, o, none⟩) (by ((try simp only [World.size_alloc, World.size_setCell, World.size_drew, size_drewN]); omega))
            have hf4_2 : ∀ o, w4.frozen? ⟨w.heap.size + 1 + 1, o, none⟩ = _ := fun o => hb4.frozen (p := ⟨w.heap.size + 1 + 1, o, none⟩) (by ((try simp only [World.size_alloc, World.size_setCell, World.size_drew, size_drewN]); omega))
            have z4_2 : w.heap.size + 1 + 1 < w4.heap.size := (by omega)
            have hc4_3 : ∀ o, w4.cell? ⟨w.heap.size + 1 + 1 + 1, o, none⟩ = _ := fun o => hb4.cell (p := ⟨w.heap.size + 1 + 1 + 1, o, none⟩) (by ((try simp only [World.size_alloc, World.size_setCell, World.size_drew, size_drewN]); omega))
            have hf4_3 : ∀ o, w4.frozen? ⟨w.heap.size + 1 + 1 + 1, o, none⟩ = _ := fun o => hb4.frozen (p := ⟨w.heap.size + 1 + 1 + 1, o, none⟩) (by ((try simp only [World.size_alloc, World.size_setCell, World.size_drew, size_drewN]); omega))
            have z4_3 : w.heap.size + 1 + 1 + 1 < w4.heap.size := (by omega)
            have hc4_4 : ∀ o, w4.cell? ⟨w.heap.size + 1 + 1 + 1 + 1, o, none⟩ = _ := fun o => hb4.cell (p := ⟨w.heap.size + 1 + 1 + 1 + 1, o, none⟩) (by ((try simp only [World.size_alloc, World.size_setCell, World.size_drew, size_drewN]); omega))
            have hf4_4 : ∀ o, w4.frozen? ⟨w.heap.size + 1 + 1 + 1 + 1, o, none⟩ = _ := fun o => hb4.frozen (p := ⟨w.heap.size + 1 + 1 + 1 + 1, o, none⟩) (by ((try simp only [World.size_alloc, World.size_setCell, World.size_drew, size_drewN]); omega))
            have z4_4 : w.heap.size + 1 + 1 + 1 + 1 < w4.heap.size := (by omega)
            go_wp2
            go_region
            go_wp2
            go_roundw
            case measure => first | (simp [intOf]; done) | (simp [intOf]; omega)
            case rel =>
              have hxL := BL.out
              have hxC := BC.out
              have hxQ := BQ.out
              have hxR := BR.out
              refine ⟨k, (Q + 2 ^ k), S, (k : Int) - 1, by go_num, rfl, by omega, HN, hide ?_, hide ?_, hide ?_, hide ?_, hide (by (repeat' (first | (with_reducible exact Below.refl _ _) | (with_reducible assumption) | (with_reducible refine Below.alloc ?_ ?_ _) | (with_reducible refine Below.drew ?_) | (with_reducible refine below_drewN ?_ _) | (with_reducible refine Below.setCell ?_ ?_ _) | (with_reducible refine below_step (by with_reducible assumption) ?_ ?_) | (first | (with_reducible exact Nat.le_refl _) | (with_reducible assumption) | omega | (simp only [World.size_alloc, World.size_setCell, World.size_drew, size_drewN]; omega) | (simp; omega) | (simp; done)))))⟩
              · (repeat' (first | (with_reducible assumption) | (with_reducible refine Box.drewN ?_ _) | (with_reducible refine Box.drew ?_) | (with_reducible refine Box.alloc ?_ _) | (refine Box.other ?_ (by intro hh; dsimp only at hh; omega) _) | (refine Box.below ?_ (by with_reducible assumption) ?_) | (with_reducible exact Nat.lt_of_lt_of_le (by assumption) (by assumption)) | (simp only [World.size_alloc, World.size_setCell, World.size_drew, size_drewN]; omega)))
              · (repeat' (first | (with_reducible assumption) | (with_reducible refine Box.drewN ?_ _) | (with_reducible refine Box.drew ?_) | (with_reducible refine Box.alloc ?_ _) | (refine Box.other ?_ (by intro hh; dsimp only at hh; omega) _) | (refine Box.below ?_ (by with_reducible assumption) ?_) | (with_reducible exact Nat.lt_of_lt_of_le (by assumption) (by assumption)) | (simp only [World.size_alloc, World.size_setCell, World.size_drew, size_drewN]; omega)))
              · have hdv := HD.out.d
                have hoth := HOTH.out hdv
                rw [hoth.1, hoth.2.1, hoth.2.2, ← HSET.out hdv]
                (repeat' (first | (with_reducible assumption) | (with_reducible refine Box.drewN ?_ _) | (with_reducible refine Box.drew ?_) | (with_reducible refine Box.alloc ?_ _) | (refine Box.other ?_ (by intro hh; dsimp only at hh; omega) _) | (refine Box.below ?_ (by with_reducible assumption) ?_) | (with_reducible exact Nat.lt_of_lt_of_le (by assumption) (by assumption)) | (simp only [World.size_alloc, World.size_setCell, World.size_drew, size_drewN]; omega)))
                refine Box.set1 (a1 := lim Q 1) ?_ _
                (repeat' (first | (with_reducible assumption) | (with_reducible refine Box.drewN ?_ _) | (with_reducible refine Box.drew ?_) | (with_reducible refine Box.alloc ?_ _) | (refine Box.other ?_ (by intro hh; dsimp only at hh; omega) _) | (refine Box.below ?_ (by with_reducible assumption) ?_) | (with_reducible exact Nat.lt_of_lt_of_le (by assumption) (by assumption)) | (simp only [World.size_alloc, World.size_setCell, World.size_drew, size_drewN]; omega)))
              · (repeat' (first | (with_reducible assumption) | (with_reducible refine Box.drewN ?_ _) | (with_reducible refine Box.drew ?_) | (with_reducible refine Box.alloc ?_ _) | (refine Box.other ?_ (by intro hh; dsimp only at hh; omega) _) | (refine Box.below ?_ (by with_reducible assumption) ?_) | (with_reducible exact Nat.lt_of_lt_of_le (by assumption) (by assumption)) | (simp only [World.size_alloc, World.size_setCell, World.size_drew, size_drewN]; omega)))
                refine Box.put (a0 := lim T 0) (a1 := lim T 1) (a2 := lim T 2) (a3 := lim T 3) ?_ _ _ _ _
                (repeat' (first | (with_reducible assumption) | (with_reducible refine Box.drewN ?_ _) | (with_reducible refine Box.drew ?_) | (with_reducible refine Box.alloc ?_ _) | (refine Box.other ?_ (by intro hh; dsimp only at hh; omega) _) | (refine Box.below ?_ (by with_reducible assumption) ?_) | (with_reducible exact Nat.lt_of_lt_of_le (by assumption) (by assumption)) | (simp only [World.size_alloc, World.size_setCell, World.size_drew, size_drewN]; omega)))
                refine Box.put (a0 := lim R 0) (a1 := lim R 1) (a2 := lim R 2) (a3 := lim R 3) ?_ _ _ _ _
                (repeat' (first | (with_reducible assumption) | (with_reducible refine Box.drewN ?_ _) | (with_reducible refine Box.drew ?_) | (with_reducible refine Box.alloc ?_ _) | (refine Box.other ?_ (by intro hh; dsimp only at hh; omega) _) | (refine Box.below ?_ (by with_reducible assumption) ?_) | (with_reducible exact Nat.lt_of_lt_of_le (by assumption) (by assumption)) | (simp only [World.size_alloc, World.size_setCell, World.size_drew, size_drewN]; omega))))
        have hM : (M256 : Nat) = 115792089237316195423570985008687907853269984665640564039457584007913129639936 := rfl
        obtain ⟨T, hTe⟩ : ∃ T : Nat, 2 * R + b - M256 = T := ⟨_, rfl⟩
        have hT256 : T < M256 := by omega
        have hO : shlO R (b : Int) = 1 := by rw [shlO, Int.toNat_natCast, if_neg (by omega)]
        have hV : shlV R (b : Int) = T := by rw [shlV, Int.toNat_natCast, if_neg (by omega)]; omega
        obtain ⟨S, hSe⟩ : ∃ S : Nat, 2 * R + b - C = S := ⟨_, rfl⟩
        have hW : wrapV T C = S := by rw [wrapV]; split <;> omega
        have HN := hide (show DivS L H C k S (Q + 2 ^ k) from hSe ▸ HD.out.high hL hlt HB.out (by omega))
        have HSW := hide (subw_c (A := T) (B := C) hT256 hC)
        clear hTe hSe
        clear hT hT2 hM
        have HCM := hide (fun w => cmp_c (isU_lim hT256) (isU_lim hC) w)
        go_wp2
        go_region_law (first | (go_simp; (go_at_call 65; (with_reducible refine (HSH.out _).mono ?_); rintro e w2 ⟨rfl, hb2⟩; (have hs2 := hb2.size); (try simp only [World.size_alloc, World.size_setCell, World.size_drew, size_drewN] at hs2); (have hc2_0 : ∀ o, w2.cell? ⟨w.heap.size, o, none⟩ = _ := fun o => hb2.cell (p := ⟨w.heap.size, o, none⟩) (by ((try simp only [World.size_alloc, World.size_setCell, World.size_drew, size_drewN]); omega))); (have hf2_0 : ∀ o, w2.frozen? ⟨w.heap.size, o, none⟩ = _ := fun o => hb2.frozen (p := ⟨w.heap.size, o, none⟩) (by ((try simp only [World.size_alloc, World.size_setCell, World.size_drew, size_drewN]); omega))); (have z2_0 : w.heap.size < w2.heap.size := (by omega)); (have hc2_1 : ∀ o, w2.cell? ⟨w.heap.size + 1, o, none⟩ = _ := fun o => hb2.cell (p := ⟨w.heap.size + 1, o, none⟩) (by ((try simp only [World.size_alloc, World.size_setCell, World.size_drew, size_drewN]); omega))); (have hf2_1 : ∀ o, w2.frozen? ⟨w.heap.size + 1, o, none⟩ = _ := fun o => hb2.frozen (p := ⟨w.heap.size + 1, o, none⟩) (by ((try simp only [World.size_alloc, World.size_setCell, World.size_drew, size_drewN]); omega))); (have z2_1 : w.heap.size + 1 < w2.heap.size := (by omega)); (have hc2_2 : ∀ o, w2.cell? ⟨w.heap.size + 1 + 1, o, none⟩ = _ := fun o => hb2.cell (p := ⟨w.heap.size + 1 + 1, o, none⟩) (by ((try simp only [World.size_alloc, World.size_setCell, World.size_drew, size_drewN]); omega))); (have hf2_2 : ∀ o, w2.frozen? ⟨w.heap.size + 1 + 1, o, none⟩ = _ := fun o => hb2.frozen (p := ⟨w.heap.size + 1 + 1, o, none⟩) (by ((try simp only [World.size_alloc, World.size_setCell, World.size_drew, size_drewN]); omega))); (have z2_2 : w.heap.size + 1 + 1 < w2.heap.size := (by omega)); (have hc2_3 : ∀ o, w2.cell? ⟨w.heap.size + 1 + 1 + 1, o, none⟩ = _ := fun o => hb2.cell (p := ⟨w.heap.size + 1 + 1 + 1, o, none⟩) (by ((try simp only [World.size_alloc, World.size_setCell, World.size_drew, size_drewN]); omega))); (have hf2_3 : ∀ o, w2.frozen? ⟨w.heap.size + 1 + 1 + 1, o, none⟩ = _ := fun o => hb2.frozen (p := ⟨w.heap.size + 1 + 1 + 1, o, none⟩) (by ((try simp only [World.size_alloc, World.size_setCell, World.size_drew, size_drewN]); omega))); (have z2_3 : w.heap.size + 1 + 1 + 1 < w2.heap.size := (by omega)); (have hc2_4 : ∀ o, w2.cell? ⟨w.heap.size + 1 + 1 + 1 + 1, o, none⟩ = _ := fun o => hb2.cell (p := ⟨w.heap.size + 1 + 1 + 1 + 1, o, none⟩) (by ((try simp only [World.size_alloc, World.size_setCell, World.size_drew, size_drewN]); omega))); (have hf2_4 : ∀ o, w2.frozen? ⟨w.heap.size + 1 + 1 + 1 + 1, o, none⟩ = _ := fun o => hb2.frozen (p := ⟨w.heap.size + 1 + 1 + 1 + 1, o, none⟩) (by ((try simp only [World.size_alloc, World.size_setCell, World.size_drew, size_drewN]); omega))); (have z2_4 : w.heap.size + 1 + 1 + 1 + 1 < w2.heap.size := (by omega)))))
        all_goals (
          go_wp2_with fail
          refine (HSW.out _).mono ?_
          rintro e w3 ⟨rfl, hb3⟩
          have hs3 := hb3.size
          try simp only [World.size_alloc, World.size_setCell, World.size_drew, size_drewN] at hs3
          have hc3_0 : ∀ o, w3.cell? ⟨w.heap.size, o, none⟩ = _ := fun o => hb3.cell (p := ⟨w.heap.size, o, none⟩) (by ((try simp only [World.size_alloc, World.size_setCell, World.size_drew, size_drewN]); omega))
          have hf3_0 : ∀ o, w3.frozen? ⟨w.heap.size, o, none⟩ = _ := fun o => hb3.frozen (p := ⟨w.heap.size, o, none⟩) (by ((try simp only [World.size_alloc, World.size_setCell, World.size_drew, size_drewN]); omega))
          have z3_0 : w.heap.size < w3.heap.size := (by omega)
          have hc3_1 : ∀ o, w3.cell? ⟨w.heap.size + 1, o, none⟩ = _ := fun o => hb3.cell (p := ⟨w.heap.size + 1, o, none⟩) (by ((try simp only [World.size_alloc, World.size_setCell, World.size_drew, size_drewN]); omega))
          have hf3_1 : ∀ o, w3.frozen? ⟨w.heap.size + 1, o, none⟩ = _ := fun o => hb3.frozen (p := ⟨w.heap.size + 1, o, none⟩) (by ((try simp only [World.size_alloc, World.size_setCell, World.size_drew, size_drewN]); omega))
          have z3_1 : w.heap.size + 1 < w3.heap.size := (by omega)
          have hc3_2 : ∀ o, w3.cell? ⟨w.heap.size + 1 + 1, o, none⟩ = _ := fun o => hb3.cell (p := ⟨w.heap.size + 1 + 1, o, none⟩) (by ((try simp only [World.size_alloc, World.size_setCell, World.size_drew, size_drewN]); omega))
          have hf3_2 : ∀ o, w3.frozen? ⟨w.heap.size + 1 + 1, o, none⟩ = _ := fun o => hb3.frozen (p := ⟨w.heap.size + 1 + 1, o, none⟩) (by ((try simp only [World.size_alloc, World.size_setCell, World.size_drew, size_drewN]); omega))
          have z3_2 : w.heap.size + 1 + 1 < w3.heap.size := (by omega)
          have hc3_3 : ∀ o, w3.cell? ⟨w.heap.size + 1 + 1 + 1, o, none⟩ = _ := fun o => hb3.cell (p := ⟨w.heap.size + 1 + 1 + 1, o, none⟩) (by ((try simp only [World.size_alloc, World.size_setCell, World.size_drew, size_drewN]); omega))
          have hf3_3 : ∀ o, w3.frozen? ⟨w.heap.size + 1 + 1 + 1, o, none⟩ = _ := fun o => hb3.frozen (p := ⟨w.heap.size + 1 + 1 + 1, o, none⟩) (by ((try simp only [World.size_alloc, World.size_setCell, World.size_drew, size_drewN]); omega))
          have z3_3 : w.heap.size + 1 + 1 + 1 < w3.heap.size := (by omega)
          have hc3_4 : ∀ o, w3.cell? ⟨w.heap.size + 1 + 1 + 1 + 1, o, none⟩ = _ := fun o => hb3.cell (p := ⟨w.heap.size + 1 + 1 + 1 + 1, o, none⟩) (by ((try simp only [World.size_alloc, World.size_setCell, World.size_drew, size_drewN]); omega))
          have hf3_4 : ∀ o, w3.frozen? ⟨w.heap.size + 1 + 1 + 1 + 1, o, none⟩ = _ := fun o => hb3.frozen (p := ⟨w.heap.size + 1 + 1 + 1 + 1, o, none⟩) (by ((try simp only [World.size_alloc, World.size_setCell, World.size_drew, size_drewN]); omega))
          have z3_4 : w.heap.size + 1 + 1 + 1 + 1 < w3.heap.size := (by omega)
          go_wp2
          go_region
          go_wp2
          go_roundw
          case measure => first | (simp [intOf]; done) | (simp [intOf]; omega)
          case rel =>
            have hxL := BL.out
            have hxC := BC.out
            have hxQ := BQ.out
            have hxR := BR.out
            refine ⟨k, (Q + 2 ^ k), S, (k : Int) - 1, by go_num, rfl, by omega, HN, hide ?_, hide ?_, hide ?_, hide ?_, hide (by (repeat' (first | (with_reducible exact Below.refl _ _) | (with_reducible assumption) | (with_reducible refine Below.alloc ?_ ?_ _) | (with_reducible refine Below.drew ?_) | (with_reducible refine below_drewN ?_ _) | (with_reducible refine Below.setCell ?_ ?_ _) | (with_reducible refine below_step (by with_reducible assumption) ?_ ?_) | (first | (with_reducible exact Nat.le_refl _) | (with_reducible assumption) | omega | (simp only [World.size_alloc, World.size_setCell, World.size_drew, size_drewN]; omega) | (simp; omega) | (simp; done)))))⟩
            · (repeat' (first | (with_reducible assumption) | (with_reducible refine Box.drewN ?_ _) | (with_reducible refine Box.drew ?_) | (with_reducible refine Box.alloc ?_ _) | (refine Box.other ?_ (by intro hh; dsimp only at hh; omega) _) | (refine Box.below ?_ (by with_reducible assumption) ?_) | (with_reducible exact Nat.lt_of_lt_of_le (by assumption) (by assumption)) | (simp only [World.size_alloc, World.size_setCell, World.size_drew, size_drewN]; omega)))
            · (repeat' (first | (with_reducible assumption) | (with_reducible refine Box.drewN ?_ _) | (with_reducible refine Box.drew ?_) | (with_reducible refine Box.alloc ?_ _) | (refine Box.other ?_ (by intro hh; dsimp only at hh; omega) _) | (refine Box.below ?_ (by with_reducible assumption) ?_) | (with_reducible exact Nat.lt_of_lt_of_le (by assumption) (by assumption)) | (simp only [World.size_alloc, World.size_setCell, World.size_drew, size_drewN]; omega)))
            · have hdv := HD.out.d
              have hoth := HOTH.out hdv
              rw [hoth.1, hoth.2.1, hoth.2.2, ← HSET.out hdv]
              (repeat' (first | (with_reducible assumption) | (with_reducible refine Box.drewN ?_ _) | (with_reducible refine Box.drew ?_) | (with_reducible refine Box.alloc ?_ _) | (refine Box.other ?_ (by intro hh; dsimp only at hh; omega) _) | (refine Box.below ?_ (by with_reducible assumption) ?_) | (with_reducible exact Nat.lt_of_lt_of_le (by assumption) (by assumption)) | (simp only [World.size_alloc, World.size_setCell, World.size_drew, size_drewN]; omega)))
              refine Box.set1 (a1 := lim Q 1) ?_ _
              (repeat' (first | (with_reducible assumption) | (with_reducible refine Box.drewN ?_ _) | (with_reducible refine Box.drew ?_) | (with_reducible refine Box.alloc ?_ _) | (refine Box.other ?_ (by intro hh; dsimp only at hh; omega) _) | (refine Box.below ?_ (by with_reducible assumption) ?_) | (with_reducible exact Nat.lt_of_lt_of_le (by assumption) (by assumption)) | (simp only [World.size_alloc, World.size_setCell, World.size_drew, size_drewN]; omega)))
            · (repeat' (first | (with_reducible assumption) | (with_reducible refine Box.drewN ?_ _) | (with_reducible refine Box.drew ?_) | (with_reducible refine Box.alloc ?_ _) | (refine Box.other ?_ (by intro hh; dsimp only at hh; omega) _) | (refine Box.below ?_ (by with_reducible assumption) ?_) | (with_reducible exact Nat.lt_of_lt_of_le (by assumption) (by assumption)) | (simp only [World.size_alloc, World.size_setCell, World.size_drew, size_drewN]; omega)))
              refine Box.put (a0 := lim T 0) (a1 := lim T 1) (a2 := lim T 2) (a3 := lim T 3) ?_ _ _ _ _
              (repeat' (first | (with_reducible assumption) | (with_reducible refine Box.drewN ?_ _) | (with_reducible refine Box.drew ?_) | (with_reducible refine Box.alloc ?_ _) | (refine Box.other ?_ (by intro hh; dsimp only at hh; omega) _) | (refine Box.below ?_ (by with_reducible assumption) ?_) | (with_reducible exact Nat.lt_of_lt_of_le (by assumption) (by assumption)) | (simp only [World.size_alloc, World.size_setCell, World.size_drew, size_drewN]; omega)))
              refine Box.put (a0 := lim R 0) (a1 := lim R 1) (a2 := lim R 2) (a3 := lim R 3) ?_ _ _ _ _
              (repeat' (first | (with_reducible assumption) | (with_reducible refine Box.drewN ?_ _) | (with_reducible refine Box.drew ?_) | (with_reducible refine Box.alloc ?_ _) | (refine Box.other ?_ (by intro hh; dsimp only at hh; omega) _) | (refine Box.below ?_ (by with_reducible assumption) ?_) | (with_reducible exact Nat.lt_of_lt_of_le (by assumption) (by assumption)) | (simp only [World.size_alloc, World.size_setCell, World.size_drew, size_drewN]; omega))))
      by_cases h2 : k < 192
      · have hq : (k : Int).tdiv 64 = 2 := by rw [Int.tdiv_eq_ediv_of_nonneg (by omega)]; omega
        have hw : IntKind.i64.wrap 2 = 2 := by decide
        have hbit : bits .and .u64 (lim L 2 / 2 ^ s) 1 = ((b : Nat) : Int) := by rw [← HB.out]; exact bit_law L k (by omega) HS.out
        have HSET := hide (fun h => lim_set (Q := Q) (k := k) (c := 2) (s := s) h (by omega) HS.out)
        have HOTH := hide (fun h => And.intro (lim_other (Q := Q) (k := k) (c := 0) h (by omega)) (And.intro (lim_other (Q := Q) (k := k) (c := 1) h (by omega)) (lim_other (Q := Q) (k := k) (c := 3) h (by omega))))
        by_cases hT : 2 * R + b < C
        · obtain ⟨T, hTe⟩ : ∃ T : Nat, 2 * R + b = T := ⟨_, rfl⟩
          have hT256 : T < M256 := by omega
          have hO : shlO R (b : Int) = 0 := by rw [shlO, Int.toNat_natCast, if_pos (by omega)]
          have hV : shlV R (b : Int) = T := by rw [shlV, Int.toNat_natCast, if_pos (by omega)]; omega
          have HN := hide (show DivS L H C k T Q from hTe ▸ HD.out.low HB.out hT)
          have hcm : cmpV T C = -1 := by rw [cmpV, if_pos (by omega)]
          clear hTe
          clear hT
          have HCM := hide (fun w => cmp_c (isU_lim hT256) (isU_lim hC) w)
          go_wp2
          go_region_law (first | (go_simp; (go_at_call 65; (with_reducible refine (HSH.out _).mono ?_); rintro e w2 ⟨rfl, hb2⟩; (have hs2 := hb2.size); (try simp only [World.size_alloc, World.size_setCell, World.size_drew, size_drewN] at hs2); (have hc2_0 : ∀ o, w2.cell? ⟨w.heap.size, o, none⟩ = _ := fun o => hb2.cell (p := ⟨w.heap.size, o, none⟩) (by ((try simp only [World.size_alloc, World.size_setCell, World.size_drew, size_drewN]); omega))); (have hf2_0 : ∀ o, w2.frozen? ⟨w.heap.size, o, none⟩ = _ := fun o => hb2.frozen (p := ⟨w.heap.size, o, none⟩) (by ((try simp only [World.size_alloc, World.size_setCell, World.size_drew, size_drewN]); omega))); (have z2_0 : w.heap.size < w2.heap.size := (by omega)); (have hc2_1 : ∀ o, w2.cell? ⟨w.heap.size + 1, o, none⟩ = _ := fun o => hb2.cell (p := ⟨w.heap.size + 1, o, none⟩) (by ((try simp only [World.size_alloc, World.size_setCell, World.size_drew, size_drewN]); omega))); (have hf2_1 : ∀ o, w2.frozen? ⟨w.heap.size + 1, o, none⟩ = _ := fun o => hb2.frozen (p := ⟨w.heap.size + 1, o, none⟩) (by ((try simp only [World.size_alloc, World.size_setCell, World.size_drew, size_drewN]); omega))); (have z2_1 : w.heap.size + 1 < w2.heap.size := (by omega)); (have hc2_2 : ∀ o, w2.cell? ⟨w.heap.size + 1 + 1, o, none⟩ = _ := fun o => hb2.cell (p := ⟨w.heap.size + 1 + 1, o, none⟩) (by ((try simp only [World.size_alloc, World.size_setCell, World.size_drew, size_drewN]); omega))); (have hf2_2 : ∀ o, w2.frozen? ⟨w.heap.size + 1 + 1, o, none⟩ = _ := fun o => hb2.frozen (p := ⟨w.heap.size + 1 + 1, o, none⟩) (by ((try simp only [World.size_alloc, World.size_setCell, World.size_drew, size_drewN]); omega))); (have z2_2 : w.heap.size + 1 + 1 < w2.heap.size := (by omega)); (have hc2_3 : ∀ o, w2.cell? ⟨w.heap.size + 1 + 1 + 1, o, none⟩ = _ := fun o => hb2.cell (p := ⟨w.heap.size + 1 + 1 + 1, o, none⟩) (by ((try simp only [World.size_alloc, World.size_setCell, World.size_drew, size_drewN]); omega))); (have hf2_3 : ∀ o, w2.frozen? ⟨w.heap.size + 1 + 1 + 1, o, none⟩ = _ := fun o => hb2.frozen (p := ⟨w.heap.size + 1 + 1 + 1, o, none⟩) (by ((try simp only [World.size_alloc, World.size_setCell, World.size_drew, size_drewN]); omega))); (have z2_3 : w.heap.size + 1 + 1 + 1 < w2.heap.size := (by omega)); (have hc2_4 : ∀ o, w2.cell? ⟨w.heap.size + 1 + 1 + 1 + 1, o, none⟩ = _ := fun o => hb2.cell (p := ⟨w.heap.size + 1 + 1 + 1 + 1, o, none⟩) (by ((try simp only [World.size_alloc, World.size_setCell, World.size_drew, size_drewN]); omega))); (have hf2_4 : ∀ o, w2.frozen? ⟨w.heap.size + 1 + 1 + 1 + 1, o, none⟩ = _ := fun o => hb2.frozen (p := ⟨w.heap.size + 1 + 1 + 1 + 1, o, none⟩) (by ((try simp only [World.size_alloc, World.size_setCell, World.size_drew, size_drewN]); omega))); (have z2_4 : w.heap.size + 1 + 1 + 1 + 1 < w2.heap.size := (by omega)))))
          all_goals (
            go_wp2_with fail
            refine (HCM.out _).mono ?_
            rintro e w3 ⟨rfl, hb3⟩
            have hs3 := hb3.size
            try simp only [World.size_alloc, World.size_setCell, World.size_drew, size_drewN] at hs3
            have hc3_0 : ∀ o, w3.cell? ⟨w.heap.size, o, none⟩ = _ := fun o => hb3.cell (p := ⟨w.heap.size, o, none⟩) (by ((try simp only [World.size_alloc, World.size_setCell, World.size_drew, size_drewN]); omega))
            have hf3_0 : ∀ o, w3.frozen? ⟨w.heap.size, o, none⟩ = _ := fun o => hb3.frozen (p := ⟨w.heap.size, o, none⟩) (by ((try simp only [World.size_alloc, World.size_setCell, World.size_drew, size_drewN]); omega))
            have z3_0 : w.heap.size < w3.heap.size := (by omega)
            have hc3_1 : ∀ o, w3.cell? ⟨w.heap.size + 1, o, none⟩ = _ := fun o => hb3.cell (p := ⟨w.heap.size + 1, o, none⟩) (by ((try simp only [World.size_alloc, World.size_setCell, World.size_drew, size_drewN]); omega))
            have hf3_1 : ∀ o, w3.frozen? ⟨w.heap.size + 1, o, none⟩ = _ := fun o => hb3.frozen (p := ⟨w.heap.size + 1, o, none⟩) (by ((try simp only [World.size_alloc, World.size_setCell, World.size_drew, size_drewN]); omega))
            have z3_1 : w.heap.size + 1 < w3.heap.size := (by omega)
            have hc3_2 : ∀ o, w3.cell? ⟨w.heap.size + 1 + 1, o, none⟩ = _ := fun o => hb3.cell (p := ⟨w.heap.size + 1 + 1, o, none⟩) (by ((try simp only [World.size_alloc, World.size_setCell, World.size_drew, size_drewN]); omega))
            have hf3_2 : ∀ o, w3.frozen? ⟨w.heap.size + 1 + 1, o, none⟩ = _ := fun o => hb3.frozen (p := ⟨w.heap.size + 1 + 1, o, none⟩) (by ((try simp only [World.size_alloc, World.size_setCell, World.size_drew, size_drewN]); omega))
            have z3_2 : w.heap.size + 1 + 1 < w3.heap.size := (by omega)
            have hc3_3 : ∀ o, w3.cell? ⟨w.heap.size + 1 + 1 + 1, o, none⟩ = _ := fun o => hb3.cell (p := ⟨w.heap.size + 1 + 1 + 1, o, none⟩) (by ((try simp only [World.size_alloc, World.size_setCell, World.size_drew, size_drewN]); omega))
            have hf3_3 : ∀ o, w3.frozen? ⟨w.heap.size + 1 + 1 + 1, o, none⟩ = _ := fun o => hb3.frozen (p := ⟨w.heap.size + 1 + 1 + 1, o, none⟩) (by ((try simp only [World.size_alloc, World.size_setCell, World.size_drew, size_drewN]); omega))
            have z3_3 : w.heap.size + 1 + 1 + 1 < w3.heap.size := (by omega)
            have hc3_4 : ∀ o, w3.cell? ⟨w.heap.size + 1 + 1 + 1 + 1, o, none⟩ = _ := fun o => hb3.cell (p := ⟨w.heap.size + 1 + 1 + 1 + 1, o, none⟩) (by ((try simp only [World.size_alloc, World.size_setCell, World.size_drew, size_drewN]); omega))
            have hf3_4 : ∀ o, w3.frozen? ⟨w.heap.size + 1 + 1 + 1 + 1, o, none⟩ = _ := fun o => hb3.frozen (p := ⟨w.heap.size + 1 + 1 + 1 + 1, o, none⟩) (by ((try simp only [World.size_alloc, World.size_setCell, World.size_drew, size_drewN]); omega))
            have z3_4 : w.heap.size + 1 + 1 + 1 + 1 < w3.heap.size := (by omega)
            go_wp2
            go_roundw
            case measure => first | (simp [intOf]; done) | (simp [intOf]; omega)
            case rel =>
              have hxL := BL.out
              have hxC := BC.out
              have hxQ := BQ.out
              have hxR := BR.out
              refine ⟨k, Q, T, (k : Int) - 1, by go_num, rfl, by omega, HN, hide ?_, hide ?_, hide ?_, hide ?_, hide (by (repeat' (first | (with_reducible exact Below.refl _ _) | (with_reducible assumption) | (with_reducible refine Below.alloc ?_ ?_ _) | (with_reducible refine Below.drew ?_) | (with_reducible refine below_drewN ?_ _) | (with_reducible refine Below.setCell ?_ ?_ _) | (with_reducible refine below_step (by with_reducible assumption) ?_ ?_) | (first | (with_reducible exact Nat.le_refl _) | (with_reducible assumption) | omega | (simp only [World.size_alloc, World.size_setCell, World.size_drew, size_drewN]; omega) | (simp; omega) | (simp; done)))))⟩
              · (repeat' (first | (with_reducible assumption) | (with_reducible refine Box.drewN ?_ _) | (with_reducible refine Box.drew ?_) | (with_reducible refine Box.alloc ?_ _) | (refine Box.other ?_ (by intro hh; dsimp only at hh; omega) _) | (refine Box.below ?_ (by with_reducible assumption) ?_) | (with_reducible exact Nat.lt_of_lt_of_le (by assumption) (by assumption)) | (simp only [World.size_alloc, World.size_setCell, World.size_drew, size_drewN]; omega)))
              · (repeat' (first | (with_reducible assumption) | (with_reducible refine Box.drewN ?_ _) | (with_reducible refine Box.drew ?_) | (with_reducible refine Box.alloc ?_ _) | (refine Box.other ?_ (by intro hh; dsimp only at hh; omega) _) | (refine Box.below ?_ (by with_reducible assumption) ?_) | (with_reducible exact Nat.lt_of_lt_of_le (by assumption) (by assumption)) | (simp only [World.size_alloc, World.size_setCell, World.size_drew, size_drewN]; omega)))
              · (repeat' (first | (with_reducible assumption) | (with_reducible refine Box.drewN ?_ _) | (with_reducible refine Box.drew ?_) | (with_reducible refine Box.alloc ?_ _) | (refine Box.other ?_ (by intro hh; dsimp only at hh; omega) _) | (refine Box.below ?_ (by with_reducible assumption) ?_) | (with_reducible exact Nat.lt_of_lt_of_le (by assumption) (by assumption)) | (simp only [World.size_alloc, World.size_setCell, World.size_drew, size_drewN]; omega)))
              · (repeat' (first | (with_reducible assumption) | (with_reducible refine Box.drewN ?_ _) | (with_reducible refine Box.drew ?_) | (with_reducible refine Box.alloc ?_ _) | (refine Box.other ?_ (by intro hh; dsimp only at hh; omega) _) | (refine Box.below ?_ (by with_reducible assumption) ?_) | (with_reducible exact Nat.lt_of_lt_of_le (by assumption) (by assumption)) | (simp only [World.size_alloc, World.size_setCell, World.size_drew, size_drewN]; omega)))
                refine Box.put (a0 := lim R 0) (a1 := lim R 1) (a2 := lim R 2) (a3 := lim R 3) ?_ _ _ _ _
                (repeat' (first | (with_reducible assumption) | (with_reducible refine Box.drewN ?_ _) | (with_reducible refine Box.drew ?_) | (with_reducible refine Box.alloc ?_ _) | (refine Box.other ?_ (by intro hh; dsimp only at hh; omega) _) | (refine Box.below ?_ (by with_reducible assumption) ?_) | (with_reducible exact Nat.lt_of_lt_of_le (by assumption) (by assumption)) | (simp only [World.size_alloc, World.size_setCell, World.size_drew, size_drewN]; omega))))
        by_cases hT2 : 2 * R + b < M256
        · obtain ⟨T, hTe⟩ : ∃ T : Nat, 2 * R + b = T := ⟨_, rfl⟩
          have hT256 : T < M256 := by omega
          have hO : shlO R (b : Int) = 0 := by rw [shlO, Int.toNat_natCast, if_pos (by omega)]
          have hV : shlV R (b : Int) = T := by rw [shlV, Int.toNat_natCast, if_pos (by omega)]; omega
          obtain ⟨S, hSe⟩ : ∃ S : Nat, 2 * R + b - C = S := ⟨_, rfl⟩
          have hW : wrapV T C = S := by rw [wrapV]; split <;> omega
          have HN := hide (show DivS L H C k S (Q + 2 ^ k) from hSe ▸ HD.out.high hL hlt HB.out (by omega))
          have HSW := hide (subw_c (A := T) (B := C) hT256 hC)
          obtain ⟨z, hcm, hz0⟩ : ∃ z, cmpV T C = z ∧ 0 ≤ z := ⟨_, rfl, by rw [cmpV, if_neg (by omega)]; split <;> decide⟩
          clear hTe hSe
          clear hT hT2
          have HCM := hide (fun w => cmp_c (isU_lim hT256) (isU_lim hC) w)
          go_wp2
          go_region_law (first | (go_simp; (go_at_call 65; (with_reducible refine (HSH.out _).mono ?_); rintro e w2 ⟨rfl, hb2⟩; (have hs2 := hb2.size); (try simp only [World.size_alloc, World.size_setCell, World.size_drew, size_drewN] at hs2); (have hc2_0 : ∀ o, w2.cell? ⟨w.heap.size, o, none⟩ = _ := fun o => hb2.cell (p := ⟨w.heap.size, o, none⟩) (by ((try simp only [World.size_alloc, World.size_setCell, World.size_drew, size_drewN]); omega))); (have hf2_0 : ∀ o, w2.frozen? ⟨w.heap.size, o, none⟩ = _ := fun o => hb2.frozen (p := ⟨w.heap.size, o, none⟩) (by ((try simp only [World.size_alloc, World.size_setCell, World.size_drew, size_drewN]); omega))); (have z2_0 : w.heap.size < w2.heap.size := (by omega)); (have hc2_1 : ∀ o, w2.cell? ⟨w.heap.size + 1, o, none⟩ = _ := fun o => hb2.cell (p := ⟨w.heap.size + 1, o, none⟩) (by ((try simp only [World.size_alloc, World.size_setCell, World.size_drew, size_drewN]); omega))); (have hf2_1 : ∀ o, w2.frozen? ⟨w.heap.size + 1, o, none⟩ = _ := fun o => hb2.frozen (p := ⟨w.heap.size + 1, o, none⟩) (by ((try simp only [World.size_alloc, World.size_setCell, World.size_drew, size_drewN]); omega))); (have z2_1 : w.heap.size + 1 < w2.heap.size := (by omega)); (have hc2_2 : ∀ o, w2.cell? ⟨w.heap.size + 1 + 1, o, none⟩ = _ := fun o => hb2.cell (p := ⟨w.heap.size + 1 + 1, o, none⟩) (by ((try simp only [World.size_alloc, World.size_setCell, World.size_drew, size_drewN]); omega))); (have hf2_2 : ∀ o, w2.frozen? ⟨w.heap.size + 1 + 1, o, none⟩ = _ := fun o => hb2.frozen (p := ⟨w.heap.size + 1 + 1, o, none⟩) (by ((try simp only [World.size_alloc, World.size_setCell, World.size_drew, size_drewN]); omega))); (have z2_2 : w.heap.size + 1 + 1 < w2.heap.size := (by omega)); (have hc2_3 : ∀ o, w2.cell? ⟨w.heap.size + 1 + 1 + 1, o, none⟩ = _ := fun o => hb2.cell (p := ⟨w.heap.size + 1 + 1 + 1, o, none⟩) (by ((try simp only [World.size_alloc, World.size_setCell, World.size_drew, size_drewN]); omega))); (have hf2_3 : ∀ o, w2.frozen? ⟨w.heap.size + 1 + 1 + 1, o, none⟩ = _ := fun o => hb2.frozen (p := ⟨w.heap.size + 1 + 1 + 1, o, none⟩) (by ((try simp only [World.size_alloc, World.size_setCell, World.size_drew, size_drewN]); omega))); (have z2_3 : w.heap.size + 1 + 1 + 1 < w2.heap.size := (by omega)); (have hc2_4 : ∀ o, w2.cell? ⟨w.heap.size + 1 + 1 + 1 + 1, o, none⟩ = _ := fun o => hb2.cell (p := ⟨w.heap.size + 1 + 1 + 1 + 1, o, none⟩) (by ((try simp only [World.size_alloc, World.size_setCell, World.size_drew, size_drewN]); omega))); (have hf2_4 : ∀ o, w2.frozen? ⟨w.heap.size + 1 + 1 + 1 + 1, o, none⟩ = _ := fun o => hb2.frozen (p := ⟨w.heap.size + 1 + 1 + 1 + 1, o, none⟩) (by ((try simp only [World.size_alloc, World.size_setCell, World.size_drew, size_drewN]); omega))); (have z2_4 : w.heap.size + 1 + 1 + 1 + 1 < w2.heap.size := (by omega)))))
          all_goals (
            go_wp2_with fail
            refine (HCM.out _).mono ?_
            rintro e w3 ⟨rfl, hb3⟩
            have hs3 := hb3.size
            try simp only [World.size_alloc, World.size_setCell, World.size_drew, size_drewN] at hs3
            have hc3_0 : ∀ o, w3.cell? ⟨w.heap.size, o, none⟩ = _ := fun o => hb3.cell (p := ⟨w.heap.size, o, none⟩) (by ((try simp only [World.size_alloc, World.size_setCell, World.size_drew, size_drewN]); omega))
            have hf3_0 : ∀ o, w3.frozen? ⟨w.heap.size, o, none⟩ = _ := fun o => hb3.frozen (p := ⟨w.heap.size, o, none⟩) (by ((try simp only [World.size_alloc, World.size_setCell, World.size_drew, size_drewN]); omega))
            have z3_0 : w.heap.size < w3.heap.size := (by omega)
            have hc3_1 : ∀ o, w3.cell? ⟨w.heap.size + 1, o, none⟩ = _ := fun o => hb3.cell (p := ⟨w.heap.size + 1, o, none⟩) (by ((try simp only [World.size_alloc, World.size_setCell, World.size_drew, size_drewN]); omega))
            have hf3_1 : ∀ o, w3.frozen? ⟨w.heap.size + 1, o, none⟩ = _ := fun o => hb3.frozen (p := ⟨w.heap.size + 1, o, none⟩) (by ((try simp only [World.size_alloc, World.size_setCell, World.size_drew, size_drewN]); omega))
            have z3_1 : w.heap.size + 1 < w3.heap.size := (by omega)
            have hc3_2 : ∀ o, w3.cell? ⟨w.heap.size + 1 + 1, o, none⟩ = _ := fun o => hb3.cell (p := ⟨w.heap.size + 1 + 1, o, none⟩) (by ((try simp only [World.size_alloc, World.size_setCell, World.size_drew, size_drewN]); omega))
            have hf3_2 : ∀ o, w3.frozen? ⟨w.heap.size + 1 + 1, o, none⟩ = _ := fun o => hb3.frozen (p := ⟨w.heap.size + 1 + 1, o, none⟩) (by ((try simp only [World.size_alloc, World.size_setCell, World.size_drew, size_drewN]); omega))
            have z3_2 : w.heap.size + 1 + 1 < w3.heap.size := (by omega)
            have hc3_3 : ∀ o, w3.cell? ⟨w.heap.size + 1 + 1 + 1, o, none⟩ = _ := fun o => hb3.cell (p := ⟨w.heap.size + 1 + 1 + 1, o, none⟩) (by ((try simp only [World.size_alloc, World.size_setCell, World.size_drew, size_drewN]); omega))
            have hf3_3 : ∀ o, w3.frozen? ⟨w.heap.size + 1 + 1 + 1, o, none⟩ = _ := fun o => hb3.frozen (p := ⟨w.heap.size + 1 + 1 + 1, o, none⟩) (by ((try simp only [World.size_alloc, World.size_setCell, World.size_drew, size_drewN]); omega))
            have z3_3 : w.heap.size + 1 + 1 + 1 < w3.heap.size := (by omega)
            have hc3_4 : ∀ o, w3.cell? ⟨w.heap.size + 1 + 1 + 1 + 1, o, none⟩ = _ := fun o => hb3.cell (p := ⟨w.heap.size + 1 + 1 + 1 + 1, o, none⟩) (by ((try simp only [World.size_alloc, World.size_setCell, World.size_drew, size_drewN]); omega))
            have hf3_4 : ∀ o, w3.frozen? ⟨w.heap.size + 1 + 1 + 1 + 1, o, none⟩ = _ := fun o => hb3.frozen (p := ⟨w.heap.size + 1 + 1 + 1 + 1, o, none⟩) (by ((try simp only [World.size_alloc, World.size_setCell, World.size_drew, size_drewN]); omega))
            have z3_4 : w.heap.size + 1 + 1 + 1 + 1 < w3.heap.size := (by omega)
            go_wp2_with fail
            refine (HSW.out _).mono ?_
            rintro e w4 ⟨rfl, hb4⟩
            have hs4 := hb4.size
            try simp only [World.size_alloc, World.size_setCell, World.size_drew, size_drewN] at hs4
            have hc4_0 : ∀ o, w4.cell? ⟨w.heap.size, o, none⟩ = _ := fun o => hb4.cell (p := ⟨w.heap.size, o, none⟩) (by ((try simp only [World.size_alloc, World.size_setCell, World.size_drew, size_drewN]); omega))
            have hf4_0 : ∀ o, w4.frozen? ⟨w.heap.size, o, none⟩ = _ := fun o => hb4.frozen (p := ⟨w.heap.size, o, none⟩) (by ((try simp only [World.size_alloc, World.size_setCell, World.size_drew, size_drewN]); omega))
            have z4_0 : w.heap.size < w4.heap.size := (by omega)
            have hc4_1 : ∀ o, w4.cell? ⟨w.heap.size + 1, o, none⟩ = _ := fun o => hb4.cell (p := ⟨w.heap.size + 1, o, none⟩) (by ((try simp only [World.size_alloc, World.size_setCell, World.size_drew, size_drewN]); omega))
            have hf4_1 : ∀ o, w4.frozen? ⟨w.heap.size + 1, o, none⟩ = _ := fun o => hb4.frozen (p := ⟨w.heap.size + 1, o, none⟩) (by ((try simp only [World.size_alloc, World.size_setCell, World.size_drew, size_drewN]); omega))
            have z4_1 : w.heap.size + 1 < w4.heap.size := (by omega)
            have hc4_2 : ∀ o, w4.cell? ⟨w.heap.size + 1 + 1, o, none⟩ = _ := fun o => hb4.cell (p := ⟨w.heap.size + 1 + 1, o, none⟩) (by ((try simp only [World.size_alloc, World.size_setCell, World.size_drew, size_drewN]); omega))
            have hf4_2 : ∀ o, w4.frozen? ⟨w.heap.size + 1 + 1, o, none⟩ = _ := fun o => hb4.frozen (p := ⟨w.heap.size + 1 + 1, o, none⟩) (by ((try simp only [World.size_alloc, World.size_setCell, World.size_drew, size_drewN]); omega))
            have z4_2 : w.heap.size + 1 + 1 < w4.heap.size := (by omega)
            have hc4_3 : ∀ o, w4.cell? ⟨w.heap.size + 1 + 1 + 1, o, none⟩ = _ := fun o => hb4.cell (p := ⟨w.heap.size + 1 + 1 + 1, o, none⟩) (by ((try simp only [World.size_alloc, World.size_setCell, World.size_drew, size_drewN]); omega))
            have hf4_3 : ∀ o, w4.frozen? ⟨w.heap.size + 1 + 1 + 1, o, none⟩ = _ := fun o => hb4.frozen (p := ⟨w.heap.size + 1 + 1 + 1, o, none⟩) (by ((try simp only [World.size_alloc, World.size_setCell, World.size_drew, size_drewN]); omega))
            have z4_3 : w.heap.size + 1 + 1 + 1 < w4.heap.size := (by omega)
            have hc4_4 : ∀ o, w4.cell? ⟨w.heap.size + 1 + 1 + 1 + 1, o, none⟩ = _ := fun o => hb4.cell (p := ⟨w.heap.size + 1 + 1 + 1 + 1, o, none⟩) (by ((try simp only [World.size_alloc, World.size_setCell, World.size_drew, size_drewN]); omega))
            have hf4_4 : ∀ o, w4.frozen? ⟨w.heap.size + 1 + 1 + 1 + 1, o, none⟩ = _ := fun o => hb4.frozen (p := ⟨w.heap.size + 1 + 1 + 1 + 1, o, none⟩) (by ((try simp only [World.size_alloc, World.size_setCell, World.size_drew, size_drewN]); omega))
            have z4_4 : w.heap.size + 1 + 1 + 1 + 1 < w4.heap.size := (by omega)
            go_wp2
            go_region
            go_wp2
            go_roundw
            case measure => first | (simp [intOf]; done) | (simp [intOf]; omega)
            case rel =>
              have hxL := BL.out
              have hxC := BC.out
              have hxQ := BQ.out
              have hxR := BR.out
              refine ⟨k, (Q + 2 ^ k), S, (k : Int) - 1, by go_num, rfl, by omega, HN, hide ?_, hide ?_, hide ?_, hide ?_, hide (by (repeat' (first | (with_reducible exact Below.refl _ _) | (with_reducible assumption) | (with_reducible refine Below.alloc ?_ ?_ _) | (with_reducible refine Below.drew ?_) | (with_reducible refine below_drewN ?_ _) | (with_reducible refine Below.setCell ?_ ?_ _) | (with_reducible refine below_step (by with_reducible assumption) ?_ ?_) | (first | (with_reducible exact Nat.le_refl _) | (with_reducible assumption) | omega | (simp only [World.size_alloc, World.size_setCell, World.size_drew, size_drewN]; omega) | (simp; omega) | (simp; done)))))⟩
              · (repeat' (first | (with_reducible assumption) | (with_reducible refine Box.drewN ?_ _) | (with_reducible refine Box.drew ?_) | (with_reducible refine Box.alloc ?_ _) | (refine Box.other ?_ (by intro hh; dsimp only at hh; omega) _) | (refine Box.below ?_ (by with_reducible assumption) ?_) | (with_reducible exact Nat.lt_of_lt_of_le (by assumption) (by assumption)) | (simp only [World.size_alloc, World.size_setCell, World.size_drew, size_drewN]; omega)))
              · (repeat' (first | (with_reducible assumption) | (with_reducible refine Box.drewN ?_ _) | (with_reducible refine Box.drew ?_) | (with_reducible refine Box.alloc ?_ _) | (refine Box.other ?_ (by intro hh; dsimp only at hh; omega) _) | (refine Box.below ?_ (by with_reducible assumption) ?_) | (with_reducible exact Nat.lt_of_lt_of_le (by assumption) (by assumption)) | (simp only [World.size_alloc, World.size_setCell, World.size_drew, size_drewN]; omega)))
              · have hdv := HD.out.d
                have hoth := HOTH.out hdv
                rw [hoth.1, hoth.2.1, hoth.2.2, ← HSET.out hdv]
                (repeat' (first | (with_reducible assumption) | (with_reducible refine Box.drewN ?_ _) | (with_reducible refine Box.drew ?_) | (with_reducible refine Box.alloc ?_ _) | (refine Box.other ?_ (by intro hh; dsimp only at hh; omega) _) | (refine Box.below ?_ (by with_reducible assumption) ?_) | (with_reducible exact Nat.lt_of_lt_of_le (by assumption) (by assumption)) | (simp only [World.size_alloc, World.size_setCell, World.size_drew, size_drewN]; omega)))
                refine Box.set2 (a2 := lim Q 2) ?_ _
                (repeat' (first | (with_reducible assumption) | (with_reducible refine Box.drewN ?_ _) | (with_reducible refine Box.drew ?_) | (with_reducible refine Box.alloc ?_ _) | (refine Box.other ?_ (by intro hh; dsimp only at hh; omega) _) | (refine Box.below ?_ (by with_reducible assumption) ?_) | (with_reducible exact Nat.lt_of_lt_of_le (by assumption) (by assumption)) | (simp only [World.size_alloc, World.size_setCell, World.size_drew, size_drewN]; omega)))
              · (repeat' (first | (with_reducible assumption) | (with_reducible refine Box.drewN ?_ _) | (with_reducible refine Box.drew ?_) | (with_reducible refine Box.alloc ?_ _) | (refine Box.other ?_ (by intro hh; dsimp only at hh; omega) _) | (refine Box.below ?_ (by with_reducible assumption) ?_) | (with_reducible exact Nat.lt_of_lt_of_le (by assumption) (by assumption)) | (simp only [World.size_alloc, World.size_setCell, World.size_drew, size_drewN]; omega)))
                refine Box.put (a0 := lim T 0) (a1 := lim T 1) (a2 := lim T 2) (a3 := lim T 3) ?_ _ _ _ _
                (repeat' (first | (with_reducible assumption) | (with_reducible refine Box.drewN ?_ _) | (with_reducible refine Box.drew ?_) | (with_reducible refine Box.alloc ?_ _) | (refine Box.other ?_ (by intro hh; dsimp only at hh; omega) _) | (refine Box.below ?_ (by with_reducible assumption) ?_) | (with_reducible exact Nat.lt_of_lt_of_le (by assumption) (by assumption)) | (simp only [World.size_alloc, World.size_setCell, World.size_drew, size_drewN]; omega)))
                refine Box.put (a0 := lim R 0) (a1 := lim R 1) (a2 := lim R 2) (a3 := lim R 3) ?_ _ _ _ _
                (repeat' (first | (with_reducible assumption) | (with_reducible refine Box.drewN ?_ _) | (with_reducible refine Box.drew ?_) | (with_reducible refine Box.alloc ?_ _) | (refine Box.other ?_ (by intro hh; dsimp only at hh; omega) _) | (refine Box.below ?_ (by with_reducible assumption) ?_) | (with_reducible exact Nat.lt_of_lt_of_le (by assumption) (by assumption)) | (simp only [World.size_alloc, World.size_setCell, World.size_drew, size_drewN]; omega))))
        have hM : (M256 : Nat) = 115792089237316195423570985008687907853269984665640564039457584007913129639936 := rfl
        obtain ⟨T, hTe⟩ : ∃ T : Nat, 2 * R + b - M256 = T := ⟨_, rfl⟩
        have hT256 : T < M256 := by omega
        have hO : shlO R (b : Int) = 1 := by rw [shlO, Int.toNat_natCast, if_neg (by omega)]
        have hV : shlV R (b : Int) = T := by rw [shlV, Int.toNat_natCast, if_neg (by omega)]; omega
        obtain ⟨S, hSe⟩ : ∃ S : Nat, 2 * R + b - C = S := ⟨_, rfl⟩
        have hW : wrapV T C = S := by rw [wrapV]; split <;> omega
        have HN := hide (show DivS L H C k S (Q + 2 ^ k) from hSe ▸ HD.out.high hL hlt HB.out (by omega))
        have HSW := hide (subw_c (A := T) (B := C) hT256 hC)
        clear hTe hSe
        clear hT hT2 hM
        have HCM := hide (fun w => cmp_c (isU_lim hT256) (isU_lim hC) w)
        go_wp2
        go_region_law (first | (go_simp; (go_at_call 65; (with_reducible refine (HSH.out _).mono ?_); rintro e w2 ⟨rfl, hb2⟩; (have hs2 := hb2.size); (try simp only [World.size_alloc, World.size_setCell, World.size_drew, size_drewN] at hs2); (have hc2_0 : ∀ o, w2.cell? ⟨w.heap.size, o, none⟩ = _ := fun o => hb2.cell (p := ⟨w.heap.size, o, none⟩) (by ((try simp only [World.size_alloc, World.size_setCell, World.size_drew, size_drewN]); omega))); (have hf2_0 : ∀ o, w2.frozen? ⟨w.heap.size, o, none⟩ = _ := fun o => hb2.frozen (p := ⟨w.heap.size, o, none⟩) (by ((try simp only [World.size_alloc, World.size_setCell, World.size_drew, size_drewN]); omega))); (have z2_0 : w.heap.size < w2.heap.size := (by omega)); (have hc2_1 : ∀ o, w2.cell? ⟨w.heap.size + 1, o, none⟩ = _ := fun o => hb2.cell (p := ⟨w.heap.size + 1, o, none⟩) (by ((try simp only [World.size_alloc, World.size_setCell, World.size_drew, size_drewN]); omega))); (have hf2_1 : ∀ o, w2.frozen? ⟨w.heap.size + 1, o, none⟩ = _ := fun o => hb2.frozen (p := ⟨w.heap.size + 1, o, none⟩) (by ((try simp only [World.size_alloc, World.size_setCell, World.size_drew, size_drewN]); omega))); (have z2_1 : w.heap.size + 1 < w2.heap.size := (by omega)); (have hc2_2 : ∀ o, w2.cell? ⟨w.heap.size + 1 + 1, o, none⟩ = _ := fun o => hb2.cell (p := ⟨w.heap.size + 1 + 1, o, none⟩) (by ((try simp only [World.size_alloc, World.size_setCell, World.size_drew, size_drewN]); omega))); (have hf2_2 : ∀ o, w2.frozen? ⟨w.heap.size + 1 + 1, o, none⟩ = _ := fun o => hb2.frozen (p := ⟨w.heap.size + 1 + 1, o, none⟩) (by ((try simp only [World.size_alloc, World.size_setCell, World.size_drew, size_drewN]); omega))); (have z2_2 : w.heap.size + 1 + 1 < w2.heap.size := (by omega)); (have hc2_3 : ∀ o, w2.cell? ⟨w.heap.size + 1 + 1 + 1, o, none⟩ = _ := fun o => hb2.cell (p := ⟨w.heap.size + 1 + 1 + 1, o, none⟩) (by ((try simp only [World.size_alloc, World.size_setCell, World.size_drew, size_drewN]); omega))); (have hf2_3 : ∀ o, w2.frozen? ⟨w.heap.size + 1 + 1 + 1, o, none⟩ = _ := fun o => hb2.frozen (p := ⟨w.heap.size + 1 + 1 + 1, o, none⟩) (by ((try simp only [World.size_alloc, World.size_setCell, World.size_drew, size_drewN]); omega))); (have z2_3 : w.heap.size + 1 + 1 + 1 < w2.heap.size := (by omega)); (have hc2_4 : ∀ o, w2.cell? ⟨w.heap.size + 1 + 1 + 1 + 1, o, none⟩ = _ := fun o => hb2.cell (p := ⟨w.heap.size + 1 + 1 + 1 + 1, o, none⟩) (by ((try simp only [World.size_alloc, World.size_setCell, World.size_drew, size_drewN]); omega))); (have hf2_4 : ∀ o, w2.frozen? ⟨w.heap.size + 1 + 1 + 1 + 1, o, none⟩ = _ := fun o => hb2.frozen (p := ⟨w.heap.size + 1 + 1 + 1 + 1, o, none⟩) (by ((try simp only [World.size_alloc, World.size_setCell, World.size_drew, size_drewN]); omega))); (have z2_4 : w.heap.size + 1 + 1 + 1 + 1 < w2.heap.size := (by omega)))))
        all_goals (
          go_wp2_with fail
          refine (HSW.out _).mono ?_
          rintro e w3 ⟨rfl, hb3⟩
          have hs3 := hb3.size
          try simp only [World.size_alloc, World.size_setCell, World.size_drew, size_drewN] at hs3
          have hc3_0 : ∀ o, w3.cell? ⟨w.heap.size, o, none⟩ = _ := fun o => hb3.cell (p := ⟨w.heap.size, o, none⟩) (by ((try simp only [World.size_alloc, World.size_setCell, World.size_drew, size_drewN]); omega))
          have hf3_0 : ∀ o, w3.frozen? ⟨w.heap.size, o, none⟩ = _ := fun o => hb3.frozen (p := ⟨w.heap.size, o, none⟩) (by ((try simp only [World.size_alloc, World.size_setCell, World.size_drew, size_drewN]); omega))
          have z3_0 : w.heap.size < w3.heap.size := (by omega)
          have hc3_1 : ∀ o, w3.cell? ⟨w.heap.size + 1, o, none⟩ = _ := fun o => hb3.cell (p := ⟨w.heap.size + 1, o, none⟩) (by ((try simp only [World.size_alloc, World.size_setCell, World.size_drew, size_drewN]); omega))
          have hf3_1 : ∀ o, w3.frozen? ⟨w.heap.size + 1, o, none⟩ = _ := fun o => hb3.frozen (p := ⟨w.heap.size + 1, o, none⟩) (by ((try simp only [World.size_alloc, World.size_setCell, World.size_drew, size_drewN]); omega))
          have z3_1 : w.heap.size + 1 < w3.heap.size := (by omega)
          have hc3_2 : ∀ o, w3.cell? ⟨w.heap.size + 1 + 1, o, none⟩ = _ := fun o => hb3.cell (p := ⟨w.heap.size + 1 + 1, o, none⟩) (by ((try simp only [World.size_alloc, World.size_setCell, World.size_drew, size_drewN]); omega))
          have hf3_2 : ∀ o, w3.frozen? ⟨w.heap.size + 1 + 1, o, none⟩ = _ := fun o => hb3.frozen (p := ⟨w.heap.size + 1 + 1, o, none⟩) (by ((try simp only [World.size_alloc, World.size_setCell, World.size_drew, size_drewN]); omega))
          have z3_2 : w.heap.size + 1 + 1 < w3.heap.size := (by omega)
          have hc3_3 : ∀ o, w3.cell? ⟨w.heap.size + 1 + 1 + 1, o, none⟩ = _ := fun o => hb3.cell (p := ⟨w.heap.size + 1 + 1 + 1, o, none⟩) (by ((try simp only [World.size_alloc, World.size_setCell, World.size_drew, size_drewN]); omega))
          have hf3_3 : ∀ o, w3.frozen? ⟨w.heap.size + 1 + 1 + 1, o, none⟩ = _ := fun o => hb3.frozen (p := ⟨w.heap.size + 1 + 1 + 1, o, none⟩) (by ((try simp only [World.size_alloc, World.size_setCell, World.size_drew, size_drewN]); omega))
          have z3_3 : w.heap.size + 1 + 1 + 1 < w3.heap.size := (by omega)
          have hc3_4 : ∀ o, w3.cell? ⟨w.heap.size + 1 + 1 + 1 + 1, o, none⟩ = _ := fun o => hb3.cell (p := ⟨w.heap.size + 1 + 1 + 1 + 1, o, none⟩) (by ((try simp only [World.size_alloc, World.size_setCell, World.size_drew, size_drewN]); omega))
          have hf3_4 : ∀ o, w3.frozen? ⟨w.heap.size + 1 + 1 + 1 + 1, o, none⟩ = _ := fun o => hb3.frozen (p := ⟨w.heap.size + 1 + 1 + 1 + 1, o, none⟩) (by ((try simp only [World.size_alloc, World.size_setCell, World.size_drew, size_drewN]); omega))
          have z3_4 : w.heap.size + 1 + 1 + 1 + 1 < w3.heap.size := (by omega)
          go_wp2
          go_region
          go_wp2
          go_roundw
          case measure => first | (simp [intOf]; done) | (simp [intOf]; omega)
          case rel =>
            have hxL := BL.out
            have hxC := BC.out
            have hxQ := BQ.out
            have hxR := BR.out
            refine ⟨k, (Q + 2 ^ k), S, (k : Int) - 1, by go_num, rfl, by omega, HN, hide ?_, hide ?_, hide ?_, hide ?_, hide (by (repeat' (first | (with_reducible exact Below.refl _ _) | (with_reducible assumption) | (with_reducible refine Below.alloc ?_ ?_ _) | (with_reducible refine Below.drew ?_) | (with_reducible refine below_drewN ?_ _) | (with_reducible refine Below.setCell ?_ ?_ _) | (with_reducible refine below_step (by with_reducible assumption) ?_ ?_) | (first | (with_reducible exact Nat.le_refl _) | (with_reducible assumption) | omega | (simp only [World.size_alloc, World.size_setCell, World.size_drew, size_drewN]; omega) | (simp; omega) | (simp; done)))))⟩
            · (repeat' (first | (with_reducible assumption) | (with_reducible refine Box.drewN ?_ _) | (with_reducible refine Box.drew ?_) | (with_reducible refine Box.alloc ?_ _) | (refine Box.other ?_ (by intro hh; dsimp only at hh; omega) _) | (refine Box.below ?_ (by with_reducible assumption) ?_) | (with_reducible exact Nat.lt_of_lt_of_le (by assumption) (by assumption)) | (simp only [World.size_alloc, World.size_setCell, World.size_drew, size_drewN]; omega)))
            · (repeat' (first | (with_reducible assumption) | (with_reducible refine Box.drewN ?_ _) | (with_reducible refine Box.drew ?_) | (with_reducible refine Box.alloc ?_ _) | (refine Box.other ?_ (by intro hh; dsimp only at hh; omega) _) | (refine Box.below ?_ (by with_reducible assumption) ?_) | (with_reducible exact Nat.lt_of_lt_of_le (by assumption) (by assumption)) | (simp only [World.size_alloc, World.size_setCell, World.size_drew, size_drewN]; omega)))
            · have hdv := HD.out.d
              have hoth := HOTH.out hdv
              rw [hoth.1, hoth.2.1, hoth.2.2, ← HSET.out hdv]
              (repeat' (first | (with_reducible assumption) | (with_reducible refine Box.drewN ?_ _) | (with_reducible refine Box.drew ?_) | (with_reducible refine Box.alloc ?_ _) | (refine Box.other ?_ (by intro hh; dsimp only at hh; omega) _) | (refine Box.below ?_ (by with_reducible assumption) ?_) | (with_reducible exact Nat.lt_of_lt_of_le (by assumption) (by assumption)) | (simp only [World.size_alloc, World.size_setCell, World.size_drew, size_drewN]; omega)))
              refine Box.set2 (a2 := lim Q 2) ?_ _
              (repeat' (first | (with_reducible assumption) | (with_reducible refine Box.drewN ?_ _) | (with_reducible refine Box.drew ?_) | (with_reducible refine Box.alloc ?_ _) | (refine Box.other ?_ (by intro hh; dsimp only at hh; omega) _) | (refine Box.below ?_ (by with_reducible assumption) ?_) | (with_reducible exact Nat.lt_of_lt_of_le (by assumption) (by assumption)) | (simp only [World.size_alloc, World.size_setCell, World.size_drew, size_drewN]; omega)))
            · (repeat' (first | (with_reducible assumption) | (with_reducible refine Box.drewN ?_ _) | (with_reducible refine Box.drew ?_) | (with_reducible refine Box.alloc ?_ _) | (refine Box.other ?_ (by intro hh; dsimp only at hh; omega) _) | (refine Box.below ?_ (by with_reducible assumption) ?_) | (with_reducible exact Nat.lt_of_lt_of_le (by assumption) (by assumption)) | (simp only [World.size_alloc, World.size_setCell, World.size_drew, size_drewN]; omega)))
              refine Box.put (a0 := lim T 0) (a1 := lim T 1) (a2 := lim T 2) (a3 := lim T 3) ?_ _ _ _ _
              (repeat' (first | (with_reducible assumption) | (with_reducible refine Box.drewN ?_ _) | (with_reducible refine Box.drew ?_) | (with_reducible refine Box.alloc ?_ _) | (refine Box.other ?_ (by intro hh; dsimp only at hh; omega) _) | (refine Box.below ?_ (by with_reducible assumption) ?_) | (with_reducible exact Nat.lt_of_lt_of_le (by assumption) (by assumption)) | (simp only [World.size_alloc, World.size_setCell, World.size_drew, size_drewN]; omega)))
              refine Box.put (a0 := lim R 0) (a1 := lim R 1) (a2 := lim R 2) (a3 := lim R 3) ?_ _ _ _ _
              (repeat' (first | (with_reducible assumption) | (with_reducible refine Box.drewN ?_ _) | (with_reducible refine Box.drew ?_) | (with_reducible refine Box.alloc ?_ _) | (refine Box.other ?_ (by intro hh; dsimp only at hh; omega) _) | (refine Box.below ?_ (by with_reducible assumption) ?_) | (with_reducible exact Nat.lt_of_lt_of_le (by assumption) (by assumption)) | (simp only [World.size_alloc, World.size_setCell, World.size_drew, size_drewN]; omega))))
      have hq : (k : Int).tdiv 64 = 3 := by rw [Int.tdiv_eq_ediv_of_nonneg (by omega)]; omega
      have hw : IntKind.i64.wrap 3 = 3 := by decide
      have hbit : bits .and .u64 (lim L 3 / 2 ^ s) 1 = ((b : Nat) : Int) := by rw [← HB.out]; exact bit_law L k (by omega) HS.out
      have HSET := hide (fun h => lim_set (Q := Q) (k := k) (c := 3) (s := s) h (by omega) HS.out)
      have HOTH := hide (fun h => And.intro (lim_other (Q := Q) (k := k) (c := 0) h (by omega)) (And.intro (lim_other (Q := Q) (k := k) (c := 1) h (by omega)) (lim_other (Q := Q) (k := k) (c := 2) h (by omega))))
      by_cases hT : 2 * R + b < C
      · obtain ⟨T, hTe⟩ : ∃ T : Nat, 2 * R + b = T := ⟨_, rfl⟩
        have hT256 : T < M256 := by omega
        have hO : shlO R (b : Int) = 0 := by rw [shlO, Int.toNat_natCast, if_pos (by omega)]
        have hV : shlV R (b : Int) = T := by rw [shlV, Int.toNat_natCast, if_pos (by omega)]; omega
        have HN := hide (show DivS L H C k T Q from hTe ▸ HD.out.low HB.out hT)
        have hcm : cmpV T C = -1 := by rw [cmpV, if_pos (by omega)]
        clear hTe
        clear hT
        have HCM := hide (fun w => cmp_c (isU_lim hT256) (isU_lim hC) w)
        go_wp2
        go_region_law (first | (go_simp; (go_at_call 65; (with_reducible refine (HSH.out _).mono ?_); rintro e w2 ⟨rfl, hb2⟩; (have hs2 := hb2.size); (try simp only [World.size_alloc, World.size_setCell, World.size_drew, size_drewN] at hs2); (have hc2_0 : ∀ o, w2.cell? ⟨w.heap.size, o, none⟩ = _ := fun o => hb2.cell (p := ⟨w.heap.size, o, none⟩) (by ((try simp only [World.size_alloc, World.size_setCell, World.size_drew, size_drewN]); omega))); (have hf2_0 : ∀ o, w2.frozen? ⟨w.heap.size, o, none⟩ = _ := fun o => hb2.frozen (p := ⟨w.heap.size, o, none⟩) (by ((try simp only [World.size_alloc, World.size_setCell, World.size_drew, size_drewN]); omega))); (have z2_0 : w.heap.size < w2.heap.size := (by omega)); (have hc2_1 : ∀ o, w2.cell? ⟨w.heap.size + 1, o, none⟩ = _ := fun o => hb2.cell (p := ⟨w.heap.size + 1, o, none⟩) (by ((try simp only [World.size_alloc, World.size_setCell, World.size_drew, size_drewN]); omega))); (have hf2_1 : ∀ o, w2.frozen? ⟨w.heap.size + 1, o, none⟩ = _ := fun o => hb2.frozen (p := ⟨w.heap.size + 1, o, none⟩) (by ((try simp only [World.size_alloc, World.size_setCell, World.size_drew, size_drewN]); omega))); (have z2_1 : w.heap.size + 1 < w2.heap.size := (by omega)); (have hc2_2 : ∀ o, w2.cell? ⟨w.heap.size + 1 + 1, o, none⟩ = _ := fun o => hb2.cell (p := ⟨w.heap.size + 1 + 1, o, none⟩) (by ((try simp only [World.size_alloc, World.size_setCell, World.size_drew, size_drewN]); omega))); (have hf2_2 : ∀ o, w2.frozen? ⟨w.heap.size + 1 + 1, o, none⟩ = _ := fun o => hb2.frozen (p := ⟨w.heap.size + 1 + 1, o, none⟩) (by ((try simp only [World.size_alloc, World.size_setCell, World.size_drew, size_drewN]); omega))); (have z2_2 : w.heap.size + 1 + 1 < w2.heap.size := (by omega)); (have hc2_3 : ∀ o, w2.cell? ⟨w.heap.size + 1 + 1 + 1, o, none⟩ = _ := fun o => hb2.cell (p := ⟨w.heap.size + 1 + 1 + 1, o, none⟩) (by ((try simp only [World.size_alloc, World.size_setCell, World.size_drew, size_drewN]); omega))); (have hf2_3 : ∀ o, w2.frozen? ⟨w.heap.size + 1 + 1 + 1, o, none⟩ = _ := fun o => hb2.frozen (p := ⟨w.heap.size + 1 + 1 + 1, o, none⟩) (by ((try simp only [World.size_alloc, World.size_setCell, World.size_drew, size_drewN]); omega))); (have z2_3 : w.heap.size + 1 + 1 + 1 < w2.heap.size := (by omega)); (have hc2_4 : ∀ o, w2.cell? ⟨w.heap.size + 1 + 1 + 1 + 1, o, none⟩ = _ := fun o => hb2.cell (p := ⟨w.heap.size + 1 + 1 + 1 + 1, o, none⟩) (by ((try simp only [World.size_alloc, World.size_setCell, World.size_drew, size_drewN]); omega))); (have hf2_4 : ∀ o, w2.frozen? ⟨w.heap.size + 1 + 1 + 1 + 1, o, none⟩ = _ := fun o => hb2.frozen (p := ⟨w.heap.size + 1 + 1 + 1 + 1, o, none⟩) (by ((try simp only [World.size_alloc, World.size_setCell, World.size_drew, size_drewN]); omega))); (have z2_4 : w.heap.size + 1 + 1 + 1 + 1 < w2.heap.size := (by omega)))))
        all_goals (
          go_wp2_with fail
          refine (HCM.out _).mono ?_
          rintro e w3 ⟨rfl, hb3⟩
          have hs3 := hb3.size
          try simp only [World.size_alloc, World.size_setCell, World.size_drew, size_drewN] at hs3
          have hc3_0 : ∀ o, w3.cell? ⟨w.heap.size, o, none⟩ = _ := fun o => hb3.cell (p := ⟨w.heap.size, o, none⟩) (by ((try simp only [World.size_alloc, World.size_setCell, World.size_drew, size_drewN]); omega))
          have hf3_0 : ∀ o, w3.frozen? ⟨w.heap.size, o, none⟩ = _ := fun o => hb3.frozen (p := ⟨w.heap.size, o, none⟩) (by ((try simp only [World.size_alloc, World.size_setCell, World.size_drew, size_drewN]); omega))
          have z3_0 : w.heap.size < w3.heap.size := (by omega)
          have hc3_1 : ∀ o, w3.cell? ⟨w.heap.size + 1, o, none⟩ = _ := fun o => hb3.cell (p := ⟨w.heap.size + 1, o, none⟩) (by ((try simp only [World.size_alloc, World.size_setCell, World.size_drew, size_drewN]); omega))
          have hf3_1 : ∀ o, w3.frozen? ⟨w.heap.size + 1, o, none⟩ = _ := fun o => hb3.frozen (p := ⟨w.heap.size + 1, o, none⟩) (by ((try simp only [World.size_alloc, World.size_setCell, World.size_drew, size_drewN]); omega))
          have z3_1 : w.heap.size + 1 < w3.heap.size := (by omega)
          have hc3_2 : ∀ o, w3.cell? ⟨w.heap.size + 1 + 1, o, none⟩ = _ := fun o => hb3.cell (p := ⟨w.heap.size + 1 + 1, o, none⟩) (by ((try simp only [World.size_alloc, World.size_setCell, World.size_drew, size_drewN]); omega))
          have hf3_2 : ∀ o, w3.frozen? ⟨w.heap.size + 1 + 1, o, none⟩ = _ := fun o => hb3.frozen (p := ⟨w.heap.size + 1 + 1, o, none⟩) (by ((try simp only [World.size_alloc, World.size_setCell, World.size_drew, size_drewN]); omega))
          have z3_2 : w.heap.size + 1 + 1 < w3.heap.size := (by omega)
          have hc3_3 : ∀ o, w3.cell? ⟨w.heap.size + 1 + 1 + 1, o, none⟩ = _ := fun o => hb3.cell (p := ⟨w.heap.size + 1 + 1 + 1, o, none⟩) (by ((try simp only [World.size_alloc, World.size_setCell, World.size_drew, size_drewN]); omega))
          have hf3_3 : ∀ o, w3.frozen? ⟨w.heap.size + 1 + 1 + 1, o, none⟩ = _ := fun o => hb3.frozen (p := ⟨w.heap.size + 1 + 1 + 1, o, none⟩) (by ((try simp only [World.size_alloc, World.size_setCell, World.size_drew, size_drewN]); omega))
          have z3_3 : w.heap.size + 1 + 1 + 1 < w3.heap.size := (by omega)
          have hc3_4 : ∀ o, w3.cell? ⟨w.heap.size + 1 + 1 + 1 + 1, o, none⟩ = _ := fun o => hb3.cell (p := ⟨w.heap.size + 1 + 1 + 1 + 1, o, none⟩) (by ((try simp only [World.size_alloc, World.size_setCell, World.size_drew, size_drewN]); omega))
          have hf3_4 : ∀ o, w3.frozen? ⟨w.heap.size + 1 + 1 + 1 + 1, o, none⟩ = _ := fun o => hb3.frozen (p := ⟨w.heap.size + 1 + 1 + 1 + 1, o, none⟩) (by ((try simp only [World.size_alloc, World.size_setCell, World.size_drew, size_drewN]); omega))
          have z3_4 : w.heap.size + 1 + 1 + 1 + 1 < w3.heap.size := (by omega)
          go_wp2
          go_roundw
          case measure => first | (simp [intOf]; done) | (simp [intOf]; omega)
          case rel =>
            have hxL := BL.out
            have hxC := BC.out
            have hxQ := BQ.out
            have hxR := BR.out
            refine ⟨k, Q, T, (k : Int) - 1, by go_num, rfl, by omega, HN, hide ?_, hide ?_, hide ?_, hide ?_, hide (by (repeat' (first | (with_reducible exact Below.refl _ _) | (with_reducible assumption) | (with_reducible refine Below.alloc ?_ ?_ _) | (with_reducible refine Below.drew ?_) | (with_reducible refine below_drewN ?_ _) | (with_reducible refine Below.setCell ?_ ?_ _) | (with_reducible refine below_step (by with_reducible assumption) ?_ ?_) | (first | (with_reducible exact Nat.le_refl _) | (with_reducible assumption) | omega | (simp only [World.size_alloc, World.size_setCell, World.size_drew, size_drewN]; omega) | (simp; omega) | (simp; done)))))⟩
            · (repeat' (first | (with_reducible assumption) | (with_reducible refine Box.drewN ?_ _) | (with_reducible refine Box.drew ?_) | (with_reducible refine Box.alloc ?_ _) | (refine Box.other ?_ (by intro hh; dsimp only at hh; omega) _) | (refine Box.below ?_ (by with_reducible assumption) ?_) | (with_reducible exact Nat.lt_of_lt_of_le (by assumption) (by assumption)) | (simp only [World.size_alloc, World.size_setCell, World.size_drew, size_drewN]; omega)))
            · (repeat' (first | (with_reducible assumption) | (with_reducible refine Box.drewN ?_ _) | (with_reducible refine Box.drew ?_) | (with_reducible refine Box.alloc ?_ _) | (refine Box.other ?_ (by intro hh; dsimp only at hh; omega) _) | (refine Box.below ?_ (by with_reducible assumption) ?_) | (with_reducible exact Nat.lt_of_lt_of_le (by assumption) (by assumption)) | (simp only [World.size_alloc, World.size_setCell, World.size_drew, size_drewN]; omega)))
            · (repeat' (first | (with_reducible assumption) | (with_reducible refine Box.drewN ?_ _) | (with_reducible refine Box.drew ?_) | (with_reducible refine Box.alloc ?_ _) | (refine Box.other ?_ (by intro hh; dsimp only at hh; omega) _) | (refine Box.below ?_ (by with_reducible assumption) ?_) | (with_reducible exact Nat.lt_of_lt_of_le (by assumption) (by assumption)) | (simp only [World.size_alloc, World.size_setCell, World.size_drew, size_drewN]; omega)))
            · (repeat' (first | (with_reducible assumption) | (with_reducible refine Box.drewN ?_ _) | (with_reducible refine Box.drew ?_) | (with_reducible refine Box.alloc ?_ _) | (refine Box.other ?_ (by intro hh; dsimp only at hh; omega) _) | (refine Box.below ?_ (by with_reducible assumption) ?_) | (with_reducible exact Nat.lt_of_lt_of_le (by assumption) (by assumption)) | (simp only [World.size_alloc, World.size_setCell, World.size_drew, size_drewN]; omega)))
              refine Box.put (a0 := lim R 0) (a1 := lim R 1) (a2 := lim R 2) (a3 := lim R 3) ?_ _ _ _ _
              (repeat' (first | (with_reducible assumption) | (with_reducible refine Box.drewN ?_ _) | (with_reducible refine Box.drew ?_) | (with_reducible refine Box.alloc ?_ _) | (refine Box.other ?_ (by intro hh; dsimp only at hh; omega) _) | (refine Box.below ?_ (by with_reducible assumption) ?_) | (with_reducible exact Nat.lt_of_lt_of_le (by assumption) (by assumption)) | (simp only [World.size_alloc, World.size_setCell, World.size_drew, size_drewN]; omega))))
      by_cases hT2 : 2 * R + b < M256
      · obtain ⟨T, hTe⟩ : ∃ T : Nat, 2 * R + b = T := ⟨_, rfl⟩
        have hT256 : T < M256 := by omega
        have hO : shlO R (b : Int) = 0 := by rw [shlO, Int.toNat_natCast, if_pos (by omega)]
        have hV : shlV R (b : Int) = T := by rw [shlV, Int.toNat_natCast, if_pos (by omega)]; omega
        obtain ⟨S, hSe⟩ : ∃ S : Nat, 2 * R + b - C = S := ⟨_, rfl⟩
        have hW : wrapV T C = S := by rw [wrapV]; split <;> omega
        have HN := hide (show DivS L H C k S (Q + 2 ^ k) from hSe ▸ HD.out.high hL hlt HB.out (by omega))
        have HSW := hide (subw_c (A := T) (B := C) hT256 hC)
        obtain ⟨z, hcm, hz0⟩ : ∃ z, cmpV T C = z ∧ 0 ≤ z := ⟨_, rfl, by rw [cmpV, if_neg (by omega)]; split <;> decide⟩
        clear hTe hSe
        clear hT hT2
        have HCM := hide (fun w => cmp_c (isU_lim hT256) (isU_lim hC) w)
        go_wp2
        go_region_law (first | (go_simp; (go_at_call 65; (with_reducible refine (HSH.out _).mono ?_); rintro e w2 ⟨rfl, hb2⟩; (have hs2 := hb2.size); (try simp only [World.size_alloc, World.size_setCell, World.size_drew, size_drewN] at hs2); (have hc2_0 : ∀ o, w2.cell? ⟨w.heap.size, o, none⟩ = _ := fun o => hb2.cell (p := ⟨w.heap.size, o, none⟩) (by ((try simp only [World.size_alloc, World.size_setCell, World.size_drew, size_drewN]); omega))); (have hf2_0 : ∀ o, w2.frozen? ⟨w.heap.size, o, none⟩ = _ := fun o => hb2.frozen (p := ⟨w.heap.size, o, none⟩) (by ((try simp only [World.size_alloc, World.size_setCell, World.size_drew, size_drewN]); omega))); (have z2_0 : w.heap.size < w2.heap.size := (by omega)); (have hc2_1 : ∀ o, w2.cell? ⟨w.heap.size + 1, o, none⟩ = _ := fun o => hb2.cell (p := ⟨w.heap.size + 1, o, none⟩) (by ((try simp only [World.size_alloc, World.size_setCell, World.size_drew, size_drewN]); omega))); (have hf2_1 : ∀ o, w2.frozen? ⟨w.heap.size + 1, o, none⟩ = _ := fun o => hb2.frozen (p := ⟨w.heap.size + 1, o, none⟩) (by ((try simp only [World.size_alloc, World.size_setCell, World.size_drew, size_drewN]); omega))); (have z2_1 : w.heap.size + 1 < w2.heap.size := (by omega)); (have hc2_2 : ∀ o, w2.cell? ⟨w.heap.size + 1 + 1, o, none⟩ = _ := fun o => hb2.cell (p := ⟨w.heap.size + 1 + 1, o, none⟩) (by ((try simp only [World.size_alloc, World.size_setCell, World.size_drew, size_drewN]); omega))); (have hf2_2 : ∀ o, w2.frozen? ⟨w.heap.size + 1 + 1, o, none⟩ = _ := fun o => hb2.frozen (p := ⟨w.heap.size + 1 + 1, o, none⟩) (by ((try simp only [World.size_alloc, World.size_setCell, World.size_drew, size_drewN]); omega))); (have z2_2 : w.heap.size + 1 + 1 < w2.heap.size := (by omega)); (have hc2_3 : ∀ o, w2.cell? ⟨w.heap.size + 1 + 1 + 1, o, none⟩ = _ := fun o => hb2.cell (p := ⟨w.heap.size + 1 + 1 + 1, o, none⟩) (by ((try simp only [World.size_alloc, World.size_setCell, World.size_drew, size_drewN]); omega))); (have hf2_3 : ∀ o, w2.frozen? ⟨w.heap.size + 1 + 1 + 1, o, none⟩ = _ := fun o => hb2.frozen (p := ⟨w.heap.size + 1 + 1 + 1, o, none⟩) (by ((try simp only [World.size_alloc, World.size_setCell, World.size_drew, size_drewN]); omega))); (have z2_3 : w.heap.size + 1 + 1 + 1 < w2.heap.size := (by omega)); (have hc2_4 : ∀ o, w2.cell? ⟨w.heap.size + 1 + 1 + 1 + 1, o, none⟩ = _ := fun o => hb2.cell (p := ⟨w.heap.size + 1 + 1 + 1 + 1, o, none⟩) (by ((try simp only [World.size_alloc, World.size_setCell, World.size_drew, size_drewN]); omega))); (have hf2_4 : ∀ o, w2.frozen? ⟨w.heap.size + 1 + 1 + 1 + 1, o, none⟩ = _ := fun o => hb2.frozen (p := ⟨w.heap.size + 1 + 1 + 1 + 1, o, none⟩) (by ((try simp only [World.size_alloc, World.size_setCell, World.size_drew, size_drewN]); omega))); (have z2_4 : w.heap.size + 1 + 1 + 1 + 1 < w2.heap.size := (by omega)))))
        all_goals (
          go_wp2_with fail
          refine (HCM.out _).mono ?_
          rintro e w3 ⟨rfl, hb3⟩
          have hs3 := hb3.size
          try simp only [World.size_alloc, World.size_setCell, World.size_drew, size_drewN] at hs3
          have hc3_0 : ∀ o, w3.cell? ⟨w.heap.size, o, none⟩ = _ := fun o => hb3.cell (p := ⟨w.heap.size, o, none⟩) (by ((try simp only [World.size_alloc, World.size_setCell, World.size_drew, size_drewN]); omega))
          have hf3_0 : ∀ o, w3.frozen? ⟨w.heap.size, o, none⟩ = _ := fun o => hb3.frozen (p := ⟨w.heap.size, o, none⟩) (by ((try simp only [World.size_alloc, World.size_setCell, World.size_drew, size_drewN]); omega))
          have z3_0 : w.heap.size < w3.heap.size := (by omega)
          have hc3_1 : ∀ o, w3.cell? ⟨w.heap.size + 1, o, none⟩ = _ := fun o => hb3.cell (p := ⟨w.heap.size + 1, o, none⟩) (by ((try simp only [World.size_alloc, World.size_setCell, World.size_drew, size_drewN]); omega))
          have hf3_1 : ∀ o, w3.frozen? ⟨w.heap.size + 1, o, none⟩ = _ := fun o => hb3.frozen (p := ⟨w.heap.size + 1, o, none⟩) (by ((try simp only [World.size_alloc, World.size_setCell, World.size_drew, size_drewN]); omega))
          have z3_1 : w.heap.size + 1 < w3.heap.size := (by omega)
          have hc3_2 : ∀ o, w3.cell? ⟨w.heap.size + 1 + 1, o, none⟩ = _ := fun o => hb3.cell (p := ⟨w.heap.size + 1 + 1, o, none⟩) (by ((try simp only [World.size_alloc, World.size_setCell, World.size_drew, size_drewN]); omega))
          have hf3_2 : ∀ o, w3.frozen? ⟨w.heap.size + 1 + 1, o, none⟩ = _ := fun o => hb3.frozen (p := ⟨w.heap.size + 1 + 1, o, none⟩) (by ((try simp only [World.size_alloc, World.size_setCell, World.size_drew, size_drewN]); omega))
          have z3_2 : w.heap.size + 1 + 1 < w3.heap.size := (by omega)
          have hc3_3 : ∀ o, w3.cell? ⟨w.heap.size + 1 + 1 + 1, o, none⟩ = _ := fun o => hb3.cell (p := ⟨w.heap.size + 1 + 1 + 1, o, none⟩) (by ((try simp only [World.size_alloc, World.size_setCell, World.size_drew, size_drewN]); omega))
          have hf3_3 : ∀ o, w3.frozen? ⟨w.heap.size + 1 + 1 + 1, o, none⟩ = _ := fun o => hb3.frozen (p := ⟨w.heap.size + 1 + 1 + 1, o, none⟩) (by ((try simp only [World.size_alloc, World.size_setCell, World.size_drew, size_drewN]); omega))
          have z3_3 : w.heap.size + 1 + 1 + 1 < w3.heap.size := (by omega)
          have hc3_4 : ∀ o, w3.cell? ⟨w.heap.size + 1 + 1 + 1 + 1, o, none⟩ = _ := fun o => hb3.cell (p := ⟨w.heap.size + 1 + 1 + 1 + 1, o, none⟩) (by ((try simp only [World.size_alloc, World.size_setCell, World.size_drew, size_drewN]); omega))
          have hf3_4 : ∀ o, w3.frozen? ⟨w.heap.size + 1 + 1 + 1 + 1, o, none⟩ = _ := fun o => hb3.frozen (p := ⟨w.heap.size + 1 + 1 + 1 + 1, o, none⟩) (by ((try simp only [World.size_alloc, World.size_setCell, World.size_drew, size_drewN]); omega))
          have z3_4 : w.heap.size + 1 + 1 + 1 + 1 < w3.heap.size := (by omega)
          go_wp2_with fail
          refine (HSW.out _).mono ?_
          rintro e w4 ⟨rfl, hb4⟩
          have hs4 := hb4.size
          try simp only [World.size_alloc, World.size_setCell, World.size_drew, size_drewN] at hs4
          have hc4_0 : ∀ o, w4.cell? ⟨w.heap.size, o, none⟩ = _ := fun o => hb4.cell (p := ⟨w.heap.size, o, none⟩) (by ((try simp only [World.size_alloc, World.size_setCell, World.size_drew, size_drewN]); omega))
          have hf4_0 : ∀ o, w4.frozen? ⟨w.heap.size, o, none⟩ = _ := fun o => hb4.frozen (p := ⟨w.heap.size, o, none⟩) (by ((try simp only [World.size_alloc, World.size_setCell, World.size_drew, size_drewN]); omega))
          have z4_0 : w.heap.size < w4.heap.size := (by omega)
          have hc4_1 : ∀ o, w4.cell? ⟨w.heap.size + 1, o, none⟩ = _ := fun o => hb4.cell (p := ⟨w.heap.size + 1, o, none⟩) (by ((try simp only [World.size_alloc, World.size_setCell, World.size_drew, size_drewN]); omega))
          have hf4_1 : ∀ o, w4.frozen? ⟨w.heap.size + 1, o, none⟩ = _ := fun o => hb4.frozen (p := ⟨w.heap.size + 1, o, none⟩) (by ((try simp only [World.size_alloc, World.size_setCell, World.size_drew, size_drewN]); omega))
          have z4_1 : w.heap.size + 1 < w4.heap.size := (by omega)
          have hc4_2 : ∀ o, w4.cell? ⟨w.heap.size + 1 + 1, o, none⟩ = _ := fun o => hb4.cell (p := ⟨w.heap.size + 1 + 1, o, none⟩) (by ((try simp only [World.size_alloc, World.size_setCell, World.size_drew, size_drewN]); omega))
          have hf4_2 : ∀ o, w4.frozen? ⟨w.heap.size + 1 + 1, o, none⟩ = _ := fun o => hb4.frozen (p := ⟨w.heap.size + 1 + 1, o, none⟩) (by ((try simp only [World.size_alloc, World.size_setCell, World.size_drew, size_drewN]); omega))
          have z4_2 : w.heap.size + 1 + 1 < w4.heap.size := (by omega)
          have hc4_3 : ∀ o, w4.cell? ⟨w.heap.size + 1 + 1 + 1, o, none⟩ = _ := fun o => hb4.cell (p := ⟨w.heap.size + 1 + 1 + 1, o, none⟩) (by ((try simp only [World.size_alloc, World.size_setCell, World.size_drew, size_drewN]); omega))
          have hf4_3 : ∀ o, w4.frozen? ⟨w.heap.size + 1 + 1 + 1, o, none⟩ = _ := fun o => hb4.frozen (p := ⟨w.heap.size + 1 + 1 + 1, o, none⟩) (by ((try simp only [World.size_alloc, World.size_setCell, World.size_drew, size_drewN]); omega))
          have z4_3 : w.heap.size + 1 + 1 + 1 < w4.heap.size := (by omega)
          have hc4_4 : ∀ o, w4.cell? ⟨w.heap.size + 1 + 1 + 1 + 1, o, none⟩ = _ := fun o => hb4.cell (p := ⟨w.heap.size + 1 + 1 + 1 + 1, o, none⟩) (by ((try simp only [World.size_alloc, World.size_setCell, World.size_drew, size_drewN]); omega))
          have hf4_4 : ∀ o, w4.frozen? ⟨w.heap.size + 1 + 1 + 1 + 1, o, none⟩ = _ := fun o => hb4.frozen (p := ⟨w.heap.size + 1 + 1 + 1 + 1, o, none⟩) (by ((try simp only [World.size_alloc, World.size_setCell, World.size_drew, size_drewN]); omega))
          have z4_4 : w.heap.size + 1 + 1 + 1 + 1 < w4.heap.size := (by omega)
          go_wp2
          go_region
          go_wp2
          go_roundw
          case measure => first | (simp [intOf]; done) | (simp [intOf]; omega)
          case rel =>
            have hxL := BL.out
            have hxC := BC.out
            have hxQ := BQ.out
            have hxR := BR.out
            refine ⟨k, (Q + 2 ^ k), S, (k : Int) - 1, by go_num, rfl, by omega, HN, hide ?_, hide ?_, hide ?_, hide ?_, hide (by (repeat' (first | (with_reducible exact Below.refl _ _) | (with_reducible assumption) | (with_reducible refine Below.alloc ?_ ?_ _) | (with_reducible refine Below.drew ?_) | (with_reducible refine below_drewN ?_ _) | (with_reducible refine Below.setCell ?_ ?_ _) | (with_reducible refine below_step (by with_reducible assumption) ?_ ?_) | (first | (with_reducible exact Nat.le_refl _) | (with_reducible assumption) | omega | (simp only [World.size_alloc, World.size_setCell, World.size_drew, size_drewN]; omega) | (simp; omega) | (simp; done)))))⟩
            · (repeat' (first | (with_reducible assumption) | (with_reducible refine Box.drewN ?_ _) | (with_reducible refine Box.drew ?_) | (with_reducible refine Box.alloc ?_ _) | (refine Box.other ?_ (by intro hh; dsimp only at hh; omega) _) | (refine Box.below ?_ (by with_reducible assumption) ?_) | (with_reducible exact Nat.lt_of_lt_of_le (by assumption) (by assumption)) | (simp only [World.size_alloc, World.size_setCell, World.size_drew, size_drewN]; omega)))
            · (repeat' (first | (with_reducible assumption) | (with_reducible refine Box.drewN ?_ _) | (with_reducible refine Box.drew ?_) | (with_reducible refine Box.alloc ?_ _) | (refine Box.other ?_ (by intro hh; dsimp only at hh; omega) _) | (refine Box.below ?_ (by with_reducible assumption) ?_) | (with_reducible exact Nat.lt_of_lt_of_le (by assumption) (by assumption)) | (simp only [World.size_alloc, World.size_setCell, World.size_drew, size_drewN]; omega)))
            · have hdv := HD.out.d
              have hoth := HOTH.out hdv
              rw [hoth.1, hoth.2.1, hoth.2.2, ← HSET.out hdv]
              (repeat' (first | (with_reducible assumption) | (with_reducible refine Box.drewN ?_ _) | (with_reducible refine Box.drew ?_) | (with_reducible refine Box.alloc ?_ _) | (refine Box.other ?_ (by intro hh; dsimp only at hh; omega) _) | (refine Box.below ?_ (by with_reducible assumption) ?_) | (with_reducible exact Nat.lt_of_lt_of_le (by assumption) (by assumption)) | (simp only [World.size_alloc, World.size_setCell, World.size_drew, size_drewN]; omega)))
              refine Box.set3 (a3 := lim Q 3) ?_ _
              (repeat' (first | (with_reducible assumption) | (with_reducible refine Box.drewN ?_ _) | (with_reducible refine Box.drew ?_) | (with_reducible refine Box.alloc ?_ _) | (refine Box.other ?_ (by intro hh; dsimp only at hh; omega) _) | (refine Box.below ?_ (by with_reducible assumption) ?_) | (with_reducible exact Nat.lt_of_lt_of_le (by assumption) (by assumption)) | (simp only [World.size_alloc, World.size_setCell, World.size_drew, size_drewN]; omega)))
            · (repeat' (first | (with_reducible assumption) | (with_reducible refine Box.drewN ?_ _) | (with_reducible refine Box.drew ?_) | (with_reducible refine Box.alloc ?_ _) | (refine Box.other ?_ (by intro hh; dsimp only at hh; omega) _) | (refine Box.below ?_ (by with_reducible assumption) ?_) | (with_reducible exact Nat.lt_of_lt_of_le (by assumption) (by assumption)) | (simp only [World.size_alloc, World.size_setCell, World.size_drew, size_drewN]; omega)))
              refine Box.put (a0 := lim T 0) (a1 := lim T 1) (a2 := lim T 2) (a3 := lim T 3) ?_ _ _ _ _
              (repeat' (first | (with_reducible assumption) | (with_reducible refine Box.drewN ?_ _) | (with_reducible refine Box.drew ?_) | (with_reducible refine Box.alloc ?_ _) | (refine Box.other ?_ (by intro hh; dsimp only at hh; omega) _) | (refine Box.below ?_ (by with_reducible assumption) ?_) | (with_reducible exact Nat.lt_of_lt_of_le (by assumption) (by assumption)) | (simp only [World.size_alloc, World.size_setCell, World.size_drew, size_drewN]; omega)))
              refine Box.put (a0 := lim R 0) (a1 := lim R 1) (a2 := lim R 2) (a3 := lim R 3) ?_ _ _ _ _
              (repeat' (first | (with_reducible assumption) | (with_reducible refine Box.drewN ?_ _) | (with_reducible refine Box.drew ?_) | (with_reducible refine Box.alloc ?_ _) | (refine Box.other ?_ (by intro hh; dsimp only at hh; omega) _) | (refine Box.below ?_ (by with_reducible assumption) ?_) | (with_reducible exact Nat.lt_of_lt_of_le (by assumption) (by assumption)) | (simp only [World.size_alloc, World.size_setCell, World.size_drew, size_drewN]; omega))))
      have hM : (M256 : Nat) = 115792089237316195423570985008687907853269984665640564039457584007913129639936 := rfl
      obtain ⟨T, hTe⟩ : ∃ T : Nat, 2 * R + b - M256 = T := ⟨_, rfl⟩
      have hT256 : T < M256 := by omega
      have hO : shlO R (b : Int) = 1 := by rw [shlO, Int.toNat_natCast, if_neg (by omega)]
      have hV : shlV R (b : Int) = T := by rw [shlV, Int.toNat_natCast, if_neg (by omega)]; omega
      obtain ⟨S, hSe⟩ : ∃ S : Nat, 2 * R + b - C = S := ⟨_, rfl⟩
      have hW : wrapV T C = S := by rw [wrapV]; split <;> omega
      have HN := hide (show DivS L H C k S (Q + 2 ^ k) from hSe ▸ HD.out.high hL hlt HB.out (by omega))
      have HSW := hide (subw_c (A := T) (B := C) hT256 hC)
      clear hTe hSe
      clear hT hT2 hM
      have HCM := hide (fun w => cmp_c (isU_lim hT256) (isU_lim hC) w)
      go_wp2
      go_region_law (first | (go_simp; (go_at_call 65; (with_reducible refine (HSH.out _).mono ?_); rintro e w2 ⟨rfl, hb2⟩; (have hs2 := hb2.size); (try simp only [World.size_alloc, World.size_setCell, World.size_drew, size_drewN] at hs2); (have hc2_0 : ∀ o, w2.cell? ⟨w.heap.size, o, none⟩ = _ := fun o => hb2.cell (p := ⟨w.heap.size, o, none⟩) (by ((try simp only [World.size_alloc, World.size_setCell, World.size_drew, size_drewN]); omega))); (have hf2_0 : ∀ o, w2.frozen? ⟨w.heap.size, o, none⟩ = _ := fun o => hb2.frozen (p := ⟨w.heap.size, o, none⟩) (by ((try simp only [World.size_alloc, World.size_setCell, World.size_drew, size_drewN]); omega))); (have z2_0 : w.heap.size < w2.heap.size := (by omega)); (have hc2_1 : ∀ o, w2.cell? ⟨w.heap.size + 1, o, none⟩ = _ := fun o => hb2.cell (p := ⟨w.heap.size + 1, o, none⟩) (by ((try simp only [World.size_alloc, World.size_setCell, World.size_drew, size_drewN]); omega))); (have hf2_1 : ∀ o, w2.frozen? ⟨w.heap.size + 1, o, none⟩ = _ := fun o => hb2.frozen (p := ⟨w.heap.size + 1, o, none⟩) (by ((try simp only [World.size_alloc, World.size_setCell, World.size_drew, size_drewN]); omega))); (have z2_1 : w.heap.size + 1 < w2.heap.size := (by omega)); (have hc2_2 : ∀ o, w2.cell? ⟨w.heap.size + 1 + 1, o, none⟩ = _ := fun o => hb2.cell (p := ⟨w.heap.size + 1 + 1, o, none⟩) (by ((try simp only [World.size_alloc, World.size_setCell, World.size_drew, size_drewN]); omega))); (have hf2_2 : ∀ o, w2.frozen? ⟨w.heap.size + 1 + 1, o, none⟩ = _ := fun o => hb2.frozen (p := ⟨w.heap.size + 1 + 1, o, none⟩) (by ((try simp only [World.size_alloc, World.size_setCell, World.size_drew, size_drewN]); omega))); (have z2_2 : w.heap.size + 1 + 1 < w2.heap.size := (by omega)); (have hc2_3 : ∀ o, w2.cell? ⟨w.heap.size + 1 + 1 + 1, o, none⟩ = _ := fun o => hb2.cell (p := ⟨w.heap.size + 1 + 1 + 1, o, none⟩) (by ((try simp only [World.size_alloc, World.size_setCell, World.size_drew, size_drewN]); omega))); (have hf2_3 : ∀ o, w2.frozen? ⟨w.heap.size + 1 + 1 + 1, o, none⟩ = _ := fun o => hb2.frozen (p := ⟨w.heap.size + 1 + 1 + 1, o, none⟩) (by ((try simp only [World.size_alloc, World.size_setCell, World.size_drew, size_drewN]); omega))); (have z2_3 : w.heap.size + 1 + 1 + 1 < w2.heap.size := (by omega)); (have hc2_4 : ∀ o, w2.cell? ⟨w.heap.size + 1 + 1 + 1 + 1, o, none⟩ = _ := fun o => hb2.cell (p := ⟨w.heap.size + 1 + 1 + 1 + 1, o, none⟩) (by ((try simp only [World.size_alloc, World.size_setCell, World.size_drew, size_drewN]); omega))); (have hf2_4 : ∀ o, w2.frozen? ⟨w.heap.size + 1 + 1 + 1 + 1, o, none⟩ = _ := fun o => hb2.frozen (p := ⟨w.heap.size + 1 + 1 + 1 + 1, o, none⟩) (by ((try simp only [World.size_alloc, World.size_setCell, World.size_drew, size_drewN]); omega))); (have z2_4 : w.heap.size + 1 + 1 + 1 + 1 < w2.heap.size := (by omega)))))
      all_goals (
        go_wp2_with fail
        refine (HSW.out _).mono ?_
        rintro e w3 ⟨rfl, hb3⟩
        have hs3 := hb3.size
        try simp only [World.size_alloc, World.size_setCell, World.size_drew, size_drewN] at hs3
        have hc3_0 : ∀ o, w3.cell? ⟨w.heap.size, o, none⟩ = _ := fun o => hb3.cell (p := ⟨w.heap.size, o, none⟩) (by ((try simp only [World.size_alloc, World.size_setCell, World.size_drew, size_drewN]); omega))
        have hf3_0 : ∀ o, w3.frozen? ⟨w.heap.size, o, none⟩ = _ := fun o => hb3.frozen (p := ⟨w.heap.size, o, none⟩) (by ((try simp only [World.size_alloc, World.size_setCell, World.size_drew, size_drewN]); omega))
        have z3_0 : w.heap.size < w3.heap.size := (by omega)
        have hc3_1 : ∀ o, w3.cell? ⟨w.heap.size + 1, o, none⟩ = _ := fun o => hb3.cell (p := ⟨w.heap.size + 1, o, none⟩) (by ((try simp only [World.size_alloc, World.size_setCell, World.size_drew, size_drewN]); omega))
        have hf3_1 : ∀ o, w3.frozen? ⟨w.heap.size + 1, o, none⟩ = _ := fun o => hb3.frozen (p := ⟨w.heap.size + 1, o, none⟩) (by ((try simp only [World.size_alloc, World.size_setCell, World.size_drew, size_drewN]); omega))
        have z3_1 : w.heap.size + 1 < w3.heap.size := (by omega)
        have hc3_2 : ∀ o, w3.cell? ⟨w.heap.size + 1 + 1, o, none⟩ = _ := fun o => hb3.cell (p := ⟨w.heap.size + 1 + 1, o, none⟩) (by ((try simp only [World.size_alloc, World.size_setCell, World.size_drew, size_drewN]); omega))
        have hf3_2 : ∀ o, w3.frozen? ⟨w.heap.size + 1 + 1, o, none⟩ = _ := fun o => hb3.frozen (p := ⟨w.heap.size + 1 + 1, o, none⟩) (by ((try simp only [World.size_alloc, World.size_setCell, World.size_drew, size_drewN]); omega))
        have z3_2 : w.heap.size + 1 + 1 < w3.heap.size := (by omega)
        have hc3_3 : ∀ o, w3.cell? ⟨w.heap.size + 1 + 1 + 1, o, none⟩ = _ := fun o => hb3.cell (p := ⟨w.heap.size + 1 + 1 + 1, o, none⟩) (by ((try simp only [World.size_alloc, World.size_setCell, World.size_drew, size_drewN]); omega))
        have hf3_3 : ∀ o, w3.frozen? ⟨w.heap.size + 1 + 1 + 1, o, none⟩ = _ := fun o => hb3.frozen (p := ⟨w.heap.size + 1 + 1 + 1, o, none⟩) (by ((try simp only [World.size_alloc, World.size_setCell, World.size_drew, size_drewN]); omega))
        have z3_3 : w.heap.size + 1 + 1 + 1 < w3.heap.size := (by omega)
        have hc3_4 : ∀ o, w3.cell? ⟨w.heap.size + 1 + 1 + 1 + 1, o, none⟩ = _ := fun o => hb3.cell (p := ⟨w.heap.size + 1 + 1 + 1 + 1, o, none⟩) (by ((try simp only [World.size_alloc, World.size_setCell, World.size_drew, size_drewN]); omega))
        have hf3_4 : ∀ o, w3.frozen? ⟨w.heap.size + 1 + 1 + 1 + 1, o, none⟩ = _ := fun o => hb3.frozen (p := ⟨w.heap.size + 1 + 1 + 1 + 1, o, none⟩) (by ((try simp only [World.size_alloc, World.size_setCell, World.size_drew, size_drewN]); omega))
        have z3_4 : w.heap.size + 1 + 1 + 1 + 1 < w3.heap.size := (by omega)
        go_wp2
        go_region
        go_wp2
        go_roundw
        case measure => first | (simp [intOf]; done) | (simp [intOf]; omega)
        case rel =>
          have hxL := BL.out
          have hxC := BC.out
          have hxQ := BQ.out
          have hxR := BR.out
          refine ⟨k, (Q + 2 ^ k), S, (k : Int) - 1, by go_num, rfl, by omega, HN, hide ?_, hide ?_, hide ?_, hide ?_, hide (by (repeat' (first | (with_reducible exact Below.refl _ _) | (with_reducible assumption) | (with_reducible refine Below.alloc ?_ ?_ _) | (with_reducible refine Below.drew ?_) | (with_reducible refine below_drewN ?_ _) | (with_reducible refine Below.setCell ?_ ?_ _) | (with_reducible refine below_step (by with_reducible assumption) ?_ ?_) | (first | (with_reducible exact Nat.le_refl _) | (with_reducible assumption) | omega | (simp only [World.size_alloc, World.size_setCell, World.size_drew, size_drewN]; omega) | (simp; omega) | (simp; done)))))⟩
          · (repeat' (first | (with_reducible assumption) | (with_reducible refine Box.drewN ?_ _) | (with_reducible refine Box.drew ?_) | (with_reducible refine Box.alloc ?_ _) | (refine Box.other ?_ (by intro hh; dsimp only at hh; omega) _) | (refine Box.below ?_ (by with_reducible assumption) ?_) | (with_reducible exact Nat.lt_of_lt_of_le (by assumption) (by assumption)) | (simp only [World.size_alloc, World.size_setCell, World.size_drew, size_drewN]; omega)))
          · (repeat' (first | (with_reducible assumption) | (with_reducible refine Box.drewN ?_ _) | (with_reducible refine Box.drew ?_) | (with_reducible refine Box.alloc ?_ _) | (refine Box.other ?_ (by intro hh; dsimp only at hh; omega) _) | (refine Box.below ?_ (by with_reducible assumption) ?_) | (with_reducible exact Nat.lt_of_lt_of_le (by assumption) (by assumption)) | (simp only [World.size_alloc, World.size_setCell, World.size_drew, size_drewN]; omega)))
          · have hdv := HD.out.d
            have hoth := HOTH.out hdv
            rw [hoth.1, hoth.2.1, hoth.2.2, ← HSET.out hdv]
            (repeat' (first | (with_reducible assumption) | (with_reducible refine Box.drewN ?_ _) | (with_reducible refine Box.drew ?_) | (with_reducible refine Box.alloc ?_ _) | (refine Box.other ?_ (by intro hh; dsimp only at hh; omega) _) | (refine Box.below ?_ (by with_reducible assumption) ?_) | (with_reducible exact Nat.lt_of_lt_of_le (by assumption) (by assumption)) | (simp only [World.size_alloc, World.size_setCell, World.size_drew, size_drewN]; omega)))
            refine Box.set3 (a3 := lim Q 3) ?_ _
            (repeat' (first | (with_reducible assumption) | (with_reducible refine Box.drewN ?_ _) | (with_reducible refine Box.drew ?_) | (with_reducible refine Box.alloc ?_ _) | (refine Box.other ?_ (by intro hh; dsimp only at hh; omega) _) | (refine Box.below ?_ (by with_reducible assumption) ?_) | (with_reducible exact Nat.lt_of_lt_of_le (by assumption) (by assumption)) | (simp only [World.size_alloc, World.size_setCell, World.size_drew, size_drewN]; omega)))
          · (repeat' (first | (with_reducible assumption) | (with_reducible refine Box.drewN ?_ _) | (with_reducible refine Box.drew ?_) | (with_reducible refine Box.alloc ?_ _) | (refine Box.other ?_ (by intro hh; dsimp only at hh; omega) _) | (refine Box.below ?_ (by with_reducible assumption) ?_) | (with_reducible exact Nat.lt_of_lt_of_le (by assumption) (by assumption)) | (simp only [World.size_alloc, World.size_setCell, World.size_drew, size_drewN]; omega)))
            refine Box.put (a0 := lim T 0) (a1 := lim T 1) (a2 := lim T 2) (a3 := lim T 3) ?_ _ _ _ _
            (repeat' (first | (with_reducible assumption) | (with_reducible refine Box.drewN ?_ _) | (with_reducible refine Box.drew ?_) | (with_reducible refine Box.alloc ?_ _) | (refine Box.other ?_ (by intro hh; dsimp only at hh; omega) _) | (refine Box.below ?_ (by with_reducible assumption) ?_) | (with_reducible exact Nat.lt_of_lt_of_le (by assumption) (by assumption)) | (simp only [World.size_alloc, World.size_setCell, World.size_drew, size_drewN]; omega)))
            refine Box.put (a0 := lim R 0) (a1 := lim R 1) (a2 := lim R 2) (a3 := lim R 3) ?_ _ _ _ _
            (repeat' (first | (with_reducible assumption) | (with_reducible refine Box.drewN ?_ _) | (with_reducible refine Box.drew ?_) | (with_reducible refine Box.alloc ?_ _) | (refine Box.other ?_ (by intro hh; dsimp only at hh; omega) _) | (refine Box.below ?_ (by with_reducible assumption) ?_) | (with_reducible exact Nat.lt_of_lt_of_le (by assumption) (by assumption)) | (simp only [World.size_alloc, World.size_setCell, World.size_drew, size_drewN]; omega))))
end Go.Proofs.Ytkneiobohhhcpaa
