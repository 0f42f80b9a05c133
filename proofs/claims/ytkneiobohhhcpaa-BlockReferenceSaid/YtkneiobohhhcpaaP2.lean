/- params: bounds, FirstInvalid, Valid. -/
import Derived.WalkKit
import Derived.KernelRfl
import Derived.RowKit3
import Derived.Deep.LoopGhost
import Derived.Deep.QuietTactic
import Derived.BigQuiet
import Derived.WideLaws
import Derived.Laws.Rows
import Derived.Below
import Derived.Deep.Draws
import Derived.Outline
import Derived.LoopN
import Derived.Handy
import Derived.Laws.Externs
import Derived.Laws.BitsAllLaws
import Derived.Laws.BitsLemmas
import Derived.Deep.DeepCutAuto
import Derived.Deep.CutBlock
import Derived.Deep.RegionHeld3
import Derived.Test.YtkneiobohhhcpaaP1
import Derived.Deep.MidRow
import Derived.Deep.WholeRow
import Derived.Deep.RegionLaw
namespace Go.Proofs.Ytkneiobohhhcpaa
open Go.RowKit
set_option linter.unusedVariables false
set_option linter.unusedSimpArgs false
theorem prange {W : World} {b : Nat} {P : Nat → Int} {t : TypeId} {fr : Nat × Nat} (h : W.heap[b]? = some (.cells #[.int .u64 (P 0), .int .u64 (P 1), .int .u64 (P 2), .int .u64 (P 3), .int .u64 (P 4), .int .u64 (P 5), .int .u64 (P 6), .int .u64 (P 7), .int .u64 (P 8), .int .u64 (P 9), .int .u64 (P 10), .int .u64 (P 11), .int .u64 (P 12), .int .u64 (P 13), .int .u64 (P 14), .int .u64 (P 15), .int .u64 (P 16), .int .u64 (P 17), .int .u64 (P 18), .int .u64 (P 19), .int .u64 (P 20)] t fr)) : W.rangeAt b 0 [.int .u64 (P 0), .int .u64 (P 1), .int .u64 (P 2), .int .u64 (P 3), .int .u64 (P 4), .int .u64 (P 5), .int .u64 (P 6), .int .u64 (P 7), .int .u64 (P 8), .int .u64 (P 9), .int .u64 (P 10), .int .u64 (P 11), .int .u64 (P 12), .int .u64 (P 13), .int .u64 (P 14), .int .u64 (P 15), .int .u64 (P 16), .int .u64 (P 17), .int .u64 (P 18), .int .u64 (P 19), .int .u64 (P 20)] := by
  intro j v hj
  rw [Nat.zero_add, cell_of_row W b j _ t fr h, ← hj]
  simp
set_option maxHeartbeats 8000000 in
theorem bounds_c (P : Nat → Int) (k : Int) (h : 1 ≤ k ∧ k ≤ 12) (w : World) :
    Calls Try.prog 43 #[.agg #[.int .u64 (P 0), .int .u64 (P 1), .int .u64 (P 2), .int .u64 (P 3), .int .u64 (P 4), .int .u64 (P 5), .int .u64 (P 6), .int .u64 (P 7), .int .u64 (P 8), .int .u64 (P 9), .int .u64 (P 10), .int .u64 (P 11), .int .u64 (P 12), .int .u64 (P 13), .int .u64 (P 14), .int .u64 (P 15), .int .u64 (P 16), .int .u64 (P 17), .int .u64 (P 18), .int .u64 (P 19), .int .u64 (P 20)], .int .i64 k] w fun e w' => e = .returned (.tuple #[.int .u64 (bndL P k), .int .u64 (bndM k)]) ∧ Below w.heap.size w w' := by
  obtain rfl | rfl | rfl | rfl | rfl | rfl | rfl | rfl | rfl | rfl | rfl | rfl : k = 1 ∨ k = 2 ∨ k = 3 ∨ k = 4 ∨ k = 5 ∨ k = 6 ∨ k = 7 ∨ k = 8 ∨ k = 9 ∨ k = 10 ∨ k = 11 ∨ k = 12 := by omega
  · have e : bndL P 1 = 1 := rfl
    have e' : bndM 1 = 1099511627776 := rfl
    rw [e, e']
    clear e e'
    go_enter Try.func43, Try.ntmps43
    go_wp2
    go_returns
    exact ⟨rfl, (by (repeat' (first | (with_reducible exact Below.refl _ _) | (with_reducible assumption) | (with_reducible refine Below.alloc ?_ ?_ _) | (with_reducible refine Below.drew ?_) | (with_reducible refine below_drewN ?_ _) | (with_reducible refine Below.setCell ?_ ?_ _) | (with_reducible refine below_step (by with_reducible assumption) ?_ ?_) | (first | (with_reducible exact Nat.le_refl _) | (with_reducible assumption) | omega | (simp only [World.size_alloc, World.size_setCell, World.size_drew, size_drewN]; omega) | (simp; omega) | (simp; done)))))⟩
  · have e : bndL P 2 = 0 := rfl
    have e' : bndM 2 = 1048576 := rfl
    rw [e, e']
    clear e e'
    go_enter Try.func43, Try.ntmps43
    go_wp2
    go_returns
    exact ⟨rfl, (by (repeat' (first | (with_reducible exact Below.refl _ _) | (with_reducible assumption) | (with_reducible refine Below.alloc ?_ ?_ _) | (with_reducible refine Below.drew ?_) | (with_reducible refine below_drewN ?_ _) | (with_reducible refine Below.setCell ?_ ?_ _) | (with_reducible refine below_step (by with_reducible assumption) ?_ ?_) | (first | (with_reducible exact Nat.le_refl _) | (with_reducible assumption) | omega | (simp only [World.size_alloc, World.size_setCell, World.size_drew, size_drewN]; omega) | (simp; omega) | (simp; done)))))⟩
  · have e : bndL P 3 = 1 := rfl
    have e' : bndM 3 = 1048576 := rfl
    rw [e, e']
    clear e e'
    go_enter Try.func43, Try.ntmps43
    go_wp2
    go_returns
    exact ⟨rfl, (by (repeat' (first | (with_reducible exact Below.refl _ _) | (with_reducible assumption) | (with_reducible refine Below.alloc ?_ ?_ _) | (with_reducible refine Below.drew ?_) | (with_reducible refine below_drewN ?_ _) | (with_reducible refine Below.setCell ?_ ?_ _) | (with_reducible refine below_step (by with_reducible assumption) ?_ ?_) | (first | (with_reducible exact Nat.le_refl _) | (with_reducible assumption) | omega | (simp only [World.size_alloc, World.size_setCell, World.size_drew, size_drewN]; omega) | (simp; omega) | (simp; done)))))⟩
  · have e : bndL P 4 = 1 := rfl
    have e' : bndM 4 = 18446744073709551615 := rfl
    rw [e, e']
    clear e e'
    go_enter Try.func43, Try.ntmps43
    go_wp2
    go_returns
    exact ⟨rfl, (by (repeat' (first | (with_reducible exact Below.refl _ _) | (with_reducible assumption) | (with_reducible refine Below.alloc ?_ ?_ _) | (with_reducible refine Below.drew ?_) | (with_reducible refine below_drewN ?_ _) | (with_reducible refine Below.setCell ?_ ?_ _) | (with_reducible refine below_step (by with_reducible assumption) ?_ ?_) | (first | (with_reducible exact Nat.le_refl _) | (with_reducible assumption) | omega | (simp only [World.size_alloc, World.size_setCell, World.size_drew, size_drewN]; omega) | (simp; omega) | (simp; done)))))⟩
  · have e : bndL P 5 = 1 := rfl
    have e' : bndM 5 = 1099511627776 := rfl
    rw [e, e']
    clear e e'
    go_enter Try.func43, Try.ntmps43
    go_wp2
    go_returns
    exact ⟨rfl, (by (repeat' (first | (with_reducible exact Below.refl _ _) | (with_reducible assumption) | (with_reducible refine Below.alloc ?_ ?_ _) | (with_reducible refine Below.drew ?_) | (with_reducible refine below_drewN ?_ _) | (with_reducible refine Below.setCell ?_ ?_ _) | (with_reducible refine below_step (by with_reducible assumption) ?_ ?_) | (first | (with_reducible exact Nat.le_refl _) | (with_reducible assumption) | omega | (simp only [World.size_alloc, World.size_setCell, World.size_drew, size_drewN]; omega) | (simp; omega) | (simp; done)))))⟩
  · have e : bndL P 6 = 0 := rfl
    have e' : bndM 6 = 18446744073709551615 := rfl
    rw [e, e']
    clear e e'
    go_enter Try.func43, Try.ntmps43
    go_wp2
    go_returns
    exact ⟨rfl, (by (repeat' (first | (with_reducible exact Below.refl _ _) | (with_reducible assumption) | (with_reducible refine Below.alloc ?_ ?_ _) | (with_reducible refine Below.drew ?_) | (with_reducible refine below_drewN ?_ _) | (with_reducible refine Below.setCell ?_ ?_ _) | (with_reducible refine below_step (by with_reducible assumption) ?_ ?_) | (first | (with_reducible exact Nat.le_refl _) | (with_reducible assumption) | omega | (simp only [World.size_alloc, World.size_setCell, World.size_drew, size_drewN]; omega) | (simp; omega) | (simp; done)))))⟩
  · have e : bndL P 7 = 0 := rfl
    have e' : bndM 7 = 10000 := rfl
    rw [e, e']
    clear e e'
    go_enter Try.func43, Try.ntmps43
    go_wp2
    go_returns
    exact ⟨rfl, (by (repeat' (first | (with_reducible exact Below.refl _ _) | (with_reducible assumption) | (with_reducible refine Below.alloc ?_ ?_ _) | (with_reducible refine Below.drew ?_) | (with_reducible refine below_drewN ?_ _) | (with_reducible refine Below.setCell ?_ ?_ _) | (with_reducible refine below_step (by with_reducible assumption) ?_ ?_) | (first | (with_reducible exact Nat.le_refl _) | (with_reducible assumption) | omega | (simp only [World.size_alloc, World.size_setCell, World.size_drew, size_drewN]; omega) | (simp; omega) | (simp; done)))))⟩
  · have e : bndL P 8 = 0 := rfl
    have e' : bndM 8 = 18446744073709551615 := rfl
    rw [e, e']
    clear e e'
    go_enter Try.func43, Try.ntmps43
    go_wp2
    go_returns
    exact ⟨rfl, (by (repeat' (first | (with_reducible exact Below.refl _ _) | (with_reducible assumption) | (with_reducible refine Below.alloc ?_ ?_ _) | (with_reducible refine Below.drew ?_) | (with_reducible refine below_drewN ?_ _) | (with_reducible refine Below.setCell ?_ ?_ _) | (with_reducible refine below_step (by with_reducible assumption) ?_ ?_) | (first | (with_reducible exact Nat.le_refl _) | (with_reducible assumption) | omega | (simp only [World.size_alloc, World.size_setCell, World.size_drew, size_drewN]; omega) | (simp; omega) | (simp; done)))))⟩
  · have e : bndL P 9 = 1 := rfl
    have e' : bndM 9 = 1099511627776 := rfl
    rw [e, e']
    clear e e'
    go_enter Try.func43, Try.ntmps43
    go_wp2
    go_returns
    exact ⟨rfl, (by (repeat' (first | (with_reducible exact Below.refl _ _) | (with_reducible assumption) | (with_reducible refine Below.alloc ?_ ?_ _) | (with_reducible refine Below.drew ?_) | (with_reducible refine below_drewN ?_ _) | (with_reducible refine Below.setCell ?_ ?_ _) | (with_reducible refine below_step (by with_reducible assumption) ?_ ?_) | (first | (with_reducible exact Nat.le_refl _) | (with_reducible assumption) | omega | (simp only [World.size_alloc, World.size_setCell, World.size_drew, size_drewN]; omega) | (simp; omega) | (simp; done)))))⟩
  · have e : bndL P 10 = 1 := rfl
    have e' : bndM 10 = 1048576 := rfl
    rw [e, e']
    clear e e'
    go_enter Try.func43, Try.ntmps43
    go_wp2
    go_returns
    exact ⟨rfl, (by (repeat' (first | (with_reducible exact Below.refl _ _) | (with_reducible assumption) | (with_reducible refine Below.alloc ?_ ?_ _) | (with_reducible refine Below.drew ?_) | (with_reducible refine below_drewN ?_ _) | (with_reducible refine Below.setCell ?_ ?_ _) | (with_reducible refine below_step (by with_reducible assumption) ?_ ?_) | (first | (with_reducible exact Nat.le_refl _) | (with_reducible assumption) | omega | (simp only [World.size_alloc, World.size_setCell, World.size_drew, size_drewN]; omega) | (simp; omega) | (simp; done)))))⟩
  · have e : bndL P 11 = 0 := rfl
    have e' : bndM 11 = 1048576 := rfl
    rw [e, e']
    clear e e'
    go_enter Try.func43, Try.ntmps43
    go_wp2
    go_returns
    exact ⟨rfl, (by (repeat' (first | (with_reducible exact Below.refl _ _) | (with_reducible assumption) | (with_reducible refine Below.alloc ?_ ?_ _) | (with_reducible refine Below.drew ?_) | (with_reducible refine below_drewN ?_ _) | (with_reducible refine Below.setCell ?_ ?_ _) | (with_reducible refine below_step (by with_reducible assumption) ?_ ?_) | (first | (with_reducible exact Nat.le_refl _) | (with_reducible assumption) | omega | (simp only [World.size_alloc, World.size_setCell, World.size_drew, size_drewN]; omega) | (simp; omega) | (simp; done)))))⟩
  · have e : bndL P 12 = P 19 := rfl
    have e' : bndM 12 = 16777216 := rfl
    rw [e, e']
    clear e e'
    go_enter Try.func43, Try.ntmps43
    go_wp2
    go_returns
    exact ⟨rfl, (by (repeat' (first | (with_reducible exact Below.refl _ _) | (with_reducible assumption) | (with_reducible refine Below.alloc ?_ ?_ _) | (with_reducible refine Below.drew ?_) | (with_reducible refine below_drewN ?_ _) | (with_reducible refine Below.setCell ?_ ?_ _) | (with_reducible refine below_step (by with_reducible assumption) ?_ ?_) | (first | (with_reducible exact Nat.le_refl _) | (with_reducible assumption) | omega | (simp only [World.size_alloc, World.size_setCell, World.size_drew, size_drewN]; omega) | (simp; omega) | (simp; done)))))⟩
theorem not_ok {P : Nat → Int} {k : Int} (h : ¬ okP P k) (h1 : bndL P k ≤ (getN P k : Int)) : bndM k < (getN P k : Int) := by unfold okP at h; omega
set_option maxHeartbeats 8000000 in
theorem fi_c (P : Nat → Int) (hP : PW P) (w : World) :
    Calls Try.prog 27 #[.agg #[.int .u64 (P 0), .int .u64 (P 1), .int .u64 (P 2), .int .u64 (P 3), .int .u64 (P 4), .int .u64 (P 5), .int .u64 (P 6), .int .u64 (P 7), .int .u64 (P 8), .int .u64 (P 9), .int .u64 (P 10), .int .u64 (P 11), .int .u64 (P 12), .int .u64 (P 13), .int .u64 (P 14), .int .u64 (P 15), .int .u64 (P 16), .int .u64 (P 17), .int .u64 (P 18), .int .u64 (P 19), .int .u64 (P 20)]] w fun e w' => e = .returned (.int .i64 (fiV P)) ∧ Below w.heap.size w w' := by
  go_enter Try.func27, Try.ntmps27
  go_wp2
  go_loopw [3] (fun v3 wr => ∃ m : Nat, v3 = .int .i64 (13 - (m : Int)) ∧ m ≤ 12 ∧ Hid (fiV P = fiGo P m) ∧ Hid (Below (w.heap.size + 1) (w.alloc (.cells #[.int .u64 (P 0), .int .u64 (P 1), .int .u64 (P 2), .int .u64 (P 3), .int .u64 (P 4), .int .u64 (P 5), .int .u64 (P 6), .int .u64 (P 7), .int .u64 (P 8), .int .u64 (P 9), .int .u64 (P 10), .int .u64 (P 11), .int .u64 (P 12), .int .u64 (P 13), .int .u64 (P 14), .int .u64 (P 15), .int .u64 (P 16), .int .u64 (P 17), .int .u64 (P 18), .int .u64 (P 19), .int .u64 (P 20)] 27)) wr)) (fun v3 _ => (13 - intOf v3).toNat)
  case atStart => exact ⟨12, by go_num, by omega, hide rfl, hide (Below.refl _ _)⟩
  case round =>
    obtain ⟨m, rfl, hm, HF, HB⟩ := hrel
    have hp := fun o => HB.out.cell (p := ⟨w.heap.size, o, none⟩) (by show w.heap.size < w.heap.size + 1; omega)
    have hbk0 : wr.heap[w.heap.size]? = _ := (HB.out.block w.heap.size (by omega)).trans (heap_alloc_last w _)
    replace hbk0 := hide hbk0
    have hsz := HB.out.size
    simp only [World.size_alloc] at hsz
    have hbb : Below w.heap.size w wr := ((Below.refl w.heap.size w).alloc (Nat.le_refl _) _).trans (HB.out.mono (by omega))
    rcases m with _ | j
    · have hf : fiV P = 0 := HF.out
      replace hf := hide hf
      go_wp2
      go_ret
      exact ⟨by rw [hf.out]; rfl, (by (repeat' (first | (with_reducible exact Below.refl _ _) | (with_reducible assumption) | (with_reducible refine Below.alloc ?_ ?_ _) | (with_reducible refine Below.drew ?_) | (with_reducible refine below_drewN ?_ _) | (with_reducible refine Below.setCell ?_ ?_ _) | (with_reducible refine below_step (by with_reducible assumption) ?_ ?_) | (first | (with_reducible exact Nat.le_refl _) | (with_reducible assumption) | omega | (simp only [World.size_alloc, World.size_setCell, World.size_drew, size_drewN]; omega) | (simp; omega) | (simp; done)))))⟩
    · obtain ⟨K, hK⟩ : ∃ K : Int, 13 - ((j + 1 : Nat) : Int) = K := ⟨_, rfl⟩
      have hK1 : 1 ≤ K := by omega
      have hK2 : K ≤ 12 := by omega
      have hf : fiV P = if okP P K then fiGo P j else K := by rw [HF.out, fiGo, show (12 - (j : Int)) = K by omega]
      rw [hK]
      have HG := hide (fun w => get_c P K w)
      have HBd := hide (fun w => bounds_c P K ⟨hK1, hK2⟩ w)
      have hl := bndL_w hP K
      have hu := bndM_w K
      have HC1 := hide (fun w => cmp_c (getU hP K) (isU_one hl.1 hl.2) w)
      have HC2 := hide (fun w => cmp_c (getU hP K) (isU_one hu.1 hu.2) w)
      have hwr : IntKind.i64.wrap (K + 1) = K + 1 := by rw [IntKind.wrap_i64]; omega
      by_cases c1 : (getN P K : Int) < bndL P K
      · have hc : cmpV (getN P K) (bndL P K).toNat = -1 := by rw [cmpV, if_pos (by omega)]
        rw [if_neg (fun h => by have := h.1; omega)] at hf
        replace hf := hide hf
        clear hl hu c1 HF
        go_upto_region 4 with fail
        refine wp_region_lit ?_
        refine wpList_load_mid rfl 27 (.tmp 1) rfl w.heap.size 0 rfl _ _ (prange (hbk0.out)) Try.underlying27 rfl (by kernel_rfl) ?_
        go_wp2_with fail
        refine (HG.out _).mono ?_
        rintro e w1 ⟨rfl, hb1⟩
        have hs1 := hb1.size
        try simp only [World.size_alloc, World.size_setCell, World.size_drew, size_drewN] at hs1
        have hc1_0 : ∀ o, w1.cell? ⟨w.heap.size, o, none⟩ = _ := fun o => hb1.cell (p := ⟨w.heap.size, o, none⟩) (by ((try simp only [World.size_alloc, World.size_setCell, World.size_drew, size_drewN]); omega))
        have hf1_0 : ∀ o, w1.frozen? ⟨w.heap.size, o, none⟩ = _ := fun o => hb1.frozen (p := ⟨w.heap.size, o, none⟩) (by ((try simp only [World.size_alloc, World.size_setCell, World.size_drew, size_drewN]); omega))
        have z1_0 : w.heap.size < w1.heap.size := (by omega)
        go_upto_region 5 with fail
        refine wp_region_lit ?_
        refine wpList_load_mid rfl 27 (.tmp 1) rfl w.heap.size 0 rfl _ _ (prange ((Below.block (B := w.heap.size + 1) (w := wr) ?hbx w.heap.size (by omega)).trans hbk0.out)) Try.underlying27 rfl (by kernel_rfl) ?_
        case hbx => exact (by (repeat' (first | (with_reducible exact Below.refl _ _) | (with_reducible assumption) | (with_reducible refine Below.alloc ?_ ?_ _) | (with_reducible refine Below.drew ?_) | (with_reducible refine below_drewN ?_ _) | (with_reducible refine Below.setCell ?_ ?_ _) | (with_reducible refine below_step (by with_reducible assumption) ?_ ?_) | (first | (with_reducible exact Nat.le_refl _) | (with_reducible assumption) | omega | (simp only [World.size_alloc, World.size_setCell, World.size_drew, size_drewN]; omega) | (simp; omega) | (simp; done)))))
        go_wp2_with fail
        refine (HBd.out _).mono ?_
        rintro e w2 ⟨rfl, hb2⟩
        have hs2 := hb2.size
        try simp only [World.size_alloc, World.size_setCell, World.size_drew, size_drewN] at hs2
        have hc2_0 : ∀ o, w2.cell? ⟨w.heap.size, o, none⟩ = _ := fun o => hb2.cell (p := ⟨w.heap.size, o, none⟩) (by ((try simp only [World.size_alloc, World.size_setCell, World.size_drew, size_drewN]); omega))
        have hf2_0 : ∀ o, w2.frozen? ⟨w.heap.size, o, none⟩ = _ := fun o => hb2.frozen (p := ⟨w.heap.size, o, none⟩) (by ((try simp only [World.size_alloc, World.size_setCell, World.size_drew, size_drewN]); omega))
        have z2_0 : w.heap.size < w2.heap.size := (by omega)
        have hc2_1 : ∀ o, w2.cell? ⟨w1.heap.size, o, none⟩ = _ := fun o => hb2.cell (p := ⟨w1.heap.size, o, none⟩) (by ((try simp only [World.size_alloc, World.size_setCell, World.size_drew, size_drewN]); omega))
        have hf2_1 : ∀ o, w2.frozen? ⟨w1.heap.size, o, none⟩ = _ := fun o => hb2.frozen (p := ⟨w1.heap.size, o, none⟩) (by ((try simp only [World.size_alloc, World.size_setCell, World.size_drew, size_drewN]); omega))
        have z2_1 : w1.heap.size < w2.heap.size := (by omega)
        go_wp2_with fail
        first | (go_region_law (first | (go_simp; (go_at_call 22; (with_reducible refine (from_c _ _).mono ?_); rintro e w3 ⟨rfl, hb3⟩; (have hs3 := hb3.size); (try simp only [World.size_alloc, World.size_setCell, World.size_drew, size_drewN] at hs3); (have hc3_0 : ∀ o, w3.cell? ⟨w.heap.size, o, none⟩ = _ := fun o => hb3.cell (p := ⟨w.heap.size, o, none⟩) (by ((try simp only [World.size_alloc, World.size_setCell, World.size_drew, size_drewN]); omega))); (have hf3_0 : ∀ o, w3.frozen? ⟨w.heap.size, o, none⟩ = _ := fun o => hb3.frozen (p := ⟨w.heap.size, o, none⟩) (by ((try simp only [World.size_alloc, World.size_setCell, World.size_drew, size_drewN]); omega))); (have z3_0 : w.heap.size < w3.heap.size := (by omega)); (have hc3_1 : ∀ o, w3.cell? ⟨w1.heap.size, o, none⟩ = _ := fun o => hb3.cell (p := ⟨w1.heap.size, o, none⟩) (by ((try simp only [World.size_alloc, World.size_setCell, World.size_drew, size_drewN]); omega))); (have hf3_1 : ∀ o, w3.frozen? ⟨w1.heap.size, o, none⟩ = _ := fun o => hb3.frozen (p := ⟨w1.heap.size, o, none⟩) (by ((try simp only [World.size_alloc, World.size_setCell, World.size_drew, size_drewN]); omega))); (have z3_1 : w1.heap.size < w3.heap.size := (by omega)))) | (go_simp; (go_at_call 44; (with_reducible refine (HC1.out _).mono ?_); rintro e w4 ⟨rfl, hb4⟩; (have hs4 := hb4.size); (try simp only [World.size_alloc, World.size_setCell, World.size_drew, size_drewN] at hs4); (have hc4_0 : ∀ o, w4.cell? ⟨w.heap.size, o, none⟩ = _ := fun o => hb4.cell (p := ⟨w.heap.size, o, none⟩) (by ((try simp only [World.size_alloc, World.size_setCell, World.size_drew, size_drewN]); omega))); (have hf4_0 : ∀ o, w4.frozen? ⟨w.heap.size, o, none⟩ = _ := fun o => hb4.frozen (p := ⟨w.heap.size, o, none⟩) (by ((try simp only [World.size_alloc, World.size_setCell, World.size_drew, size_drewN]); omega))); (have z4_0 : w.heap.size < w4.heap.size := (by omega)); (have hc4_1 : ∀ o, w4.cell? ⟨w1.heap.size, o, none⟩ = _ := fun o => hb4.cell (p := ⟨w1.heap.size, o, none⟩) (by ((try simp only [World.size_alloc, World.size_setCell, World.size_drew, size_drewN]); omega))); (have hf4_1 : ∀ o, w4.frozen? ⟨w1.heap.size, o, none⟩ = _ := fun o => hb4.frozen (p := ⟨w1.heap.size, o, none⟩) (by ((try simp only [World.size_alloc, World.size_setCell, World.size_drew, size_drewN]); omega))); (have z4_1 : w1.heap.size < w4.heap.size := (by omega)))))) | fail
        all_goals go_wp2
        all_goals go_ret
        all_goals exact ⟨by rw [hf.out]; rfl, (by (repeat' (first | (with_reducible exact Below.refl _ _) | (with_reducible assumption) | (with_reducible refine Below.alloc ?_ ?_ _) | (with_reducible refine Below.drew ?_) | (with_reducible refine below_drewN ?_ _) | (with_reducible refine Below.setCell ?_ ?_ _) | (with_reducible refine below_step (by with_reducible assumption) ?_ ?_) | (first | (with_reducible exact Nat.le_refl _) | (with_reducible assumption) | omega | (simp only [World.size_alloc, World.size_setCell, World.size_drew, size_drewN]; omega) | (simp; omega) | (simp; done)))))⟩
      · obtain ⟨a, ha, ha0, ha1⟩ : ∃ a, cmpV (getN P K) (bndL P K).toNat = a ∧ decide (a < 0) = false ∧ ¬ a < 0 := by
          refine ⟨_, rfl, ?_⟩
          rw [cmpV, if_neg (by omega)]
          split <;> exact ⟨rfl, by decide⟩
        by_cases c2 : bndM K < (getN P K : Int)
        · have hc : cmpV (getN P K) (bndM K).toNat = 1 := by rw [cmpV, if_neg (by omega), if_pos (by omega)]
          rw [if_neg (fun h => by have := h.2; omega)] at hf
          replace hf := hide hf
          clear hl hu c1 c2 HF
          go_upto_region 4 with fail
          refine wp_region_lit ?_
          refine wpList_load_mid rfl 27 (.tmp 1) rfl w.heap.size 0 rfl _ _ (prange (hbk0.out)) Try.underlying27 rfl (by kernel_rfl) ?_
          go_wp2_with fail
          refine (HG.out _).mono ?_
          rintro e w1 ⟨rfl, hb1⟩
          have hs1 := hb1.size
          try simp only [World.size_alloc, World.size_setCell, World.size_drew, size_drewN] at hs1
          have hc1_0 : ∀ o, w1.cell? ⟨w.heap.size, o, none⟩ = _ := fun o => hb1.cell (p := ⟨w.heap.size, o, none⟩) (by ((try simp only [World.size_alloc, World.size_setCell, World.size_drew, size_drewN]); omega))
          have hf1_0 : ∀ o, w1.frozen? ⟨w.heap.size, o, none⟩ = _ := fun o => hb1.frozen (p := ⟨w.heap.size, o, none⟩) (by ((try simp only [World.size_alloc, World.size_setCell, World.size_drew, size_drewN]); omega))
          have z1_0 : w.heap.size < w1.heap.size := (by omega)
          go_upto_region 5 with fail
          refine wp_region_lit ?_
          refine wpList_load_mid rfl 27 (.tmp 1) rfl w.heap.size 0 rfl _ _ (prange ((Below.block (B := w.heap.size + 1) (w := wr) ?hbx w.heap.size (by omega)).trans hbk0.out)) Try.underlying27 rfl (by kernel_rfl) ?_
          case hbx => exact (by (repeat' (first | (with_reducible exact Below.refl _ _) | (with_reducible assumption) | (with_reducible refine Below.alloc ?_ ?_ _) | (with_reducible refine Below.drew ?_) | (with_reducible refine below_drewN ?_ _) | (with_reducible refine Below.setCell ?_ ?_ _) | (with_reducible refine below_step (by with_reducible assumption) ?_ ?_) | (first | (with_reducible exact Nat.le_refl _) | (with_reducible assumption) | omega | (simp only [World.size_alloc, World.size_setCell, World.size_drew, size_drewN]; omega) | (simp; omega) | (simp; done)))))
          go_wp2_with fail
          refine (HBd.out _).mono ?_
          rintro e w2 ⟨rfl, hb2⟩
          have hs2 := hb2.size
          try simp only [World.size_alloc, World.size_setCell, World.size_drew, size_drewN] at hs2
          have hc2_0 : ∀ o, w2.cell? ⟨w.heap.size, o, none⟩ = _ := fun o => hb2.cell (p := ⟨w.heap.size, o, none⟩) (by ((try simp only [World.size_alloc, World.size_setCell, World.size_drew, size_drewN]); omega))
          have hf2_0 : ∀ o, w2.frozen? ⟨w.heap.size, o, none⟩ = _ := fun o => hb2.frozen (p := ⟨w.heap.size, o, none⟩) (by ((try simp only [World.size_alloc, World.size_setCell, World.size_drew, size_drewN]); omega))
          have z2_0 : w.heap.size < w2.heap.size := (by omega)
          have hc2_1 : ∀ o, w2.cell? ⟨w1.heap.size, o, none⟩ = _ := fun o => hb2.cell (p := ⟨w1.heap.size, o, none⟩) (by ((try simp only [World.size_alloc, World.size_setCell, World.size_drew, size_drewN]); omega))
          have hf2_1 : ∀ o, w2.frozen? ⟨w1.heap.size, o, none⟩ = _ := fun o => hb2.frozen (p := ⟨w1.heap.size, o, none⟩) (by ((try simp only [World.size_alloc, World.size_setCell, World.size_drew, size_drewN]); omega))
          have z2_1 : w1.heap.size < w2.heap.size := (by omega)
          go_wp2_with fail
          go_region_held3 (fun w' => w'.cell? ⟨w1.heap.size, 0, none⟩ = some (.int .u64 (getL P K 0)) ∧ w'.cell? ⟨w1.heap.size, 1, none⟩ = some (.int .u64 (getL P K 1)) ∧ w'.cell? ⟨w1.heap.size, 2, none⟩ = some (.int .u64 (getL P K 2)) ∧ w'.cell? ⟨w1.heap.size, 3, none⟩ = some (.int .u64 (getL P K 3))) (simp (maxDischargeDepth := 16) [go_sem, *, World.cell?_alloc_some, World.cell?_setCell_far]) (first | (go_at_call 22; (with_reducible refine (from_c _ _).mono ?_); rintro e w3 ⟨rfl, hb3⟩; (have hs3 := hb3.size); (try simp only [World.size_alloc, World.size_setCell, World.size_drew, size_drewN] at hs3); (have hc3_0 : ∀ o, w3.cell? ⟨w.heap.size, o, none⟩ = _ := fun o => hb3.cell (p := ⟨w.heap.size, o, none⟩) (by ((try simp only [World.size_alloc, World.size_setCell, World.size_drew, size_drewN]); omega))); (have hf3_0 : ∀ o, w3.frozen? ⟨w.heap.size, o, none⟩ = _ := fun o => hb3.frozen (p := ⟨w.heap.size, o, none⟩) (by ((try simp only [World.size_alloc, World.size_setCell, World.size_drew, size_drewN]); omega))); (have z3_0 : w.heap.size < w3.heap.size := (by omega)); (have hc3_1 : ∀ o, w3.cell? ⟨w1.heap.size, o, none⟩ = _ := fun o => hb3.cell (p := ⟨w1.heap.size, o, none⟩) (by ((try simp only [World.size_alloc, World.size_setCell, World.size_drew, size_drewN]); omega))); (have hf3_1 : ∀ o, w3.frozen? ⟨w1.heap.size, o, none⟩ = _ := fun o => hb3.frozen (p := ⟨w1.heap.size, o, none⟩) (by ((try simp only [World.size_alloc, World.size_setCell, World.size_drew, size_drewN]); omega))); (have z3_1 : w1.heap.size < w3.heap.size := (by omega))) | (go_at_call 44; (with_reducible refine (HC1.out _).mono ?_); rintro e w4 ⟨rfl, hb4⟩; (have hs4 := hb4.size); (try simp only [World.size_alloc, World.size_setCell, World.size_drew, size_drewN] at hs4); (have hc4_0 : ∀ o, w4.cell? ⟨w.heap.size, o, none⟩ = _ := fun o => hb4.cell (p := ⟨w.heap.size, o, none⟩) (by ((try simp only [World.size_alloc, World.size_setCell, World.size_drew, size_drewN]); omega))); (have hf4_0 : ∀ o, w4.frozen? ⟨w.heap.size, o, none⟩ = _ := fun o => hb4.frozen (p := ⟨w.heap.size, o, none⟩) (by ((try simp only [World.size_alloc, World.size_setCell, World.size_drew, size_drewN]); omega))); (have z4_0 : w.heap.size < w4.heap.size := (by omega)); (have hc4_1 : ∀ o, w4.cell? ⟨w1.heap.size, o, none⟩ = _ := fun o => hb4.cell (p := ⟨w1.heap.size, o, none⟩) (by ((try simp only [World.size_alloc, World.size_setCell, World.size_drew, size_drewN]); omega))); (have hf4_1 : ∀ o, w4.frozen? ⟨w1.heap.size, o, none⟩ = _ := fun o => hb4.frozen (p := ⟨w1.heap.size, o, none⟩) (by ((try simp only [World.size_alloc, World.size_setCell, World.size_drew, size_drewN]); omega))); (have z4_1 : w1.heap.size < w4.heap.size := (by omega))) | (go_at_call 44; (with_reducible refine (HC2.out _).mono ?_); rintro e w6 ⟨rfl, hb6⟩; (have hs6 := hb6.size); (try simp only [World.size_alloc, World.size_setCell, World.size_drew, size_drewN] at hs6); (have hc6_0 : ∀ o, w6.cell? ⟨w.heap.size, o, none⟩ = _ := fun o => hb6.cell (p := ⟨w.heap.size, o, none⟩) (by ((try simp only [World.size_alloc, World.size_setCell, World.size_drew, size_drewN]); omega))); (have hf6_0 : ∀ o, w6.frozen? ⟨w.heap.size, o, none⟩ = _ := fun o => hb6.frozen (p := ⟨w.heap.size, o, none⟩) (by ((try simp only [World.size_alloc, World.size_setCell, World.size_drew, size_drewN]); omega))); (have z6_0 : w.heap.size < w6.heap.size := (by omega)); (have hc6_1 : ∀ o, w6.cell? ⟨w1.heap.size, o, none⟩ = _ := fun o => hb6.cell (p := ⟨w1.heap.size, o, none⟩) (by ((try simp only [World.size_alloc, World.size_setCell, World.size_drew, size_drewN]); omega))); (have hf6_1 : ∀ o, w6.frozen? ⟨w1.heap.size, o, none⟩ = _ := fun o => hb6.frozen (p := ⟨w1.heap.size, o, none⟩) (by ((try simp only [World.size_alloc, World.size_setCell, World.size_drew, size_drewN]); omega))); (have z6_1 : w1.heap.size < w6.heap.size := (by omega))))
          all_goals go_wp2
          all_goals go_ret
          all_goals exact ⟨by rw [hf.out]; rfl, (by (repeat' (first | (with_reducible exact Below.refl _ _) | (with_reducible assumption) | (with_reducible refine Below.alloc ?_ ?_ _) | (with_reducible refine Below.drew ?_) | (with_reducible refine below_drewN ?_ _) | (with_reducible refine Below.setCell ?_ ?_ _) | (with_reducible refine below_step (by with_reducible assumption) ?_ ?_) | (first | (with_reducible exact Nat.le_refl _) | (with_reducible assumption) | omega | (simp only [World.size_alloc, World.size_setCell, World.size_drew, size_drewN]; omega) | (simp; omega) | (simp; done)))))⟩
        · obtain ⟨b, hb, hb0, hb1⟩ : ∃ b, cmpV (getN P K) (bndM K).toNat = b ∧ decide (b > 0) = false ∧ ¬ 0 < b := by
            refine ⟨_, rfl, ?_⟩
            rw [cmpV]
            split
            · exact ⟨rfl, by decide⟩
            · rw [if_neg (by omega)]; exact ⟨rfl, by decide⟩
          rw [if_pos ⟨by omega, by omega⟩] at hf
          replace hf := hide hf
          clear hl hu c1 c2 HF
          go_upto_region 4 with fail
          refine wp_region_lit ?_
          refine wpList_load_mid rfl 27 (.tmp 1) rfl w.heap.size 0 rfl _ _ (prange (hbk0.out)) Try.underlying27 rfl (by kernel_rfl) ?_
          go_wp2_with fail
          refine (HG.out _).mono ?_
          rintro e w1 ⟨rfl, hb1⟩
          have hs1 := hb1.size
          try simp only [World.size_alloc, World.size_setCell, World.size_drew, size_drewN] at hs1
          have hc1_0 : ∀ o, w1.cell? ⟨w.heap.size, o, none⟩ = _ := fun o => hb1.cell (p := ⟨w.heap.size, o, none⟩) (by ((try simp only [World.size_alloc, World.size_setCell, World.size_drew, size_drewN]); omega))
          have hf1_0 : ∀ o, w1.frozen? ⟨w.heap.size, o, none⟩ = _ := fun o => hb1.frozen (p := ⟨w.heap.size, o, none⟩) (by ((try simp only [World.size_alloc, World.size_setCell, World.size_drew, size_drewN]); omega))
          have z1_0 : w.heap.size < w1.heap.size := (by omega)
          go_upto_region 5 with fail
          refine wp_region_lit ?_
          refine wpList_load_mid rfl 27 (.tmp 1) rfl w.heap.size 0 rfl _ _ (prange ((Below.block (B := w.heap.size + 1) (w := wr) ?hbx w.heap.size (by omega)).trans hbk0.out)) Try.underlying27 rfl (by kernel_rfl) ?_
          case hbx => exact (by (repeat' (first | (with_reducible exact Below.refl _ _) | (with_reducible assumption) | (with_reducible refine Below.alloc ?_ ?_ _) | (with_reducible refine Below.drew ?_) | (with_reducible refine below_drewN ?_ _) | (with_reducible refine Below.setCell ?_ ?_ _) | (with_reducible refine below_step (by with_reducible assumption) ?_ ?_) | (first | (with_reducible exact Nat.le_refl _) | (with_reducible assumption) | omega | (simp only [World.size_alloc, World.size_setCell, World.size_drew, size_drewN]; omega) | (simp; omega) | (simp; done)))))
          go_wp2_with fail
          refine (HBd.out _).mono ?_
          rintro e w2 ⟨rfl, hb2⟩
          have hs2 := hb2.size
          try simp only [World.size_alloc, World.size_setCell, World.size_drew, size_drewN] at hs2
          have hc2_0 : ∀ o, w2.cell? ⟨w.heap.size, o, none⟩ = _ := fun o => hb2.cell (p := ⟨w.heap.size, o, none⟩) (by ((try simp only [World.size_alloc, World.size_setCell, World.size_drew, size_drewN]); omega))
          have hf2_0 : ∀ o, w2.frozen? ⟨w.heap.size, o, none⟩ = _ := fun o => hb2.frozen (p := ⟨w.heap.size, o, none⟩) (by ((try simp only [World.size_alloc, World.size_setCell, World.size_drew, size_drewN]); omega))
          have z2_0 : w.heap.size < w2.heap.size := (by omega)
          have hc2_1 : ∀ o, w2.cell? ⟨w1.heap.size, o, none⟩ = _ := fun o => hb2.cell (p := ⟨w1.heap.size, o, none⟩) (by ((try simp only [World.size_alloc, World.size_setCell, World.size_drew, size_drewN]); omega))
          have hf2_1 : ∀ o, w2.frozen? ⟨w1.heap.size, o, none⟩ = _ := fun o => hb2.frozen (p := ⟨w1.heap.size, o, none⟩) (by ((try simp only [World.size_alloc, World.size_setCell, World.size_drew, size_drewN]); omega))
          have z2_1 : w1.heap.size < w2.heap.size := (by omega)
          go_wp2_with fail
          go_region_held3 (fun w' => w'.cell? ⟨w1.heap.size, 0, none⟩ = some (.int .u64 (getL P K 0)) ∧ w'.cell? ⟨w1.heap.size, 1, none⟩ = some (.int .u64 (getL P K 1)) ∧ w'.cell? ⟨w1.heap.size, 2, none⟩ = some (.int .u64 (getL P K 2)) ∧ w'.cell? ⟨w1.heap.size, 3, none⟩ = some (.int .u64 (getL P K 3))) (simp (maxDischargeDepth := 16) [go_sem, *, World.cell?_alloc_some, World.cell?_setCell_far]) (first | (go_at_call 22; (with_reducible refine (from_c _ _).mono ?_); rintro e w3 ⟨rfl, hb3⟩; (have hs3 := hb3.size); (try simp only [World.size_alloc, World.size_setCell, World.size_drew, size_drewN] at hs3); (have hc3_0 : ∀ o, w3.cell? ⟨w.heap.size, o, none⟩ = _ := fun o => hb3.cell (p := ⟨w.heap.size, o, none⟩) (by ((try simp only [World.size_alloc, World.size_setCell, World.size_drew, size_drewN]); omega))); (have hf3_0 : ∀ o, w3.frozen? ⟨w.heap.size, o, none⟩ = _ := fun o => hb3.frozen (p := ⟨w.heap.size, o, none⟩) (by ((try simp only [World.size_alloc, World.size_setCell, World.size_drew, size_drewN]); omega))); (have z3_0 : w.heap.size < w3.heap.size := (by omega)); (have hc3_1 : ∀ o, w3.cell? ⟨w1.heap.size, o, none⟩ = _ := fun o => hb3.cell (p := ⟨w1.heap.size, o, none⟩) (by ((try simp only [World.size_alloc, World.size_setCell, World.size_drew, size_drewN]); omega))); (have hf3_1 : ∀ o, w3.frozen? ⟨w1.heap.size, o, none⟩ = _ := fun o => hb3.frozen (p := ⟨w1.heap.size, o, none⟩) (by ((try simp only [World.size_alloc, World.size_setCell, World.size_drew, size_drewN]); omega))); (have z3_1 : w1.heap.size < w3.heap.size := (by omega))) | (go_at_call 44; (with_reducible refine (HC1.out _).mono ?_); rintro e w4 ⟨rfl, hb4⟩; (have hs4 := hb4.size); (try simp only [World.size_alloc, World.size_setCell, World.size_drew, size_drewN] at hs4); (have hc4_0 : ∀ o, w4.cell? ⟨w.heap.size, o, none⟩ = _ := fun o => hb4.cell (p := ⟨w.heap.size, o, none⟩) (by ((try simp only [World.size_alloc, World.size_setCell, World.size_drew, size_drewN]); omega))); (have hf4_0 : ∀ o, w4.frozen? ⟨w.heap.size, o, none⟩ = _ := fun o => hb4.frozen (p := ⟨w.heap.size, o, none⟩) (by ((try simp only [World.size_alloc, World.size_setCell, World.size_drew, size_drewN]); omega))); (have z4_0 : w.heap.size < w4.heap.size := (by omega)); (have hc4_1 : ∀ o, w4.cell? ⟨w1.heap.size, o, none⟩ = _ := fun o => hb4.cell (p := ⟨w1.heap.size, o, none⟩) (by ((try simp only [World.size_alloc, World.size_setCell, World.size_drew, size_drewN]); omega))); (have hf4_1 : ∀ o, w4.frozen? ⟨w1.heap.size, o, none⟩ = _ := fun o => hb4.frozen (p := ⟨w1.heap.size, o, none⟩) (by ((try simp only [World.size_alloc, World.size_setCell, World.size_drew, size_drewN]); omega))); (have z4_1 : w1.heap.size < w4.heap.size := (by omega))) | (go_at_call 44; (with_reducible refine (HC2.out _).mono ?_); rintro e w6 ⟨rfl, hb6⟩; (have hs6 := hb6.size); (try simp only [World.size_alloc, World.size_setCell, World.size_drew, size_drewN] at hs6); (have hc6_0 : ∀ o, w6.cell? ⟨w.heap.size, o, none⟩ = _ := fun o => hb6.cell (p := ⟨w.heap.size, o, none⟩) (by ((try simp only [World.size_alloc, World.size_setCell, World.size_drew, size_drewN]); omega))); (have hf6_0 : ∀ o, w6.frozen? ⟨w.heap.size, o, none⟩ = _ := fun o => hb6.frozen (p := ⟨w.heap.size, o, none⟩) (by ((try simp only [World.size_alloc, World.size_setCell, World.size_drew, size_drewN]); omega))); (have z6_0 : w.heap.size < w6.heap.size := (by omega)); (have hc6_1 : ∀ o, w6.cell? ⟨w1.heap.size, o, none⟩ = _ := fun o => hb6.cell (p := ⟨w1.heap.size, o, none⟩) (by ((try simp only [World.size_alloc, World.size_setCell, World.size_drew, size_drewN]); omega))); (have hf6_1 : ∀ o, w6.frozen? ⟨w1.heap.size, o, none⟩ = _ := fun o => hb6.frozen (p := ⟨w1.heap.size, o, none⟩) (by ((try simp only [World.size_alloc, World.size_setCell, World.size_drew, size_drewN]); omega))); (have z6_1 : w1.heap.size < w6.heap.size := (by omega))))
          all_goals go_wp2
          all_goals go_roundw
          case rel =>
            refine ⟨j, by go_num, by omega, hf, hide ?_⟩
            have hB0 := HB.out
            exact (by (repeat' (first | (with_reducible exact Below.refl _ _) | (with_reducible assumption) | (with_reducible refine Below.alloc ?_ ?_ _) | (with_reducible refine Below.drew ?_) | (with_reducible refine below_drewN ?_ _) | (with_reducible refine Below.setCell ?_ ?_ _) | (with_reducible refine below_step (by with_reducible assumption) ?_ ?_) | (first | (with_reducible exact Nat.le_refl _) | (with_reducible assumption) | omega | (simp only [World.size_alloc, World.size_setCell, World.size_drew, size_drewN]; omega) | (simp; omega) | (simp; done)))))
          case measure => simp [intOf]; omega
set_option maxHeartbeats 4000000 in
theorem valid_c (P : Nat → Int) (hP : PW P) (w : World) :
    Calls Try.prog 19 #[.agg #[.int .u64 (P 0), .int .u64 (P 1), .int .u64 (P 2), .int .u64 (P 3), .int .u64 (P 4), .int .u64 (P 5), .int .u64 (P 6), .int .u64 (P 7), .int .u64 (P 8), .int .u64 (P 9), .int .u64 (P 10), .int .u64 (P 11), .int .u64 (P 12), .int .u64 (P 13), .int .u64 (P 14), .int .u64 (P 15), .int .u64 (P 16), .int .u64 (P 17), .int .u64 (P 18), .int .u64 (P 19), .int .u64 (P 20)]] w fun e w' => e = .returned (.bool (fiV P == 0)) ∧ Below w.heap.size w w' := by
  have F := hide (fi_c P hP)
  revert F
  generalize fiV P = v
  intro F
  have hld := hide (prange (P := P) (heap_alloc_last w (.cells #[.int .u64 (P 0), .int .u64 (P 1), .int .u64 (P 2), .int .u64 (P 3), .int .u64 (P 4), .int .u64 (P 5), .int .u64 (P 6), .int .u64 (P 7), .int .u64 (P 8), .int .u64 (P 9), .int .u64 (P 10), .int .u64 (P 11), .int .u64 (P 12), .int .u64 (P 13), .int .u64 (P 14), .int .u64 (P 15), .int .u64 (P 16), .int .u64 (P 17), .int .u64 (P 18), .int .u64 (P 19), .int .u64 (P 20)] 27)))
  go_enter Try.func19, Try.ntmps19
  go_upto_region 1 with fail
  refine wp_region_lit ?_
  refine wpList_load_mid rfl 27 (.tmp 1) rfl w.heap.size 0 rfl _ _ hld.out Try.underlying27 rfl (by kernel_rfl) ?_
  go_wp2_with fail
  refine (F.out _).mono ?_
  rintro e w1 ⟨rfl, hb1⟩
  have hs1 := hb1.size
  try simp only [World.size_alloc, World.size_setCell, World.size_drew, size_drewN] at hs1
  have hc1_0 : ∀ o, w1.cell? ⟨w.heap.size, o, none⟩ = _ := fun o => hb1.cell (p := ⟨w.heap.size, o, none⟩) (by ((try simp only [World.size_alloc, World.size_setCell, World.size_drew, size_drewN]); omega))
  have hf1_0 : ∀ o, w1.frozen? ⟨w.heap.size, o, none⟩ = _ := fun o => hb1.frozen (p := ⟨w.heap.size, o, none⟩) (by ((try simp only [World.size_alloc, World.size_setCell, World.size_drew, size_drewN]); omega))
  have z1_0 : w.heap.size < w1.heap.size := (by omega)
  go_wp2
  go_ret
  exact ⟨rfl, (by (repeat' (first | (with_reducible exact Below.refl _ _) | (with_reducible assumption) | (with_reducible refine Below.alloc ?_ ?_ _) | (with_reducible refine Below.drew ?_) | (with_reducible refine below_drewN ?_ _) | (with_reducible refine Below.setCell ?_ ?_ _) | (with_reducible refine below_step (by with_reducible assumption) ?_ ?_) | (first | (with_reducible exact Nat.le_refl _) | (with_reducible assumption) | omega | (simp only [World.size_alloc, World.size_setCell, World.size_drew, size_drewN]; omega) | (simp; omega) | (simp; done)))))⟩
end Go.Proofs.Ytkneiobohhhcpaa
