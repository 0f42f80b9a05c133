/- block: GasRemaining, UseGas. -/
import Derived.WalkKit
import Derived.KernelRfl
import Derived.RowKit3
import Derived.Deep.LoopGhost
import Derived.Deep.QuietTactic
import Derived.BigQuiet
import Derived.WideLaws
import Derived.Laws.Rows
import Derived.Below
import Derived.Deep.Draws
import Derived.Outline
import Derived.LoopN
import Derived.Handy
import Derived.Laws.Externs
import Derived.Laws.BitsAllLaws
import Derived.Laws.BitsLemmas
import Derived.Deep.DeepCutAuto
import Derived.Deep.CutBlock
import Derived.Deep.RegionHeld3
import Derived.Test.YtkneiobohhhcpaaF1
namespace Go.Proofs.Ytkneiobohhhcpaa
open Go.RowKit
set_option linter.unusedVariables false
set_option linter.unusedSimpArgs false
/-- Block g begins with these seven cells. -/
structure Box7 (w : World) (g : Nat) (x0 x1 x2 x3 x4 x5 x6 : Int) : Prop where
  c0 : w.cell? ⟨g, 0, none⟩ = some (.int .u64 x0)
  c1 : w.cell? ⟨g, 1, none⟩ = some (.int .u64 x1)
  c2 : w.cell? ⟨g, 2, none⟩ = some (.int .u64 x2)
  c3 : w.cell? ⟨g, 3, none⟩ = some (.int .u64 x3)
  c4 : w.cell? ⟨g, 4, none⟩ = some (.int .u64 x4)
  c5 : w.cell? ⟨g, 5, none⟩ = some (.int .u64 x5)
  c6 : w.cell? ⟨g, 6, none⟩ = some (.int .u64 x6)
theorem Box7.new (w : World) (x0 x1 x2 x3 x4 x5 x6 : Int) (t : TypeId) : Box7 (w.alloc (.cells #[.int .u64 x0, .int .u64 x1, .int .u64 x2, .int .u64 x3, .int .u64 x4, .int .u64 x5, .int .u64 x6] t)) w.heap.size x0 x1 x2 x3 x4 x5 x6 := by
  constructor <;> simp [go_sem]
theorem Box7.below {w w' : World} {g B : Nat} {x0 x1 x2 x3 x4 x5 x6 : Int} (h : Box7 w g x0 x1 x2 x3 x4 x5 x6) (hb : Below B w w') (hg : g < B) : Box7 w' g x0 x1 x2 x3 x4 x5 x6 := by
  obtain ⟨c0, c1, c2, c3, c4, c5, c6⟩ := h
  exact ⟨(hb.cell (p := ⟨g, 0, none⟩) hg).trans c0, (hb.cell (p := ⟨g, 1, none⟩) hg).trans c1, (hb.cell (p := ⟨g, 2, none⟩) hg).trans c2, (hb.cell (p := ⟨g, 3, none⟩) hg).trans c3, (hb.cell (p := ⟨g, 4, none⟩) hg).trans c4, (hb.cell (p := ⟨g, 5, none⟩) hg).trans c5, (hb.cell (p := ⟨g, 6, none⟩) hg).trans c6⟩
theorem Box7.alloc {w : World} {g : Nat} {x0 x1 x2 x3 x4 x5 x6 : Int} (h : Box7 w g x0 x1 x2 x3 x4 x5 x6) (hg : g < w.heap.size) (o : Obj) : Box7 (w.alloc o) g x0 x1 x2 x3 x4 x5 x6 := h.below ((Below.refl w.heap.size w).alloc (Nat.le_refl _) o) hg
theorem Box7.drew {w : World} {g : Nat} {x0 x1 x2 x3 x4 x5 x6 : Int} (h : Box7 w g x0 x1 x2 x3 x4 x5 x6) : Box7 w.drew g x0 x1 x2 x3 x4 x5 x6 := by
  obtain ⟨c0, c1, c2, c3, c4, c5, c6⟩ := h
  exact ⟨by simpa using c0, by simpa using c1, by simpa using c2, by simpa using c3, by simpa using c4, by simpa using c5, by simpa using c6⟩
def grV (g : Int) (P : Nat → Int) : Int := if P 7 ≤ g then 0 else P 7 - g
set_option maxHeartbeats 4000000 in
theorem gr_c (n t g f0 f1 f2 f3 : Int) (P : Nat → Int) (hP : PW P) (g0 : 0 ≤ g) (w : World) :
    Calls Try.prog 15 #[.agg #[.int .u64 n, .int .u64 t, .int .u64 g, .int .u64 f0, .int .u64 f1, .int .u64 f2, .int .u64 f3], .agg (pC P)] w fun e w' => e = .returned (.int .u64 (grV g P)) ∧ Below w.heap.size w w' := by
  have hp7 := pC_get P 7 (by omega)
  have b7 := hP 7
  rcases Int.lt_or_le g (P 7) with h | h
  · rw [grV, if_neg (by omega)]
    go_enter Try.func15, Try.ntmps15
    go_wp2
    go_ret
    exact ⟨rfl, (by (repeat' (first | (with_reducible exact Below.refl _ _) | (with_reducible assumption) | (with_reducible refine Below.alloc ?_ ?_ _) | (with_reducible refine Below.drew ?_) | (with_reducible refine below_drewN ?_ _) | (with_reducible refine Below.setCell ?_ ?_ _) | (with_reducible refine below_step (by with_reducible assumption) ?_ ?_) | (first | (with_reducible exact Nat.le_refl _) | (with_reducible assumption) | omega | (simp only [World.size_alloc, World.size_setCell, World.size_drew, size_drewN]; omega) | (simp; omega) | (simp; done)))))⟩
  · rw [grV, if_pos h]
    go_enter Try.func15, Try.ntmps15
    go_wp2
    go_ret
    exact ⟨rfl, (by (repeat' (first | (with_reducible exact Below.refl _ _) | (with_reducible assumption) | (with_reducible refine Below.alloc ?_ ?_ _) | (with_reducible refine Below.drew ?_) | (with_reducible refine below_drewN ?_ _) | (with_reducible refine Below.setCell ?_ ?_ _) | (with_reducible refine below_step (by with_reducible assumption) ?_ ?_) | (first | (with_reducible exact Nat.le_refl _) | (with_reducible assumption) | omega | (simp only [World.size_alloc, World.size_setCell, World.size_drew, size_drewN]; omega) | (simp; omega) | (simp; done)))))⟩
theorem gr_rg {g : Int} {P : Nat → Int} (hP : PW P) (g0 : 0 ≤ g) (g1 : g < 18446744073709551616) : 0 ≤ grV g P ∧ g + grV g P < 18446744073709551616 := by
  have := hP 7
  unfold grV
  split <;> omega
def ugE (g x : Int) (P : Nat → Int) : Int := if grV g P < x then 13 else 0
def ugB (g x : Int) (P : Nat → Int) (y : Int) : Int := if grV g P < x then 0 else y
set_option maxRecDepth 20000 in
set_option maxHeartbeats 8000000 in
theorem ug_c (n t g f0 f1 f2 f3 x : Int) (P : Nat → Int) (hP : PW P) (g0 : 0 ≤ g) (g1 : g < 18446744073709551616) (x0 : 0 ≤ x) (w : World) :
    Calls Try.prog 7 #[.agg #[.int .u64 n, .int .u64 t, .int .u64 g, .int .u64 f0, .int .u64 f1, .int .u64 f2, .int .u64 f3], .int .u64 x, .agg (pC P)] w fun e w' => e = .returned (.tuple #[.agg #[.int .u64 (ugB g x P n), .int .u64 (ugB g x P t), .int .u64 (ugB g x P (g + x)), .int .u64 (ugB g x P f0), .int .u64 (ugB g x P f1), .int .u64 (ugB g x P f2), .int .u64 (ugB g x P f3)], .int .i64 (ugE g x P)]) ∧ Below w.heap.size w w' := by
  have hr := gr_rg hP g0 g1
  have HG := hide (fun w => gr_c n t g f0 f1 f2 f3 P hP g0 w)
  have HP := hide ((PBlk.new (w.alloc (.cells #[.int .u64 n, .int .u64 t, .int .u64 g, .int .u64 f0, .int .u64 f1, .int .u64 f2, .int .u64 f3] 30)) P).alloc (.cells #[.int .u64 0, .int .u64 0, .int .u64 0, .int .u64 0, .int .u64 0, .int .u64 0, .int .u64 0] 30))
  obtain ⟨G, hG⟩ : ∃ G, grV g P = G := ⟨_, rfl⟩
  unfold ugE ugB
  rw [hG] at hr HG ⊢
  clear hG
  by_cases h : G < x
  · rw [if_pos h, if_pos h, if_pos h, if_pos h, if_pos h, if_pos h, if_pos h, if_pos h]
    go_enter Try.func7, Try.ntmps7
    go_wp2_with (refine wpList_load_row26 (P := P) rfl (.tmp 5) rfl (by simp; rfl) HP.out ?_)
    refine (HG.out _).mono ?_
    rintro e w1 ⟨rfl, hb1⟩
    have hs1 := hb1.size
    try simp only [World.size_alloc, World.size_setCell, World.size_drew, size_drewN] at hs1
    have hc1_0 : ∀ o, w1.cell? ⟨w.heap.size + 1 + 1, o, none⟩ = _ := fun o => hb1.cell (p := ⟨w.heap.size + 1 + 1, o, none⟩) (by ((try simp only [World.size_alloc, World.size_setCell, World.size_drew, size_drewN]); omega))
    have hf1_0 : ∀ o, w1.frozen? ⟨w.heap.size + 1 + 1, o, none⟩ = _ := fun o => hb1.frozen (p := ⟨w.heap.size + 1 + 1, o, none⟩) (by ((try simp only [World.size_alloc, World.size_setCell, World.size_drew, size_drewN]); omega))
    have z1_0 : w.heap.size + 1 + 1 < w1.heap.size := (by omega)
    go_wp2
    refine cutW (fun W => Box7 W (w.heap.size + 1 + 1) (0) (0) (0) (0) (0) (0) (0) ∧ Below w.heap.size w W) ?_ ?_
    · refine ⟨?_, (by (repeat' (first | (with_reducible exact Below.refl _ _) | (with_reducible assumption) | (with_reducible refine Below.alloc ?_ ?_ _) | (with_reducible refine Below.drew ?_) | (with_reducible refine below_drewN ?_ _) | (with_reducible refine Below.setCell ?_ ?_ _) | (with_reducible refine below_step (by with_reducible assumption) ?_ ?_) | (first | (with_reducible exact Nat.le_refl _) | (with_reducible assumption) | omega | (simp only [World.size_alloc, World.size_setCell, World.size_drew, size_drewN]; omega) | (simp; omega) | (simp; done)))))⟩; constructor <;> (simp (maxDischargeDepth := 16) [go_sem, *, World.cell?_alloc_some, World.cell?_setCell_far]; done)
    rintro W ⟨⟨r0, r1, r2, r3, r4, r5, r6⟩, hbW⟩
    refine bodyPost_ret ?_ rfl ⟨rfl, hbW⟩
    simp [results, Try.results7, go_sem, r0, r1, r2, r3, r4, r5, r6]
  · rw [if_neg h, if_neg h, if_neg h, if_neg h, if_neg h, if_neg h, if_neg h, if_neg h]
    have h' : x ≤ G := by omega
    have hx : IntKind.u64.wrap (g + x) = g + x := by rw [wrap_mod]; omega
    clear h
    go_enter Try.func7, Try.ntmps7
    go_wp2_with (refine wpList_load_row26 (P := P) rfl (.tmp 5) rfl (by simp; rfl) HP.out ?_)
    refine (HG.out _).mono ?_
    rintro e w1 ⟨rfl, hb1⟩
    have hs1 := hb1.size
    try simp only [World.size_alloc, World.size_setCell, World.size_drew, size_drewN] at hs1
    have hc1_0 : ∀ o, w1.cell? ⟨w.heap.size + 1 + 1, o, none⟩ = _ := fun o => hb1.cell (p := ⟨w.heap.size + 1 + 1, o, none⟩) (by ((try simp only [World.size_alloc, World.size_setCell, World.size_drew, size_drewN]); omega))
    have hf1_0 : ∀ o, w1.frozen? ⟨w.heap.size + 1 + 1, o, none⟩ = _ := fun o => hb1.frozen (p := ⟨w.heap.size + 1 + 1, o, none⟩) (by ((try simp only [World.size_alloc, World.size_setCell, World.size_drew, size_drewN]); omega))
    have z1_0 : w.heap.size + 1 + 1 < w1.heap.size := (by omega)
    obtain ⟨k0, k1, k2, k3, k4, k5, k6⟩ := (((Box7.new w n t g f0 f1 f2 f3 30).alloc (by simp) (.cells (pC P) 27)).alloc (by simp; omega) (.cells #[.int .u64 0, .int .u64 0, .int .u64 0, .int .u64 0, .int .u64 0, .int .u64 0, .int .u64 0] 30)).below hb1 (by simp; omega)
    have j2 : w1.frozen? ⟨w.heap.size, 2, none⟩ = false := (hb1.frozen (p := ⟨w.heap.size, 2, none⟩) (by simp; omega)).trans (by simp [go_sem])
    go_wp2
    refine cutW (fun W => Box7 W (w.heap.size + 1 + 1) (n) (t) (g + x) (f0) (f1) (f2) (f3) ∧ Below w.heap.size w W) ?_ ?_
    · refine ⟨?_, (by (repeat' (first | (with_reducible exact Below.refl _ _) | (with_reducible assumption) | (with_reducible refine Below.alloc ?_ ?_ _) | (with_reducible refine Below.drew ?_) | (with_reducible refine below_drewN ?_ _) | (with_reducible refine Below.setCell ?_ ?_ _) | (with_reducible refine below_step (by with_reducible assumption) ?_ ?_) | (first | (with_reducible exact Nat.le_refl _) | (with_reducible assumption) | omega | (simp only [World.size_alloc, World.size_setCell, World.size_drew, size_drewN]; omega) | (simp; omega) | (simp; done)))))⟩; constructor <;> (simp (maxDischargeDepth := 16) [go_sem, *, World.cell?_alloc_some, World.cell?_setCell_far]; done)
    rintro W ⟨⟨r0, r1, r2, r3, r4, r5, r6⟩, hbW⟩
    refine bodyPost_ret ?_ rfl ⟨rfl, hbW⟩
    simp [results, Try.results7, go_sem, r0, r1, r2, r3, r4, r5, r6]
end Go.Proofs.Ytkneiobohhhcpaa
