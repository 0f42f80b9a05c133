/- muldiv.Mul, walked: the outer loop by its relation. -/
import Derived.WalkKit
import Derived.KernelRfl
import Derived.RowKit3
import Derived.Deep.LoopGhost
import Derived.Deep.QuietTactic
import Derived.BigQuiet
import Derived.WideLaws
import Derived.Laws.Rows
import Derived.Below
import Derived.Deep.Draws
import Derived.Outline
import Derived.LoopN
import Derived.Handy
import Derived.Laws.Externs
import Derived.Laws.BitsAllLaws
import Derived.Laws.BitsLemmas
import Derived.Deep.DeepCutAuto
import Derived.Deep.CutBlock
import Derived.Deep.RegionHeld3
import Derived.Deep.RegionLaw
import Derived.Test.YtkneiobohhhcpaaV1
namespace Go.Proofs.Ytkneiobohhhcpaa
open Go.RowKit
set_option linter.unusedVariables false
set_option linter.unusedSimpArgs false
/-- The first i limbs. -/
def pre (a0 a1 a2 a3 : Int) : Nat → Int
  | 0 => 0
  | 1 => 1 * a0
  | 2 => 1 * a0 + 18446744073709551616 * a1
  | 3 => 1 * a0 + 18446744073709551616 * a1 + 340282366920938463463374607431768211456 * a2
  | _ => 1 * a0 + 18446744073709551616 * a1 + 340282366920938463463374607431768211456 * a2 + 6277101735386680763835789423207666416102355444464034512896 * a3
structure MdS (a0 a1 a2 a3 : Int) (B i P : Nat) (p0 p1 p2 p3 p4 p5 p6 p7 : Int) : Prop where
  e : (P : Int) = pre a0 a1 a2 a3 i * (B : Int)
  l : is8 P p0 p1 p2 p3 p4 p5 p6 p7
  z : (i ≤ 0 → p4 = 0) ∧ (i ≤ 1 → p5 = 0) ∧ (i ≤ 2 → p6 = 0) ∧ (i ≤ 3 → p7 = 0)
theorem pre_limbs {A B P : Nat} {a0 a1 a2 a3 b0 b1 b2 b3 p0 p1 p2 p3 p4 p5 p6 p7 : Int} (hA : isU A a0 a1 a2 a3) (hB : isU B b0 b1 b2 b3) (hP : (P : Int) = pre a0 a1 a2 a3 4 * (B : Int)) (h : is8 P p0 p1 p2 p3 p4 p5 p6 p7) :
    lim (loV A B) 0 = p0 ∧ lim (loV A B) 1 = p1 ∧ lim (loV A B) 2 = p2 ∧ lim (loV A B) 3 = p3 ∧ lim (hiV A B) 0 = p4 ∧ lim (hiV A B) 1 = p5 ∧ lim (hiV A B) 2 = p6 ∧ lim (hiV A B) 3 = p7 := by
  have e : (P : Int) = (A : Int) * (B : Int) := by rw [hP]; congr 1; rw [hA.val]; simp only [pre]; omega
  have e' : P = A * B := by rw [← Int.natCast_mul] at e; exact Int.ofNat_inj.mp e
  subst e'
  have hl := h.lo
  have hh := h.hi
  have hv := h.v
  have m0 := (A * B).div_add_mod M256
  have ml : isU (loV A B) p0 p1 p2 p3 := by
    refine ⟨hl.1, hl.2.1, hl.2.2.1, hl.2.2.2.1, hh.1, hh.2.1, hh.2.2.1, hh.2.2.2.1, ?_⟩
    simp only [loV, M256]; omega
  have mh : isU (hiV A B) p4 p5 p6 p7 := by
    refine ⟨hl.2.2.2.2.1, hl.2.2.2.2.2.1, hl.2.2.2.2.2.2.1, hl.2.2.2.2.2.2.2, hh.2.2.2.2.1, hh.2.2.2.2.2.1, hh.2.2.2.2.2.2.1, hh.2.2.2.2.2.2.2, ?_⟩
    simp only [hiV, M256]; omega
  obtain ⟨e0, e1, e2, e3⟩ := ml.lims
  obtain ⟨e4, e5, e6, e7⟩ := mh.lims
  exact ⟨e0.symm, e1.symm, e2.symm, e3.symm, e4.symm, e5.symm, e6.symm, e7.symm⟩
set_option maxHeartbeats 8000000 in
theorem mdmul_c {A B : Nat} {a0 a1 a2 a3 b0 b1 b2 b3 : Int} (hA : isU A a0 a1 a2 a3) (hB : isU B b0 b1 b2 b3) (w : World) :
   Calls Try.prog 60 #[.agg #[.int .u64 a0, .int .u64 a1, .int .u64 a2, .int .u64 a3], .agg #[.int .u64 b0, .int .u64 b1, .int .u64 b2, .int .u64 b3]] w fun e w' => e = .returned (.tuple #[.agg #[.int .u64 (lim (loV A B) 0), .int .u64 (lim (loV A B) 1), .int .u64 (lim (loV A B) 2), .int .u64 (lim (loV A B) 3)], .agg #[.int .u64 (lim (hiV A B) 0), .int .u64 (lim (hiV A B) 1), .int .u64 (lim (hiV A B) 2), .int .u64 (lim (hiV A B) 3)]]) ∧ Below w.heap.size w w' := by
  have N1 := mlo_nn
  have N2 := sm_nn
  have L := @add_law
  have p0 := hA.p0
  have q0 := hA.q0
  have r0 := hB.p0
  have t0 := hB.q0
  have p1 := hA.p1
  have q1 := hA.q1
  have r1 := hB.p1
  have t1 := hB.q1
  have p2 := hA.p2
  have q2 := hA.q2
  have r2 := hB.p2
  have t2 := hB.q2
  have p3 := hA.p3
  have q3 := hA.q3
  have r3 := hB.p3
  have t3 := hB.q3
  have HAB := hide (And.intro hA hB)
  clear hA hB
  go_enter Try.func60, Try.ntmps60
  go_wp2
  go_loopw [13] (fun v13 wr => ∃ (i P : Nat) (p0' p1' p2' p3' p4' p5' p6' p7' : Int), v13 = .int .i64 i ∧ i ≤ 4 ∧ Hid (MdS a0 a1 a2 a3 B i P p0' p1' p2' p3' p4' p5' p6' p7') ∧ Hid (Box wr w.heap.size a0 a1 a2 a3) ∧ Hid (Box wr (w.heap.size + 1) b0 b1 b2 b3) ∧ Hid (wr.heap[w.heap.size + 1 + 1]? = some (.cells #[.int .u64 0, .int .u64 0, .int .u64 0, .int .u64 0] 25 (0, 0))) ∧ Hid (wr.heap[w.heap.size + 1 + 1 + 1]? = some (.cells #[.int .u64 0, .int .u64 0, .int .u64 0, .int .u64 0] 25 (0, 0))) ∧ Hid (wr.heap[w.heap.size + 1 + 1 + 1 + 1]? = some (.cells #[.int .u64 p0', .int .u64 p1', .int .u64 p2', .int .u64 p3', .int .u64 p4', .int .u64 p5', .int .u64 p6', .int .u64 p7'] 23 (0, 0))) ∧ Hid (Below w.heap.size w wr)) (fun v13 _ => 4 - (intOf v13).toNat)
  case atStart =>
    refine ⟨0, 0, 0, 0, 0, 0, 0, 0, 0, 0, rfl, by omega, hide ⟨by simp [pre], ⟨by omega, by omega, by omega⟩, by omega⟩, hide ?_, hide ?_, hide ?_, hide ?_, hide ?_, hide (by (repeat' (first | (with_reducible exact Below.refl _ _) | (with_reducible assumption) | (with_reducible refine Below.alloc ?_ ?_ _) | (with_reducible refine Below.drew ?_) | (with_reducible refine below_drewN ?_ _) | (with_reducible refine Below.setCell ?_ ?_ _) | (with_reducible refine below_step (by with_reducible assumption) ?_ ?_) | (first | (with_reducible exact Nat.le_refl _) | (with_reducible assumption) | omega | (simp only [World.size_alloc, World.size_setCell, World.size_drew, size_drewN]; omega) | (simp; omega) | (simp; done)))))⟩
    · (repeat' (first | (with_reducible exact Box.new _ _ _ _ _ _) | (with_reducible refine Box.drew ?_) | (with_reducible refine Box.alloc ?_ _)))
    · have hn := Box.new (w.alloc (.cells #[.int .u64 a0, .int .u64 a1, .int .u64 a2, .int .u64 a3] 25)) b0 b1 b2 b3 25
      simp only [World.size_alloc] at hn
      revert hn
      intro hn
      (repeat' (first | (with_reducible exact hn) | (with_reducible refine Box.drew ?_) | (with_reducible refine Box.alloc ?_ _)))
    · (repeat (first | (with_reducible apply heap_drewN) | (with_reducible apply heap_set) | ((with_reducible apply heap_far); rotate_left; omega) | ((with_reducible apply heap_alloc_new); simp; done) | (with_reducible apply heap_alloc_old)))
    · (repeat (first | (with_reducible apply heap_drewN) | (with_reducible apply heap_set) | ((with_reducible apply heap_far); rotate_left; omega) | ((with_reducible apply heap_alloc_new); simp; done) | (with_reducible apply heap_alloc_old)))
    · (repeat (first | (with_reducible apply heap_drewN) | (with_reducible apply heap_set) | ((with_reducible apply heap_far); rotate_left; omega) | ((with_reducible apply heap_alloc_new); simp; done) | (with_reducible apply heap_alloc_old)))
  case round =>
    obtain ⟨i, P, p0', p1', p2', p3', p4', p5', p6', p7', rfl, hi, HD, BA, BB, HL, HH, HP, HBl⟩ := hrel
    have hbb := HBl.out
    have hcp := fun k => cell_of_heap HP.out k
    have hfp := fun k => froz_of_heap HP.out k
    obtain ⟨l0, l1, l2, l3, m0, m1, m2, m3, lt0⟩ := BA.out
    obtain ⟨y0, y1, y2, y3, g0, g1, g2, g3, lt1⟩ := BB.out
    rcases i with _ | _ | _ | _ | _ | i
    · obtain ⟨o0, o1, o2, o3, o4, o5, o6, o7⟩ := HD.out.l.lo
      obtain ⟨n0, n1, n2, n3, n4, n5, n6, n7⟩ := HD.out.l.hi
      go_wp2
      refine wp_loop_rounds 5 ?_
      rw [rounds_succ]
      go_wp2
      go_quiet ((go_at_call 28; exact Calls.quiet_of_same (mul64_m p0 q0 r0 t0 _)))
      go_wp2
      try rw [setCell_drewN]
      obtain ⟨s0, c0, f1, f2, hf⟩ := mac (s := p0') (c := 0) p0 r0 o0 (Int.le_refl 0) q0 t0 n0 (by omega)
      rw [f1, f2]
      clear f1 f2
      have xs0 := hf.1
      have xc0 := hf.2.2.1
      have G0 := hide hf
      clear hf
      rw [rounds_succ]
      go_wp2
      go_quiet ((go_at_call 28; exact quiet_add_same (mul64_m p0 q0 r1 t1 _)))
      go_wp2
      try rw [setCell_drewN]
      obtain ⟨s1, c1, f1, f2, hf⟩ := mac (s := p1') (c := c0) p0 r1 o1 G0.out.2.2.1 q0 t1 n1 G0.out.2.2.2.1
      rw [f1, f2]
      clear f1 f2
      have xs1 := hf.1
      have xc1 := hf.2.2.1
      have G1 := hide hf
      clear hf
      rw [rounds_succ]
      go_wp2
      go_quiet ((go_at_call 28; exact quiet_add_same (mul64_m p0 q0 r2 t2 _)))
      go_wp2
      try rw [setCell_drewN]
      obtain ⟨s2, c2, f1, f2, hf⟩ := mac (s := p2') (c := c1) p0 r2 o2 G1.out.2.2.1 q0 t2 n2 G1.out.2.2.2.1
      rw [f1, f2]
      clear f1 f2
      have xs2 := hf.1
      have xc2 := hf.2.2.1
      have G2 := hide hf
      clear hf
      rw [rounds_succ]
      go_wp2
      go_quiet ((go_at_call 28; exact quiet_add_same (mul64_m p0 q0 r3 t3 _)))
      go_wp2
      try rw [setCell_drewN]
      obtain ⟨s3, c3, f1, f2, hf⟩ := mac (s := p3') (c := c2) p0 r3 o3 G2.out.2.2.1 q0 t3 n3 G2.out.2.2.2.1
      rw [f1, f2]
      clear f1 f2
      have xs3 := hf.1
      have xc3 := hf.2.2.1
      have G3 := hide hf
      clear hf
      rw [rounds_succ]
      go_wp2
      try rw [setCell_drewN]
      go_roundw
      case rel =>
        obtain ⟨P', h8, he⟩ := row8_0 (a0 := a0) (a1 := a1) (a2 := a2) (a3 := a3) HAB.out.2 p0 HD.out.l HD.out.e (HD.out.z.1 (by decide)) G0.out.1 G0.out.2.1 G0.out.2.2.1 G0.out.2.2.2.1 G0.out.2.2.2.2 G1.out.1 G1.out.2.1 G1.out.2.2.1 G1.out.2.2.2.1 G1.out.2.2.2.2 G2.out.1 G2.out.2.1 G2.out.2.2.1 G2.out.2.2.2.1 G2.out.2.2.2.2 G3.out.1 G3.out.2.1 G3.out.2.2.1 G3.out.2.2.2.1 G3.out.2.2.2.2
        refine ⟨1, P', s0, s1, s2, s3, c3, p5', p6', p7', by go_num, by omega, hide ⟨he, h8, ⟨fun h => absurd h (by decide), fun _ => HD.out.z.2.1 (by decide), fun _ => HD.out.z.2.2.1 (by decide), fun _ => HD.out.z.2.2.2 (by decide)⟩⟩, hide ?_, hide ?_, hide ?_, hide ?_, hide ?_, hide (by (repeat' (first | (with_reducible exact Below.refl _ _) | (with_reducible assumption) | (with_reducible refine Below.alloc ?_ ?_ _) | (with_reducible refine Below.drew ?_) | (with_reducible refine below_drewN ?_ _) | (with_reducible refine Below.setCell ?_ ?_ _) | (with_reducible refine below_step (by with_reducible assumption) ?_ ?_) | (first | (with_reducible exact Nat.le_refl _) | (with_reducible assumption) | omega | (simp only [World.size_alloc, World.size_setCell, World.size_drew, size_drewN]; omega) | (simp; omega) | (simp; done)))))⟩
        · have := BA.out; (repeat' (first | (with_reducible assumption) | (with_reducible refine Box.drewN ?_ _) | (with_reducible refine Box.drew ?_) | (refine Box.other ?_ (by intro hh; dsimp only at hh; omega) _)))
        · have := BB.out; (repeat' (first | (with_reducible assumption) | (with_reducible refine Box.drewN ?_ _) | (with_reducible refine Box.drew ?_) | (refine Box.other ?_ (by intro hh; dsimp only at hh; omega) _)))
        · have := HL.out; (repeat (first | (with_reducible assumption) | (with_reducible apply heap_drewN) | (with_reducible apply heap_set) | ((with_reducible apply heap_far); rotate_left; omega) | ((with_reducible apply heap_alloc_new); simp; done) | (with_reducible apply heap_alloc_old)))
        · have := HH.out; (repeat (first | (with_reducible assumption) | (with_reducible apply heap_drewN) | (with_reducible apply heap_set) | ((with_reducible apply heap_far); rotate_left; omega) | ((with_reducible apply heap_alloc_new); simp; done) | (with_reducible apply heap_alloc_old)))
        · have := HP.out
          apply heap_cells
          · (repeat (first | (with_reducible apply heap_drewN) | (with_reducible apply heap_set) | ((with_reducible apply heap_far); rotate_left; omega) | ((with_reducible apply heap_alloc_new); simp; done) | (with_reducible apply heap_alloc_old)))
            assumption
          · simp
      case measure => simp [intOf]
    · obtain ⟨o0, o1, o2, o3, o4, o5, o6, o7⟩ := HD.out.l.lo
      obtain ⟨n0, n1, n2, n3, n4, n5, n6, n7⟩ := HD.out.l.hi
      go_wp2
      refine wp_loop_rounds 5 ?_
      rw [rounds_succ]
      go_wp2
      go_quiet ((go_at_call 28; exact Calls.quiet_of_same (mul64_m p1 q1 r0 t0 _)))
      go_wp2
      try rw [setCell_drewN]
      obtain ⟨s0, c0, f1, f2, hf⟩ := mac (s := p1') (c := 0) p1 r0 o1 (Int.le_refl 0) q1 t0 n1 (by omega)
      rw [f1, f2]
      clear f1 f2
      have xs0 := hf.1
      have xc0 := hf.2.2.1
      have G0 := hide hf
      clear hf
      rw [rounds_succ]
      go_wp2
      go_quiet ((go_at_call 28; exact quiet_add_same (mul64_m p1 q1 r1 t1 _)))
      go_wp2
      try rw [setCell_drewN]
      obtain ⟨s1, c1, f1, f2, hf⟩ := mac (s := p2') (c := c0) p1 r1 o2 G0.out.2.2.1 q1 t1 n2 G0.out.2.2.2.1
      rw [f1, f2]
      clear f1 f2
      have xs1 := hf.1
      have xc1 := hf.2.2.1
      have G1 := hide hf
      clear hf
      rw [rounds_succ]
      go_wp2
      go_quiet ((go_at_call 28; exact quiet_add_same (mul64_m p1 q1 r2 t2 _)))
      go_wp2
      try rw [setCell_drewN]
      obtain ⟨s2, c2, f1, f2, hf⟩ := mac (s := p3') (c := c1) p1 r2 o3 G1.out.2.2.1 q1 t2 n3 G1.out.2.2.2.1
      rw [f1, f2]
      clear f1 f2
      have xs2 := hf.1
      have xc2 := hf.2.2.1
      have G2 := hide hf
      clear hf
      rw [rounds_succ]
      go_wp2
      go_quiet ((go_at_call 28; exact quiet_add_same (mul64_m p1 q1 r3 t3 _)))
      go_wp2
      try rw [setCell_drewN]
      obtain ⟨s3, c3, f1, f2, hf⟩ := mac (s := p4') (c := c2) p1 r3 o4 G2.out.2.2.1 q1 t3 n4 G2.out.2.2.2.1
      rw [f1, f2]
      clear f1 f2
      have xs3 := hf.1
      have xc3 := hf.2.2.1
      have G3 := hide hf
      clear hf
      rw [rounds_succ]
      go_wp2
      try rw [setCell_drewN]
      go_roundw
      case rel =>
        obtain ⟨P', h8, he⟩ := row8_1 (a0 := a0) (a1 := a1) (a2 := a2) (a3 := a3) HAB.out.2 p1 HD.out.l HD.out.e (HD.out.z.2.1 (by decide)) G0.out.1 G0.out.2.1 G0.out.2.2.1 G0.out.2.2.2.1 G0.out.2.2.2.2 G1.out.1 G1.out.2.1 G1.out.2.2.1 G1.out.2.2.2.1 G1.out.2.2.2.2 G2.out.1 G2.out.2.1 G2.out.2.2.1 G2.out.2.2.2.1 G2.out.2.2.2.2 G3.out.1 G3.out.2.1 G3.out.2.2.1 G3.out.2.2.2.1 G3.out.2.2.2.2
        refine ⟨2, P', p0', s0, s1, s2, s3, c3, p6', p7', by go_num, by omega, hide ⟨he, h8, ⟨fun h => absurd h (by decide), fun h => absurd h (by decide), fun _ => HD.out.z.2.2.1 (by decide), fun _ => HD.out.z.2.2.2 (by decide)⟩⟩, hide ?_, hide ?_, hide ?_, hide ?_, hide ?_, hide (by (repeat' (first | (with_reducible exact Below.refl _ _) | (with_reducible assumption) | (with_reducible refine Below.alloc ?_ ?_ _) | (with_reducible refine Below.drew ?_) | (with_reducible refine below_drewN ?_ _) | (with_reducible refine Below.setCell ?_ ?_ _) | (with_reducible refine below_step (by with_reducible assumption) ?_ ?_) | (first | (with_reducible exact Nat.le_refl _) | (with_reducible assumption) | omega | (simp only [World.size_alloc, World.size_setCell, World.size_drew, size_drewN]; omega) | (simp; omega) | (simp; done)))))⟩
        · have := BA.out; (repeat' (first | (with_reducible assumption) | (with_reducible refine Box.drewN ?_ _) | (with_reducible refine Box.drew ?_) | (refine Box.other ?_ (by intro hh; dsimp only at hh; omega) _)))
        · have := BB.out; (repeat' (first | (with_reducible assumption) | (with_reducible refine Box.drewN ?_ _) | (with_reducible refine Box.drew ?_) | (refine Box.other ?_ (by intro hh; dsimp only at hh; omega) _)))
        · have := HL.out; (repeat (first | (with_reducible assumption) | (with_reducible apply heap_drewN) | (with_reducible apply heap_set) | ((with_reducible apply heap_far); rotate_left; omega) | ((with_reducible apply heap_alloc_new); simp; done) | (with_reducible apply heap_alloc_old)))
        · have := HH.out; (repeat (first | (with_reducible assumption) | (with_reducible apply heap_drewN) | (with_reducible apply heap_set) | ((with_reducible apply heap_far); rotate_left; omega) | ((with_reducible apply heap_alloc_new); simp; done) | (with_reducible apply heap_alloc_old)))
        · have := HP.out
          apply heap_cells
          · (repeat (first | (with_reducible apply heap_drewN) | (with_reducible apply heap_set) | ((with_reducible apply heap_far); rotate_left; omega) | ((with_reducible apply heap_alloc_new); simp; done) | (with_reducible apply heap_alloc_old)))
            assumption
          · simp
      case measure => simp [intOf]
    · obtain ⟨o0, o1, o2, o3, o4, o5, o6, o7⟩ := HD.out.l.lo
      obtain ⟨n0, n1, n2, n3, n4, n5, n6, n7⟩ := HD.out.l.hi
      go_wp2
      refine wp_loop_rounds 5 ?_
      rw [rounds_succ]
      go_wp2
      go_quiet ((go_at_call 28; exact Calls.quiet_of_same (mul64_m p2 q2 r0 t0 _)))
      go_wp2
      try rw [setCell_drewN]
      obtain ⟨s0, c0, f1, f2, hf⟩ := mac (s := p2') (c := 0) p2 r0 o2 (Int.le_refl 0) q2 t0 n2 (by omega)
      rw [f1, f2]
      clear f1 f2
      have xs0 := hf.1
      have xc0 := hf.2.2.1
      have G0 := hide hf
      clear hf
      rw [rounds_succ]
      go_wp2
      go_quiet ((go_at_call 28; exact quiet_add_same (mul64_m p2 q2 r1 t1 _)))
      go_wp2
      try rw [setCell_drewN]
      obtain ⟨s1, c1, f1, f2, hf⟩ := mac (s := p3') (c := c0) p2 r1 o3 G0.out.2.2.1 q2 t1 n3 G0.out.2.2.2.1
      rw [f1, f2]
      clear f1 f2
      have xs1 := hf.1
      have xc1 := hf.2.2.1
      have G1 := hide hf
      clear hf
      rw [rounds_succ]
      go_wp2
      go_quiet ((go_at_call 28; exact quiet_add_same (mul64_m p2 q2 r2 t2 _)))
      go_wp2
      try rw [setCell_drewN]
      obtain ⟨s2, c2, f1, f2, hf⟩ := mac (s := p4') (c := c1) p2 r2 o4 G1.out.2.2.1 q2 t2 n4 G1.out.2.2.2.1
      rw [f1, f2]
      clear f1 f2
      have xs2 := hf.1
      have xc2 := hf.2.2.1
      have G2 := hide hf
      clear hf
      rw [rounds_succ]
      go_wp2
      go_quiet ((go_at_call 28; exact quiet_add_same (mul64_m p2 q2 r3 t3 _)))
      go_wp2
      try rw [setCell_drewN]
      obtain ⟨s3, c3, f1, f2, hf⟩ := mac (s := p5') (c := c2) p2 r3 o5 G2.out.2.2.1 q2 t3 n5 G2.out.2.2.2.1
      rw [f1, f2]
      clear f1 f2
      have xs3 := hf.1
      have xc3 := hf.2.2.1
      have G3 := hide hf
      clear hf
      rw [rounds_succ]
      go_wp2
      try rw [setCell_drewN]
      go_roundw
      case rel =>
        obtain ⟨P', h8, he⟩ := row8_2 (a0 := a0) (a1 := a1) (a2 := a2) (a3 := a3) HAB.out.2 p2 HD.out.l HD.out.e (HD.out.z.2.2.1 (by decide)) G0.out.1 G0.out.2.1 G0.out.2.2.1 G0.out.2.2.2.1 G0.out.2.2.2.2 G1.out.1 G1.out.2.1 G1.out.2.2.1 G1.out.2.2.2.1 G1.out.2.2.2.2 G2.out.1 G2.out.2.1 G2.out.2.2.1 G2.out.2.2.2.1 G2.out.2.2.2.2 G3.out.1 G3.out.2.1 G3.out.2.2.1 G3.out.2.2.2.1 G3.out.2.2.2.2
        refine ⟨3, P', p0', p1', s0, s1, s2, s3, c3, p7', by go_num, by omega, hide ⟨he, h8, ⟨fun h => absurd h (by decide), fun h => absurd h (by decide), fun h => absurd h (by decide), fun _ => HD.out.z.2.2.2 (by decide)⟩⟩, hide ?_, hide ?_, hide ?_, hide ?_, hide ?_, hide (by (repeat' (first | (with_reducible exact Below.refl _ _) | (with_reducible assumption) | (with_reducible refine Below.alloc ?_ ?_ _) | (with_reducible refine Below.drew ?_) | (with_reducible refine below_drewN ?_ _) | (with_reducible refine Below.setCell ?_ ?_ _) | (with_reducible refine below_step (by with_reducible assumption) ?_ ?_) | (first | (with_reducible exact Nat.le_refl _) | (with_reducible assumption) | omega | (simp only [World.size_alloc, World.size_setCell, World.size_drew, size_drewN]; omega) | (simp; omega) | (simp; done)))))⟩
        · have := BA.out; (repeat' (first | (with_reducible assumption) | (with_reducible refine Box.drewN ?_ _) | (with_reducible refine Box.drew ?_) | (refine Box.other ?_ (by intro hh; dsimp only at hh; omega) _)))
        · have := BB.out; (repeat' (first | (with_reducible assumption) | (with_reducible refine Box.drewN ?_ _) | (with_reducible refine Box.drew ?_) | (refine Box.other ?_ (by intro hh; dsimp only at hh; omega) _)))
        · have := HL.out; (repeat (first | (with_reducible assumption) | (with_reducible apply heap_drewN) | (with_reducible apply heap_set) | ((with_reducible apply heap_far); rotate_left; omega) | ((with_reducible apply heap_alloc_new); simp; done) | (with_reducible apply heap_alloc_old)))
        · have := HH.out; (repeat (first | (with_reducible assumption) | (with_reducible apply heap_drewN) | (with_reducible apply heap_set) | ((with_reducible apply heap_far); rotate_left; omega) | ((with_reducible apply heap_alloc_new); simp; done) | (with_reducible apply heap_alloc_old)))
        · have := HP.out
          apply heap_cells
          · (repeat (first | (with_reducible apply heap_drewN) | (with_reducible apply heap_set) | ((with_reducible apply heap_far); rotate_left; omega) | ((with_reducible apply heap_alloc_new); simp; done) | (with_reducible apply heap_alloc_old)))
            assumption
          · simp
      case measure => simp [intOf]
    · obtain ⟨o0, o1, o2, o3, o4, o5, o6, o7⟩ := HD.out.l.lo
      obtain ⟨n0, n1, n2, n3, n4, n5, n6, n7⟩ := HD.out.l.hi
      go_wp2
      refine wp_loop_rounds 5 ?_
      rw [rounds_succ]
      go_wp2
      go_quiet ((go_at_call 28; exact Calls.quiet_of_same (mul64_m p3 q3 r0 t0 _)))
      go_wp2
      try rw [setCell_drewN]
      obtain ⟨s0, c0, f1, f2, hf⟩ := mac (s := p3') (c := 0) p3 r0 o3 (Int.le_refl 0) q3 t0 n3 (by omega)
      rw [f1, f2]
      clear f1 f2
      have xs0 := hf.1
      have xc0 := hf.2.2.1
      have G0 := hide hf
      clear hf
      rw [rounds_succ]
      go_wp2
      go_quiet ((go_at_call 28; exact quiet_add_same (mul64_m p3 q3 r1 t1 _)))
      go_wp2
      try rw [setCell_drewN]
      obtain ⟨s1, c1, f1, f2, hf⟩ := mac (s := p4') (c := c0) p3 r1 o4 G0.out.2.2.1 q3 t1 n4 G0.out.2.2.2.1
      rw [f1, f2]
      clear f1 f2
      have xs1 := hf.1
      have xc1 := hf.2.2.1
      have G1 := hide hf
      clear hf
      rw [rounds_succ]
      go_wp2
      go_quiet ((go_at_call 28; exact quiet_add_same (mul64_m p3 q3 r2 t2 _)))
      go_wp2
      try rw [setCell_drewN]
      obtain ⟨s2, c2, f1, f2, hf⟩ := mac (s := p5') (c := c1) p3 r2 o5 G1.out.2.2.1 q3 t2 n5 G1.out.2.2.2.1
      rw [f1, f2]
      clear f1 f2
      have xs2 := hf.1
      have xc2 := hf.2.2.1
      have G2 := hide hf
      clear hf
      rw [rounds_succ]
      go_wp2
      go_quiet ((go_at_call 28; exact quiet_add_same (mul64_m p3 q3 r3 t3 _)))
      go_wp2
      try rw [setCell_drewN]
      obtain ⟨s3, c3, f1, f2, hf⟩ := mac (s := p6') (c := c2) p3 r3 o6 G2.out.2.2.1 q3 t3 n6 G2.out.2.2.2.1
      rw [f1, f2]
      clear f1 f2
      have xs3 := hf.1
      have xc3 := hf.2.2.1
      have G3 := hide hf
      clear hf
      rw [rounds_succ]
      go_wp2
      try rw [setCell_drewN]
      go_roundw
      case rel =>
        obtain ⟨P', h8, he⟩ := row8_3 (a0 := a0) (a1 := a1) (a2 := a2) (a3 := a3) HAB.out.2 p3 HD.out.l HD.out.e (HD.out.z.2.2.2 (by decide)) G0.out.1 G0.out.2.1 G0.out.2.2.1 G0.out.2.2.2.1 G0.out.2.2.2.2 G1.out.1 G1.out.2.1 G1.out.2.2.1 G1.out.2.2.2.1 G1.out.2.2.2.2 G2.out.1 G2.out.2.1 G2.out.2.2.1 G2.out.2.2.2.1 G2.out.2.2.2.2 G3.out.1 G3.out.2.1 G3.out.2.2.1 G3.out.2.2.2.1 G3.out.2.2.2.2
        refine ⟨4, P', p0', p1', p2', s0, s1, s2, s3, c3, by go_num, by omega, hide ⟨he, h8, ⟨fun h => absurd h (by decide), fun h => absurd h (by decide), fun h => absurd h (by decide), fun h => absurd h (by decide)⟩⟩, hide ?_, hide ?_, hide ?_, hide ?_, hide ?_, hide (by (repeat' (first | (with_reducible exact Below.refl _ _) | (with_reducible assumption) | (with_reducible refine Below.alloc ?_ ?_ _) | (with_reducible refine Below.drew ?_) | (with_reducible refine below_drewN ?_ _) | (with_reducible refine Below.setCell ?_ ?_ _) | (with_reducible refine below_step (by with_reducible assumption) ?_ ?_) | (first | (with_reducible exact Nat.le_refl _) | (with_reducible assumption) | omega | (simp only [World.size_alloc, World.size_setCell, World.size_drew, size_drewN]; omega) | (simp; omega) | (simp; done)))))⟩
        · have := BA.out; (repeat' (first | (with_reducible assumption) | (with_reducible refine Box.drewN ?_ _) | (with_reducible refine Box.drew ?_) | (refine Box.other ?_ (by intro hh; dsimp only at hh; omega) _)))
        · have := BB.out; (repeat' (first | (with_reducible assumption) | (with_reducible refine Box.drewN ?_ _) | (with_reducible refine Box.drew ?_) | (refine Box.other ?_ (by intro hh; dsimp only at hh; omega) _)))
        · have := HL.out; (repeat (first | (with_reducible assumption) | (with_reducible apply heap_drewN) | (with_reducible apply heap_set) | ((with_reducible apply heap_far); rotate_left; omega) | ((with_reducible apply heap_alloc_new); simp; done) | (with_reducible apply heap_alloc_old)))
        · have := HH.out; (repeat (first | (with_reducible assumption) | (with_reducible apply heap_drewN) | (with_reducible apply heap_set) | ((with_reducible apply heap_far); rotate_left; omega) | ((with_reducible apply heap_alloc_new); simp; done) | (with_reducible apply heap_alloc_old)))
        · have := HP.out
          apply heap_cells
          · (repeat (first | (with_reducible apply heap_drewN) | (with_reducible apply heap_set) | ((with_reducible apply heap_far); rotate_left; omega) | ((with_reducible apply heap_alloc_new); simp; done) | (with_reducible apply heap_alloc_old)))
            assumption
          · simp
      case measure => simp [intOf]
    · obtain ⟨hA, hB⟩ := HAB.out
      have hP := HD.out.e
      have h8 := HD.out.l
      obtain ⟨e0, e1, e2, e3, e4, e5, e6, e7⟩ := pre_limbs hA hB hP h8
      have HE := hide (And.intro e0 (And.intro e1 (And.intro e2 (And.intro e3 (And.intro e4 (And.intro e5 (And.intro e6 e7)))))))
      clear e0 e1 e2 e3 e4 e5 e6 e7 hP h8 hA hB HAB HD BA BB l0 l1 l2 l3 m0 m1 m2 m3 lt0 y0 y1 y2 y3 g0 g1 g2 g3 lt1 hcp hfp N1 N2 L p0 q0 r0 t0 p1 q1 r1 t1 p2 q2 r2 t2 p3 q3 r3 t3
      have hgl := HL.out
      have hgh := HH.out
      have hgp := HP.out
      clear HL HH HP
      go_wp2
      go_region_law (refine step_copy4 _ _ 91 91 22 rfl rfl (by kernel_rfl) (by kernel_rfl) (w.heap.size + 1 + 1) (w.heap.size + 1 + 1 + 1 + 1) 0 8 (by go_simp) (by go_simp) 0 0 0 0 (p0') (p1') (p2') (p3') _ _ _ _ hgl hgp rfl rfl rfl rfl w.heap.size w (Below.drew hbb) (by omega) ?_; intro w4 hl4 hk4 hb4)
      have hh4 : w4.heap[w.heap.size + 1 + 1 + 1]? = _ := (hk4 _ (by omega)).trans hgh
      have hp4 : w4.heap[w.heap.size + 1 + 1 + 1 + 1]? = _ := (hk4 _ (by omega)).trans hgp
      clear hgl hgh hgp hk4
      go_wp2
      go_region_law (refine step_copy4 _ _ 91 91 22 rfl rfl (by kernel_rfl) (by kernel_rfl) (w.heap.size + 1 + 1 + 1) (w.heap.size + 1 + 1 + 1 + 1) 4 4 (by go_simp) (by go_simp) 0 0 0 0 (p4') (p5') (p6') (p7') _ _ _ _ hh4 hp4 rfl rfl rfl rfl w.heap.size w (Below.drew hb4) (by omega) ?_; intro w5 hh5 hk5 hb5)
      have hl5 : w5.heap[w.heap.size + 1 + 1]? = _ := (hk5 _ (by omega)).trans hl4
      have hcl := fun k => cell_of_heap hl5 k
      have hch := fun k => cell_of_heap hh5 k
      have hfl := fun k => froz_of_heap hl5 k
      have hfh := fun k => froz_of_heap hh5 k
      go_wp2
      refine bodyPost_ret (v := .tuple #[.agg #[.int .u64 p0', .int .u64 p1', .int .u64 p2', .int .u64 p3'], .agg #[.int .u64 p4', .int .u64 p5', .int .u64 p6', .int .u64 p7']]) (by simp [results, Try.results60, go_sem, *]) rfl ?_
      obtain ⟨e0, e1, e2, e3, e4, e5, e6, e7⟩ := HE.out
      rw [← e0, ← e1, ← e2, ← e3, ← e4, ← e5, ← e6, ← e7]
      exact ⟨rfl, (by (repeat' (first | (with_reducible exact Below.refl _ _) | (with_reducible assumption) | (with_reducible refine Below.alloc ?_ ?_ _) | (with_reducible refine Below.drew ?_) | (with_reducible refine below_drewN ?_ _) | (with_reducible refine Below.setCell ?_ ?_ _) | (with_reducible refine below_step (by with_reducible assumption) ?_ ?_) | (first | (with_reducible exact Nat.le_refl _) | (with_reducible assumption) | omega | (simp only [World.size_alloc, World.size_setCell, World.size_drew, size_drewN]; omega) | (simp; omega) | (simp; done)))))⟩
    · omega
end Go.Proofs.Ytkneiobohhhcpaa
