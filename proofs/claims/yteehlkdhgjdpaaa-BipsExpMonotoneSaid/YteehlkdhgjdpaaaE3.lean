/- Chapter 5: BipsExpMonotone, walked. -/
import Derived.WalkKit
import Derived.KernelRfl
import Derived.RowKit3
import Derived.Deep.LoopGhost
import Derived.Deep.QuietTactic
import Derived.BigQuiet
import Derived.WideLaws
import Derived.Laws.Rows
import Derived.Below
import Derived.Deep.Draws
import Derived.Outline
import Derived.LoopN
import Derived.Handy
import Derived.Laws.Externs
import Derived.Laws.BitsAllLaws
import Derived.Laws.BitsLemmas
import Derived.Deep.DeepCutAuto
import Derived.Deep.CutBlock
import Derived.Deep.RegionHeld3
import Derived.Test.YteehlkdhgjdpaaaE2
namespace Go.Proofs.Yteehlkdhgjdpaaa
open Go.RowKit
set_option linter.unusedVariables false
set_option linter.unusedSimpArgs false
set_option maxHeartbeats 8000000 in
theorem BipsExpMonotone_walk (a0 a1 a2 a3 : Int) (w0 : (Lit.int .u64 a0).wf = true) (w1 : (Lit.int .u64 a1).wf = true) (w2 : (Lit.int .i64 a2).wf = true) (w3 : (Lit.int .i64 a3).wf = true) (w : World) :
    Calls Try.prog 4 #[.int .u64 a0, .int .u64 a1, .int .i64 a2, .int .i64 a3] w fun e w' => e = .returned (.bool true) ∧ Below w.heap.size w w' := by
  obtain ⟨p0, q0⟩ := bounds_u64 w0
  obtain ⟨p1, q1⟩ := bounds_u64 w1
  clear w0 w1 w2 w3
  obtain ⟨X, e1, x0, x1⟩ := tmod_ex (x := a0) (K := 200001) p0 (by omega)
  obtain ⟨Y, e2, y0, y1⟩ := tmod_ex (x := a1) (K := 200001) p1 (by omega)
  have hs := modV_w (x := a2) (n := 20) (by omega)
  have ht := modV_w (x := a3) (n := 20) (by omega)
  obtain ⟨S, e3⟩ : ∃ S, 1 + modV a2 20 = S := ⟨_, rfl⟩
  obtain ⟨T, e4⟩ : ∃ T, 1 + modV a3 20 = T := ⟨_, rfl⟩
  have f1 : IntKind.i64.wrap S = S := by rw [IntKind.wrap_i64]; omega
  have f2 : IntKind.i64.wrap T = T := by rw [IntKind.wrap_i64]; omega
  have f3 : IntKind.u64.wrap (10000 + X) = 10000 + X := wrap_id (by omega) (by omega)
  have f4 : IntKind.u64.wrap (10000 + Y) = 10000 + Y := wrap_id (by omega) (by omega)
  by_cases hx : X > Y
  · by_cases ht' : S > T
    · have hxy : Y < X := hx
      have hst : T < S := ht'
      obtain ⟨g1, g2, g3, g4, g5, g6, g7, g8⟩ := exp_facts (a := Y) (b := X) (m := T) (n := S) (by omega) (by omega) (by omega) (by omega) (by omega) (by omega)
      have HA := hide (fun w => exp_c (x := Y) (t := T) (by omega) (by omega) w)
      have HB := hide (fun w => exp_c (x := X) (t := T) (by omega) (by omega) w)
      have HC := hide (fun w => exp_c (x := Y) (t := S) (by omega) (by omega) w)
      have HD := hide (fun w => exp_c (x := 0) (t := S) (by omega) (by omega) w)
      clear hx ht' hs ht x0 x1 y0 y1 p0 p1 q0 q1
      go_enter Try.func4, Try.ntmps4
      go_wp2_with fail
      refine (mod_c (by omega) (by omega) _).mono ?_
      rintro e w1 ⟨rfl, rfl⟩
      go_wp2_with fail
      refine (mod_c (by omega) (by omega) _).mono ?_
      rintro e w2 ⟨rfl, rfl⟩
      go_wp2_with fail
      refine (HA.out _).mono ?_
      rintro e w1 ⟨rfl, hb1⟩
      have hs1 := hb1.size
      try simp only [World.size_alloc, World.size_setCell, World.size_drew, size_drewN] at hs1
      go_wp2_with fail
      refine (HB.out _).mono ?_
      rintro e w2 ⟨rfl, hb2⟩
      have hs2 := hb2.size
      try simp only [World.size_alloc, World.size_setCell, World.size_drew, size_drewN] at hs2
      go_wp2_with fail
      refine (HC.out _).mono ?_
      rintro e w3 ⟨rfl, hb3⟩
      have hs3 := hb3.size
      try simp only [World.size_alloc, World.size_setCell, World.size_drew, size_drewN] at hs3
      go_wp2_with fail
      refine (HD.out _).mono ?_
      rintro e w4 ⟨rfl, hb4⟩
      have hs4 := hb4.size
      try simp only [World.size_alloc, World.size_setCell, World.size_drew, size_drewN] at hs4
      go_wp2_with fail
      refine (awake5_c _).mono ?_
      rintro e w5 ⟨rfl, hb5⟩
      have hs5 := hb5.size
      try simp only [World.size_alloc, World.size_setCell, World.size_drew, size_drewN] at hs5
      go_wp2
      go_ret
      exact ⟨rfl, (by (repeat' (first | (with_reducible exact Below.refl _ _) | (with_reducible assumption) | (with_reducible refine Below.alloc ?_ ?_ _) | (with_reducible refine Below.drew ?_) | (with_reducible refine below_drewN ?_ _) | (with_reducible refine Below.setCell ?_ ?_ _) | (with_reducible refine below_step (by with_reducible assumption) ?_ ?_) | (first | (with_reducible exact Nat.le_refl _) | (with_reducible assumption) | omega | (simp only [World.size_alloc, World.size_setCell, World.size_drew, size_drewN]; omega) | (simp; omega) | (simp; done)))))⟩
    · have hxy : Y < X := hx
      have hst : S ≤ T := by omega
      obtain ⟨g1, g2, g3, g4, g5, g6, g7, g8⟩ := exp_facts (a := Y) (b := X) (m := S) (n := T) (by omega) (by omega) (by omega) (by omega) (by omega) (by omega)
      have HA := hide (fun w => exp_c (x := Y) (t := S) (by omega) (by omega) w)
      have HB := hide (fun w => exp_c (x := X) (t := S) (by omega) (by omega) w)
      have HC := hide (fun w => exp_c (x := Y) (t := T) (by omega) (by omega) w)
      have HD := hide (fun w => exp_c (x := 0) (t := T) (by omega) (by omega) w)
      clear hx ht' hs ht x0 x1 y0 y1 p0 p1 q0 q1
      go_enter Try.func4, Try.ntmps4
      go_wp2_with fail
      refine (mod_c (by omega) (by omega) _).mono ?_
      rintro e w1 ⟨rfl, rfl⟩
      go_wp2_with fail
      refine (mod_c (by omega) (by omega) _).mono ?_
      rintro e w2 ⟨rfl, rfl⟩
      go_wp2_with fail
      refine (HA.out _).mono ?_
      rintro e w1 ⟨rfl, hb1⟩
      have hs1 := hb1.size
      try simp only [World.size_alloc, World.size_setCell, World.size_drew, size_drewN] at hs1
      go_wp2_with fail
      refine (HB.out _).mono ?_
      rintro e w2 ⟨rfl, hb2⟩
      have hs2 := hb2.size
      try simp only [World.size_alloc, World.size_setCell, World.size_drew, size_drewN] at hs2
      go_wp2_with fail
      refine (HC.out _).mono ?_
      rintro e w3 ⟨rfl, hb3⟩
      have hs3 := hb3.size
      try simp only [World.size_alloc, World.size_setCell, World.size_drew, size_drewN] at hs3
      go_wp2_with fail
      refine (HD.out _).mono ?_
      rintro e w4 ⟨rfl, hb4⟩
      have hs4 := hb4.size
      try simp only [World.size_alloc, World.size_setCell, World.size_drew, size_drewN] at hs4
      go_wp2_with fail
      refine (awake5_c _).mono ?_
      rintro e w5 ⟨rfl, hb5⟩
      have hs5 := hb5.size
      try simp only [World.size_alloc, World.size_setCell, World.size_drew, size_drewN] at hs5
      go_wp2
      go_ret
      exact ⟨rfl, (by (repeat' (first | (with_reducible exact Below.refl _ _) | (with_reducible assumption) | (with_reducible refine Below.alloc ?_ ?_ _) | (with_reducible refine Below.drew ?_) | (with_reducible refine below_drewN ?_ _) | (with_reducible refine Below.setCell ?_ ?_ _) | (with_reducible refine below_step (by with_reducible assumption) ?_ ?_) | (first | (with_reducible exact Nat.le_refl _) | (with_reducible assumption) | omega | (simp only [World.size_alloc, World.size_setCell, World.size_drew, size_drewN]; omega) | (simp; omega) | (simp; done)))))⟩
  · by_cases ht' : S > T
    · have hxy : X ≤ Y := by omega
      have hst : T < S := ht'
      obtain ⟨g1, g2, g3, g4, g5, g6, g7, g8⟩ := exp_facts (a := X) (b := Y) (m := T) (n := S) (by omega) (by omega) (by omega) (by omega) (by omega) (by omega)
      have HA := hide (fun w => exp_c (x := X) (t := T) (by omega) (by omega) w)
      have HB := hide (fun w => exp_c (x := Y) (t := T) (by omega) (by omega) w)
      have HC := hide (fun w => exp_c (x := X) (t := S) (by omega) (by omega) w)
      have HD := hide (fun w => exp_c (x := 0) (t := S) (by omega) (by omega) w)
      clear hx ht' hs ht x0 x1 y0 y1 p0 p1 q0 q1
      go_enter Try.func4, Try.ntmps4
      go_wp2_with fail
      refine (mod_c (by omega) (by omega) _).mono ?_
      rintro e w1 ⟨rfl, rfl⟩
      go_wp2_with fail
      refine (mod_c (by omega) (by omega) _).mono ?_
      rintro e w2 ⟨rfl, rfl⟩
      go_wp2_with fail
      refine (HA.out _).mono ?_
      rintro e w1 ⟨rfl, hb1⟩
      have hs1 := hb1.size
      try simp only [World.size_alloc, World.size_setCell, World.size_drew, size_drewN] at hs1
      go_wp2_with fail
      refine (HB.out _).mono ?_
      rintro e w2 ⟨rfl, hb2⟩
      have hs2 := hb2.size
      try simp only [World.size_alloc, World.size_setCell, World.size_drew, size_drewN] at hs2
      go_wp2_with fail
      refine (HC.out _).mono ?_
      rintro e w3 ⟨rfl, hb3⟩
      have hs3 := hb3.size
      try simp only [World.size_alloc, World.size_setCell, World.size_drew, size_drewN] at hs3
      go_wp2_with fail
      refine (HD.out _).mono ?_
      rintro e w4 ⟨rfl, hb4⟩
      have hs4 := hb4.size
      try simp only [World.size_alloc, World.size_setCell, World.size_drew, size_drewN] at hs4
      go_wp2_with fail
      refine (awake5_c _).mono ?_
      rintro e w5 ⟨rfl, hb5⟩
      have hs5 := hb5.size
      try simp only [World.size_alloc, World.size_setCell, World.size_drew, size_drewN] at hs5
      go_wp2
      go_ret
      exact ⟨rfl, (by (repeat' (first | (with_reducible exact Below.refl _ _) | (with_reducible assumption) | (with_reducible refine Below.alloc ?_ ?_ _) | (with_reducible refine Below.drew ?_) | (with_reducible refine below_drewN ?_ _) | (with_reducible refine Below.setCell ?_ ?_ _) | (with_reducible refine below_step (by with_reducible assumption) ?_ ?_) | (first | (with_reducible exact Nat.le_refl _) | (with_reducible assumption) | omega | (simp only [World.size_alloc, World.size_setCell, World.size_drew, size_drewN]; omega) | (simp; omega) | (simp; done)))))⟩
    · have hxy : X ≤ Y := by omega
      have hst : S ≤ T := by omega
      obtain ⟨g1, g2, g3, g4, g5, g6, g7, g8⟩ := exp_facts (a := X) (b := Y) (m := S) (n := T) (by omega) (by omega) (by omega) (by omega) (by omega) (by omega)
      have HA := hide (fun w => exp_c (x := X) (t := S) (by omega) (by omega) w)
      have HB := hide (fun w => exp_c (x := Y) (t := S) (by omega) (by omega) w)
      have HC := hide (fun w => exp_c (x := X) (t := T) (by omega) (by omega) w)
      have HD := hide (fun w => exp_c (x := 0) (t := T) (by omega) (by omega) w)
      clear hx ht' hs ht x0 x1 y0 y1 p0 p1 q0 q1
      go_enter Try.func4, Try.ntmps4
      go_wp2_with fail
      refine (mod_c (by omega) (by omega) _).mono ?_
      rintro e w1 ⟨rfl, rfl⟩
      go_wp2_with fail
      refine (mod_c (by omega) (by omega) _).mono ?_
      rintro e w2 ⟨rfl, rfl⟩
      go_wp2_with fail
      refine (HA.out _).mono ?_
      rintro e w1 ⟨rfl, hb1⟩
      have hs1 := hb1.size
      try simp only [World.size_alloc, World.size_setCell, World.size_drew, size_drewN] at hs1
      go_wp2_with fail
      refine (HB.out _).mono ?_
      rintro e w2 ⟨rfl, hb2⟩
      have hs2 := hb2.size
      try simp only [World.size_alloc, World.size_setCell, World.size_drew, size_drewN] at hs2
      go_wp2_with fail
      refine (HC.out _).mono ?_
      rintro e w3 ⟨rfl, hb3⟩
      have hs3 := hb3.size
      try simp only [World.size_alloc, World.size_setCell, World.size_drew, size_drewN] at hs3
      go_wp2_with fail
      refine (HD.out _).mono ?_
      rintro e w4 ⟨rfl, hb4⟩
      have hs4 := hb4.size
      try simp only [World.size_alloc, World.size_setCell, World.size_drew, size_drewN] at hs4
      go_wp2_with fail
      refine (awake5_c _).mono ?_
      rintro e w5 ⟨rfl, hb5⟩
      have hs5 := hb5.size
      try simp only [World.size_alloc, World.size_setCell, World.size_drew, size_drewN] at hs5
      go_wp2
      go_ret
      exact ⟨rfl, (by (repeat' (first | (with_reducible exact Below.refl _ _) | (with_reducible assumption) | (with_reducible refine Below.alloc ?_ ?_ _) | (with_reducible refine Below.drew ?_) | (with_reducible refine below_drewN ?_ _) | (with_reducible refine Below.setCell ?_ ?_ _) | (with_reducible refine below_step (by with_reducible assumption) ?_ ?_) | (first | (with_reducible exact Nat.le_refl _) | (with_reducible assumption) | omega | (simp only [World.size_alloc, World.size_setCell, World.size_drew, size_drewN]; omega) | (simp; omega) | (simp; done)))))⟩
end Go.Proofs.Yteehlkdhgjdpaaa
