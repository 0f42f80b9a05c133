/- Chapter 5: Exp against the reference, walked. -/
import Derived.WalkKit
import Derived.KernelRfl
import Derived.RowKit3
import Derived.Deep.LoopGhost
import Derived.Deep.QuietTactic
import Derived.BigQuiet
import Derived.WideLaws
import Derived.Laws.Rows
import Derived.Below
import Derived.Deep.Draws
import Derived.Outline
import Derived.LoopN
import Derived.Handy
import Derived.Laws.Externs
import Derived.Laws.BitsAllLaws
import Derived.Laws.BitsLemmas
import Derived.Deep.DeepCutAuto
import Derived.Deep.CutBlock
import Derived.Deep.RegionHeld3
import Derived.Test.YteehlkdhgjdpaaaR18
namespace Go.Proofs.Yteehlkdhgjdpaaa
open Go.RowKit
set_option linter.unusedVariables false
set_option linter.unusedSimpArgs false
theorem ix3u (a b c : Int) : (∀ W : World, (Instr.index 23 (.agg #[.int .u64 a, .int .u64 b, .int .u64 c]) (.int .i64 0)).run Try.prog W = .ok (.int .u64 a) W) ∧ (∀ W : World, (Instr.index 23 (.agg #[.int .u64 a, .int .u64 b, .int .u64 c]) (.int .i64 1)).run Try.prog W = .ok (.int .u64 b) W) ∧ (∀ W : World, (Instr.index 23 (.agg #[.int .u64 a, .int .u64 b, .int .u64 c]) (.int .i64 2)).run Try.prog W = .ok (.int .u64 c) W) := by
  refine ⟨fun W => ?_, fun W => ?_, fun W => ?_⟩ <;> simp [Instr.index, run_underlying Try.underlying23, asIntOf, go_sem]
theorem ix3i (a b c : Int) : (∀ W : World, (Instr.index 25 (.agg #[.int .i64 a, .int .i64 b, .int .i64 c]) (.int .i64 0)).run Try.prog W = .ok (.int .i64 a) W) ∧ (∀ W : World, (Instr.index 25 (.agg #[.int .i64 a, .int .i64 b, .int .i64 c]) (.int .i64 1)).run Try.prog W = .ok (.int .i64 b) W) ∧ (∀ W : World, (Instr.index 25 (.agg #[.int .i64 a, .int .i64 b, .int .i64 c]) (.int .i64 2)).run Try.prog W = .ok (.int .i64 c) W) := by
  refine ⟨fun W => ?_, fun W => ?_, fun W => ?_⟩ <;> simp [Instr.index, run_underlying Try.underlying25, asIntOf, go_sem]
set_option maxHeartbeats 8000000 in
theorem BipsExpReference_walk (a0 a1 : Int) (w0 : (Lit.int .u64 a0).wf = true) (w1 : (Lit.int .i64 a1).wf = true) (w : World) :
    Calls Try.prog 3 #[.int .u64 a0, .int .i64 a1] w fun e w' => e = .returned (.bool true) ∧ Below w.heap.size w w' := by
  obtain ⟨p0, q0⟩ := bounds_u64 w0
  clear w0 w1
  obtain ⟨X, e1, x0, x1⟩ := tmod_ex (x := a0) (K := 200001) p0 (by omega)
  obtain ⟨Y, e2, y0, y1⟩ := tmod_ex (x := a0) (K := 20000) p0 (by omega)
  obtain ⟨T, e3⟩ : ∃ T, modV a1 24 = T := ⟨_, rfl⟩
  have HM := hide (fun w => mod_c (x := a1) (n := 24) (by omega) (by omega) w)
  rw [e3] at HM
  obtain ⟨u1, u2, u3⟩ := ix3u a0 X Y
  obtain ⟨i1, i2, i3⟩ := ix3i a1 T 10
  have P00 := hide (fun w => exp_c (x := a0) (t := a1) (by omega) (by omega) w)
  have R00 := hide (fun w => rexp_c (x := a0) (t := a1) (by omega) (by omega) w)
  have P01 := hide (fun w => exp_c (x := a0) (t := T) (by omega) (by omega) w)
  have R01 := hide (fun w => rexp_c (x := a0) (t := T) (by omega) (by omega) w)
  have P02 := hide (fun w => exp_c (x := a0) (t := 10) (by omega) (by omega) w)
  have R02 := hide (fun w => rexp_c (x := a0) (t := 10) (by omega) (by omega) w)
  have P10 := hide (fun w => exp_c (x := X) (t := a1) (by omega) (by omega) w)
  have R10 := hide (fun w => rexp_c (x := X) (t := a1) (by omega) (by omega) w)
  have P11 := hide (fun w => exp_c (x := X) (t := T) (by omega) (by omega) w)
  have R11 := hide (fun w => rexp_c (x := X) (t := T) (by omega) (by omega) w)
  have P12 := hide (fun w => exp_c (x := X) (t := 10) (by omega) (by omega) w)
  have R12 := hide (fun w => rexp_c (x := X) (t := 10) (by omega) (by omega) w)
  have P20 := hide (fun w => exp_c (x := Y) (t := a1) (by omega) (by omega) w)
  have R20 := hide (fun w => rexp_c (x := Y) (t := a1) (by omega) (by omega) w)
  have P21 := hide (fun w => exp_c (x := Y) (t := T) (by omega) (by omega) w)
  have R21 := hide (fun w => rexp_c (x := Y) (t := T) (by omega) (by omega) w)
  have P22 := hide (fun w => exp_c (x := Y) (t := 10) (by omega) (by omega) w)
  have R22 := hide (fun w => rexp_c (x := Y) (t := 10) (by omega) (by omega) w)
  clear x0 x1 y0 y1 p0 q0 e3
  go_enter Try.func3, Try.ntmps3
  go_wp2
  refine wp_loop_rounds 4 ?_
  rw [rounds_succ]
  go_wp2_with fail
  refine (HM.out _).mono ?_
  rintro e v ⟨rfl, rfl⟩
  go_wp2
  refine wp_loop_rounds 4 ?_
  rw [rounds_succ]
  go_wp2_with fail
  refine (P00.out _).mono ?_
  rintro e w1 ⟨rfl, hb1⟩
  have hs1 := hb1.size
  try simp only [World.size_alloc, World.size_setCell, World.size_drew, size_drewN] at hs1
  go_wp2_with fail
  refine (R00.out _).mono ?_
  rintro e w2 ⟨rfl, hb2⟩
  have hs2 := hb2.size
  try simp only [World.size_alloc, World.size_setCell, World.size_drew, size_drewN] at hs2
  go_wp2
  rw [rounds_succ]
  go_wp2_with fail
  refine (P01.out _).mono ?_
  rintro e w3 ⟨rfl, hb3⟩
  have hs3 := hb3.size
  try simp only [World.size_alloc, World.size_setCell, World.size_drew, size_drewN] at hs3
  go_wp2_with fail
  refine (R01.out _).mono ?_
  rintro e w4 ⟨rfl, hb4⟩
  have hs4 := hb4.size
  try simp only [World.size_alloc, World.size_setCell, World.size_drew, size_drewN] at hs4
  go_wp2
  rw [rounds_succ]
  go_wp2_with fail
  refine (P02.out _).mono ?_
  rintro e w5 ⟨rfl, hb5⟩
  have hs5 := hb5.size
  try simp only [World.size_alloc, World.size_setCell, World.size_drew, size_drewN] at hs5
  go_wp2_with fail
  refine (R02.out _).mono ?_
  rintro e w6 ⟨rfl, hb6⟩
  have hs6 := hb6.size
  try simp only [World.size_alloc, World.size_setCell, World.size_drew, size_drewN] at hs6
  go_wp2
  rw [rounds_succ]
  go_wp2
  rw [rounds_succ]
  go_wp2_with fail
  refine (HM.out _).mono ?_
  rintro e v ⟨rfl, rfl⟩
  go_wp2
  refine wp_loop_rounds 4 ?_
  rw [rounds_succ]
  go_wp2_with fail
  refine (P10.out _).mono ?_
  rintro e w7 ⟨rfl, hb7⟩
  have hs7 := hb7.size
  try simp only [World.size_alloc, World.size_setCell, World.size_drew, size_drewN] at hs7
  go_wp2_with fail
  refine (R10.out _).mono ?_
  rintro e w8 ⟨rfl, hb8⟩
  have hs8 := hb8.size
  try simp only [World.size_alloc, World.size_setCell, World.size_drew, size_drewN] at hs8
  go_wp2
  rw [rounds_succ]
  go_wp2_with fail
  refine (P11.out _).mono ?_
  rintro e w9 ⟨rfl, hb9⟩
  have hs9 := hb9.size
  try simp only [World.size_alloc, World.size_setCell, World.size_drew, size_drewN] at hs9
  go_wp2_with fail
  refine (R11.out _).mono ?_
  rintro e w10 ⟨rfl, hb10⟩
  have hs10 := hb10.size
  try simp only [World.size_alloc, World.size_setCell, World.size_drew, size_drewN] at hs10
  go_wp2
  rw [rounds_succ]
  go_wp2_with fail
  refine (P12.out _).mono ?_
  rintro e w11 ⟨rfl, hb11⟩
  have hs11 := hb11.size
  try simp only [World.size_alloc, World.size_setCell, World.size_drew, size_drewN] at hs11
  go_wp2_with fail
  refine (R12.out _).mono ?_
  rintro e w12 ⟨rfl, hb12⟩
  have hs12 := hb12.size
  try simp only [World.size_alloc, World.size_setCell, World.size_drew, size_drewN] at hs12
  go_wp2
  rw [rounds_succ]
  go_wp2
  rw [rounds_succ]
  go_wp2_with fail
  refine (HM.out _).mono ?_
  rintro e v ⟨rfl, rfl⟩
  go_wp2
  refine wp_loop_rounds 4 ?_
  rw [rounds_succ]
  go_wp2_with fail
  refine (P20.out _).mono ?_
  rintro e w13 ⟨rfl, hb13⟩
  have hs13 := hb13.size
  try simp only [World.size_alloc, World.size_setCell, World.size_drew, size_drewN] at hs13
  go_wp2_with fail
  refine (R20.out _).mono ?_
  rintro e w14 ⟨rfl, hb14⟩
  have hs14 := hb14.size
  try simp only [World.size_alloc, World.size_setCell, World.size_drew, size_drewN] at hs14
  go_wp2
  rw [rounds_succ]
  go_wp2_with fail
  refine (P21.out _).mono ?_
  rintro e w15 ⟨rfl, hb15⟩
  have hs15 := hb15.size
  try simp only [World.size_alloc, World.size_setCell, World.size_drew, size_drewN] at hs15
  go_wp2_with fail
  refine (R21.out _).mono ?_
  rintro e w16 ⟨rfl, hb16⟩
  have hs16 := hb16.size
  try simp only [World.size_alloc, World.size_setCell, World.size_drew, size_drewN] at hs16
  go_wp2
  rw [rounds_succ]
  go_wp2_with fail
  refine (P22.out _).mono ?_
  rintro e w17 ⟨rfl, hb17⟩
  have hs17 := hb17.size
  try simp only [World.size_alloc, World.size_setCell, World.size_drew, size_drewN] at hs17
  go_wp2_with fail
  refine (R22.out _).mono ?_
  rintro e w18 ⟨rfl, hb18⟩
  have hs18 := hb18.size
  try simp only [World.size_alloc, World.size_setCell, World.size_drew, size_drewN] at hs18
  go_wp2
  rw [rounds_succ]
  go_wp2
  rw [rounds_succ]
  go_wp2_with fail
  refine (awake5_c _).mono ?_
  rintro e w19 ⟨rfl, hb19⟩
  have hs19 := hb19.size
  try simp only [World.size_alloc, World.size_setCell, World.size_drew, size_drewN] at hs19
  go_wp2
  go_ret
  exact ⟨rfl, (by (repeat' (first | (with_reducible exact Below.refl _ _) | (with_reducible assumption) | (with_reducible refine Below.alloc ?_ ?_ _) | (with_reducible refine Below.drew ?_) | (with_reducible refine below_drewN ?_ _) | (with_reducible refine Below.setCell ?_ ?_ _) | (with_reducible refine below_step (by with_reducible assumption) ?_ ?_) | (first | (with_reducible exact Nat.le_refl _) | (with_reducible assumption) | omega | (simp only [World.size_alloc, World.size_setCell, World.size_drew, size_drewN]; omega) | (simp; omega) | (simp; done)))))⟩
end Go.Proofs.Yteehlkdhgjdpaaa
