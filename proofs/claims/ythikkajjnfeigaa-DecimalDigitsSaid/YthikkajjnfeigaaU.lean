/- The functions of package uint256, walked: what each answers, as a number. -/
import Derived.WalkKit
import Derived.KernelRfl
import Derived.RowKit3
import Derived.Deep.LoopGhost
import Derived.Deep.QuietTactic
import Derived.BigQuiet
import Derived.WideLaws
import Derived.Laws.Rows
import Derived.Below
import Derived.Deep.Draws
import Derived.Outline
import Derived.LoopN
import Derived.Handy
import Derived.Laws.Externs
import Derived.Laws.BitsAllLaws
import Derived.Laws.BitsLemmas
import Derived.Deep.DeepCutAuto
import Derived.Deep.CutBlock
import Derived.Deep.RegionHeld3
import Derived.ChangeKeysEq
import Derived.OwnWalk
import Derived.Test.YthikkajjnfeigaaProg
import Derived.Test.YthikkajjnfeigaaB
namespace Go.Proofs.Ythikkajjnfeigaa
open Go.RowKit
set_option linter.unusedVariables false
set_option linter.unusedSimpArgs false
theorem add_law {x y c : Int} (hx : 0 ≤ x) (hy : 0 ≤ y) (h0 : 0 ≤ c) (hc : c ≤ 1) (w : World) :
    (callFunc 38 #[.int .u64 x, .int .u64 y, .int .u64 c]).run Try.prog w = .ok (.value (.tuple #[.int .u64 (sm x y c), .int .u64 (cy x y c)])) w := by
  rw [run_callFunc_extern Try.func38 (by kernel_rfl) (by kernel_rfl) (by kernel_rfl) (e := add64Entry) (by kernel_rfl), run_add64 x y c hx hy h0 hc]
  rfl
def sub64Entry : Array Value → Sem Value := fun args => do
  let (x, y, b) ← Extern.MathBitsCarry.three "Sub64" args
  pure (Extern.MathBitsCarry.pair ((x + Extern.MathBitsCarry.m64 - y - b) % Extern.MathBitsCarry.m64) (if x < y + b then 1 else 0))
theorem run_sub64 {P : Program} (x y b : Nat) (hb : b ≤ 1) (w : World) :
    (sub64Entry #[.int .u64 x, .int .u64 y, .int .u64 b]).run P w =
      .ok (.tuple #[.int .u64 (((x + 18446744073709551616 - y - b) % 18446744073709551616 : Nat) : Int), .int .u64 ((if x < y + b then 1 else 0 : Nat) : Int)]) w := by
  have : b = 0 ∨ b = 1 := by omega
  rcases this with rfl | rfl <;> rfl
theorem sub_nat (x y b : Nat) (hy : y < 18446744073709551616) (hb : b ≤ 1) : (((x + 18446744073709551616 - y - b) % 18446744073709551616 : Nat) : Int) = df x y b ∧ ((if x < y + b then 1 else 0 : Nat) : Int) = bw x y b := by
  constructor
  · unfold df; omega
  · unfold bw; split <;> split <;> omega
/-- '==' on 256-bit numbers: limb by limb. -/
theorem infoU : (Try.prog.info? 22).map (fun i => (i.zero, i.size, i.bytes)) = some (some (.int .u64 0), 1, 8) := by kernel_rfl
theorem cellsU : Try.prog.cellsOf 22 = 1 := by kernel_rfl
theorem item_law {P : Program} {e : TypeId} (he : P.underlying e = some (.int .u64)) (a b : Int) (w : World) (d : Nat) : (Op.equalIn (d + 1) e (.int .u64 a) (.int .u64 b)).run P w = .ok (a == b) w := by
  simp [Op.equalIn, run_underlying he]
theorem item_cons {P : Program} {e : TypeId} {d c i : Nat} {xs ys : Array Value} {is : List Nat} {a b : Value} {r s : Bool} {w : World} (pa : (part e xs (i * c)).run P w = .ok a w) (pb : (part e ys (i * c)).run P w = .ok b w) (pe : (Op.equalIn d e a b).run P w = .ok r w) (hr : (Op.eqItems d e c xs ys is).run P w = .ok s w) :
    (Op.eqItems d e c xs ys (i :: is)).run P w = .ok (r && s) w := by
  simp only [Op.eqItems, Sem.run_bind, pa, pb, pe, Result.andThen_ok]
  cases r
  · simp
  · simpa using hr
@[go_sem] theorem eqU_law (a0 a1 a2 a3 b0 b1 b2 b3 : Int) (w : World) :
    (Op.equalIn 10000 24 (.agg #[.int .u64 a0, .int .u64 a1, .int .u64 a2, .int .u64 a3]) (.agg #[.int .u64 b0, .int .u64 b1, .int .u64 b2, .int .u64 b3])).run Try.prog w = .ok (a0 == b0 && (a1 == b1 && (a2 == b2 && a3 == b3))) w := by
  obtain ⟨i0, hi, -, -, -⟩ := info_parts infoU
  rw [run_equalIn_array w 9999 _ _ Try.underlying24 hi, cellsU, show List.range 4 = [0, 1, 2, 3] from rfl]
  have hp : ∀ (xs : Array Value) (i : Nat) (v : Value) (w : World), xs[i]? = some v → (part 22 xs i).run Try.prog w = .ok v w := by
    intro xs i v w h
    simp [part, isAgg, run_underlying Try.underlying22, h]
  have hn : (Op.eqItems 9999 22 1 #[.int .u64 a0, .int .u64 a1, .int .u64 a2, .int .u64 a3] #[.int .u64 b0, .int .u64 b1, .int .u64 b2, .int .u64 b3] []).run Try.prog w = .ok true w := by simp [Op.eqItems]
  rw [show (a3 == b3) = ((a3 == b3) && true) by rw [Bool.and_true]]
  exact item_cons (hp _ _ _ w rfl) (hp _ _ _ w rfl) (item_law Try.underlying22 _ _ w 9998) (item_cons (hp _ _ _ w rfl) (hp _ _ _ w rfl) (item_law Try.underlying22 _ _ w 9998) (item_cons (hp _ _ _ w rfl) (hp _ _ _ w rfl) (item_law Try.underlying22 _ _ w 9998) (item_cons (hp _ _ _ w rfl) (hp _ _ _ w rfl) (item_law Try.underlying22 _ _ w 9998) hn)))
set_option maxHeartbeats 400000 in
theorem cmp_c {A B : Nat} {a0 a1 a2 a3 b0 b1 b2 b3 : Int} (hA : isU A a0 a1 a2 a3) (hB : isU B b0 b1 b2 b3) (w : World) :
   Calls Try.prog 18 #[.agg #[.int .u64 a0, .int .u64 a1, .int .u64 a2, .int .u64 a3], .agg #[.int .u64 b0, .int .u64 b1, .int .u64 b2, .int .u64 b3]] w fun e w' => e = .returned (.int .i64 (cmpV A B)) ∧ Below w.heap.size w w' := by
  go_enter Try.func18, Try.ntmps18
  go_wp2
  refine wp_loop_rounds 5 ?_
  repeat' ((first | (rw [rounds_succ]) | go_quiet (fail)); go_wp2)
  all_goals go_ret
  all_goals refine ⟨ret_int ?_, (by (repeat' (first | (with_reducible exact Below.refl _ _) | (with_reducible assumption) | (with_reducible refine Below.alloc ?_ ?_ _) | (with_reducible refine Below.drew ?_) | (with_reducible refine below_drewN ?_ _) | (with_reducible refine Below.setCell ?_ ?_ _) | (with_reducible refine below_step (by with_reducible assumption) ?_ ?_) | (first | (with_reducible exact Nat.le_refl _) | (with_reducible assumption) | omega | (simp only [World.size_alloc, World.size_setCell, World.size_drew, size_drewN]; omega) | (simp; omega) | (simp; done)))))⟩
  all_goals (obtain ⟨p0, p1, p2, p3, q0, q1, q2, q3, v⟩ := hA; obtain ⟨r0, r1, r2, r3, s0, s1, s2, s3, u⟩ := hB; unfold cmpV; split <;> (try split) <;> omega)
theorem from_c (n : Int) (w : World) :
   Calls Try.prog 23 #[.int .u64 n] w fun e w' => e = .returned (.agg #[.int .u64 n, .int .u64 0, .int .u64 0, .int .u64 0]) ∧ Below w.heap.size w w' := by
  go_enter Try.func23, Try.ntmps23
  go_wp2
  go_returns
  exact ⟨rfl, (by (repeat' (first | (with_reducible exact Below.refl _ _) | (with_reducible assumption) | (with_reducible refine Below.alloc ?_ ?_ _) | (with_reducible refine Below.drew ?_) | (with_reducible refine below_drewN ?_ _) | (with_reducible refine Below.setCell ?_ ?_ _) | (with_reducible refine below_step (by with_reducible assumption) ?_ ?_) | (first | (with_reducible exact Nat.le_refl _) | (with_reducible assumption) | omega | (simp only [World.size_alloc, World.size_setCell, World.size_drew, size_drewN]; omega) | (simp; omega) | (simp; done)))))⟩
set_option maxHeartbeats 400000 in
theorem add_c {A B : Nat} {a0 a1 a2 a3 b0 b1 b2 b3 : Int} (hA : isU A a0 a1 a2 a3) (hB : isU B b0 b1 b2 b3) (w : World) :
   Calls Try.prog 24 #[.agg #[.int .u64 a0, .int .u64 a1, .int .u64 a2, .int .u64 a3], .agg #[.int .u64 b0, .int .u64 b1, .int .u64 b2, .int .u64 b3]] w fun e w' => e = .returned (.tuple #[.agg #[.int .u64 (lim (addV A B) 0), .int .u64 (lim (addV A B) 1), .int .u64 (lim (addV A B) 2), .int .u64 (lim (addV A B) 3)], .int .i64 (addE A B)]) ∧ Below w.heap.size w w' := by
  have L := @add_law
  have p0 := hA.p0
  have p1 := hA.p1
  have p2 := hA.p2
  have p3 := hA.p3
  have r0 := hB.p0
  have r1 := hB.p1
  have r2 := hB.p2
  have r3 := hB.p3
  obtain ⟨c0, d0, c1, d1, c2, d2, c3, d3⟩ := add_limbs hA hB
  go_enter Try.func24, Try.ntmps24
  go_wp2
  refine wp_loop_rounds 5 ?_
  repeat' ((first | (rw [rounds_succ]) | go_region); go_wp2)
  · have hc : cy a3 b3 (cy a2 b2 (cy a1 b1 (cy a0 b0 0))) ≠ 0 := by
      have h : (cy a3 b3 (cy a2 b2 (cy a1 b1 (cy a0 b0 0))) != 0) = true := by assumption
      simpa using h
    go_returns
    obtain ⟨h1, h2⟩ := add_over hA hB hc
    rw [h1, h2, lim_zero, lim_zero, lim_zero, lim_zero]
    exact ⟨rfl, (by (repeat' (first | (with_reducible exact Below.refl _ _) | (with_reducible assumption) | (with_reducible refine Below.alloc ?_ ?_ _) | (with_reducible refine Below.drew ?_) | (with_reducible refine below_drewN ?_ _) | (with_reducible refine Below.setCell ?_ ?_ _) | (with_reducible refine below_step (by with_reducible assumption) ?_ ?_) | (first | (with_reducible exact Nat.le_refl _) | (with_reducible assumption) | omega | (simp only [World.size_alloc, World.size_setCell, World.size_drew, size_drewN]; omega) | (simp; omega) | (simp; done)))))⟩
  · have hc : cy a3 b3 (cy a2 b2 (cy a1 b1 (cy a0 b0 0))) = 0 := by
      first | assumption | (have h : (cy a3 b3 (cy a2 b2 (cy a1 b1 (cy a0 b0 0))) != 0) = false := by assumption
                            simpa using h)
    go_returns
    obtain ⟨h1, h2, h3⟩ := add_val hA hB hc
    obtain ⟨e0, e1, e2, e3⟩ := h3.lims
    rw [h1, h2, ← e0, ← e1, ← e2, ← e3]
    exact ⟨rfl, (by (repeat' (first | (with_reducible exact Below.refl _ _) | (with_reducible assumption) | (with_reducible refine Below.alloc ?_ ?_ _) | (with_reducible refine Below.drew ?_) | (with_reducible refine below_drewN ?_ _) | (with_reducible refine Below.setCell ?_ ?_ _) | (with_reducible refine below_step (by with_reducible assumption) ?_ ?_) | (first | (with_reducible exact Nat.le_refl _) | (with_reducible assumption) | omega | (simp only [World.size_alloc, World.size_setCell, World.size_drew, size_drewN]; omega) | (simp; omega) | (simp; done)))))⟩
end Go.Proofs.Ythikkajjnfeigaa
