/- Package pontageref1, walked: the conversions. -/
import Derived.WalkKit
import Derived.KernelRfl
import Derived.RowKit3
import Derived.Deep.LoopGhost
import Derived.Deep.QuietTactic
import Derived.BigQuiet
import Derived.WideLaws
import Derived.Laws.Rows
import Derived.Below
import Derived.Deep.Draws
import Derived.Outline
import Derived.LoopN
import Derived.Handy
import Derived.Laws.Externs
import Derived.Laws.BitsAllLaws
import Derived.Laws.BitsLemmas
import Derived.Deep.DeepCutAuto
import Derived.Deep.CutBlock
import Derived.Deep.RegionHeld3
import Derived.Test.YthikkajjnfeigaaR1
import Derived.Test.YthikkajjnfeigaaU
namespace Go.Proofs.Ythikkajjnfeigaa
open Go.RowKit
set_option linter.unusedVariables false
set_option linter.unusedSimpArgs false
theorem and_u64 (x : Int) : bits .and .u64 x 65535 = x % 65536 := by
  show IntKind.u64.wrap ((BitVec.ofInt 64 x &&& BitVec.ofInt 64 65535).toNat : Int) = _
  rw [BitVec.toNat_and, show (BitVec.ofInt 64 65535).toNat = 2 ^ 16 - 1 from rfl, Nat.and_two_pow_sub_one_eq_mod, BitVec.toNat_ofInt, IntKind.wrap_u64]
  omega
theorem and_i64 (x : Int) : bits .and .i64 x 65535 = x % 65536 := by
  show IntKind.i64.wrap ((BitVec.ofInt 64 x &&& BitVec.ofInt 64 65535).toNat : Int) = _
  rw [BitVec.toNat_and, show (BitVec.ofInt 64 65535).toNat = 2 ^ 16 - 1 from rfl, Nat.and_two_pow_sub_one_eq_mod, BitVec.toNat_ofInt, IntKind.wrap_i64]
  omega
theorem make16 (W : World) : (Instr.makeSlice 48 (.int .i64 16) (.int .i64 16)).run Try.prog W = .ok (.slice (some ⟨W.heap.size, 0, none⟩) 16 16) (W.alloc (.cells #[.int .i64 0, .int .i64 0, .int .i64 0, .int .i64 0, .int .i64 0, .int .i64 0, .int .i64 0, .int .i64 0, .int .i64 0, .int .i64 0, .int .i64 0, .int .i64 0, .int .i64 0, .int .i64 0, .int .i64 0, .int .i64 0] 3)) := by kernel_rfl
theorem Row.alloc (W : World) (l : List Nat) (t : TypeId) : Row (W.alloc (.cells (l.map fun d : Nat => Value.int .i64 (d : Int)).toArray t)) (some ⟨W.heap.size, 0, none⟩) l := by
  intro _
  refine ⟨_, _, rfl, fun i hi => ?_⟩
  rw [Nat.zero_add, List.getD_eq_getElem?_getD, List.getElem?_eq_getElem hi]
  simp [go_sem, hi]
/-- A number in memory: n digits, at this address. -/
structure Big (w : World) (ad : Option Addr) (n c : Nat) (N : Nat) : Prop where
  hn : n = nd N
  hc : n ≤ c
  row : Row w ad (dig N)
theorem Big.below {w w' : World} {ad : Option Addr} {n c N B : Nat} (h : Big w ad n c N) (hb : Below B w w') (hB : w.heap.size ≤ B) : Big w' ad n c N := ⟨h.hn, h.hc, h.row.below hb hB⟩
theorem Big.lt {w : World} {ad : Option Addr} {n c N k : Nat} (h : Big w ad n c N) (hk : n ≤ k) : N < 65536 ^ k := lt_of_nd (by rw [← h.hn]; exact hk)
def dl16 (a0 a1 a2 a3 : Int) : List Nat := [(a0 % 65536).toNat, (a0 / 65536 % 65536).toNat, (a0 / 4294967296 % 65536).toNat, (a0 / 281474976710656 % 65536).toNat, (a1 % 65536).toNat, (a1 / 65536 % 65536).toNat, (a1 / 4294967296 % 65536).toNat, (a1 / 281474976710656 % 65536).toNat, (a2 % 65536).toNat, (a2 / 65536 % 65536).toNat, (a2 / 4294967296 % 65536).toNat, (a2 / 281474976710656 % 65536).toNat, (a3 % 65536).toNat, (a3 / 65536 % 65536).toNat, (a3 / 4294967296 % 65536).toNat, (a3 / 281474976710656 % 65536).toNat]
theorem tn (x : Int) : (x % 65536).toNat < 65536 := by omega
theorem limb4 {x : Int} (h0 : 0 ≤ x) (h1 : x < 18446744073709551616) : (x % 65536).toNat + 65536 * ((x / 65536 % 65536).toNat + 65536 * ((x / 4294967296 % 65536).toNat + 65536 * (x / 281474976710656 % 65536).toNat)) = x.toNat := by omega
theorem dl16_val {A : Nat} {a0 a1 a2 a3 : Int} (hA : isU A a0 a1 a2 a3) : val (dl16 a0 a1 a2 a3) = A ∧ Digs (dl16 a0 a1 a2 a3) := by
  obtain ⟨p0, p1, p2, p3, q0, q1, q2, q3, v⟩ := hA
  have hv : A = a0.toNat + 18446744073709551616 * a1.toNat + 340282366920938463463374607431768211456 * a2.toNat + 6277101735386680763835789423207666416102355444464034512896 * a3.toNat := by omega
  have h0 := limb4 p0 q0
  have h1 := limb4 p1 q1
  have h2 := limb4 p2 q2
  have h3 := limb4 p3 q3
  rw [hv, ← h0, ← h1, ← h2, ← h3]
  clear hv h0 h1 h2 h3 v p0 p1 p2 p3 q0 q1 q2 q3
  constructor
  · simp only [dl16, val]
    generalize (a0 % 65536).toNat = x0 at *
    generalize (a0 / 65536 % 65536).toNat = x1 at *
    generalize (a0 / 4294967296 % 65536).toNat = x2 at *
    generalize (a0 / 281474976710656 % 65536).toNat = x3 at *
    generalize (a1 % 65536).toNat = y0 at *
    generalize (a1 / 65536 % 65536).toNat = y1 at *
    generalize (a1 / 4294967296 % 65536).toNat = y2 at *
    generalize (a1 / 281474976710656 % 65536).toNat = y3 at *
    generalize (a2 % 65536).toNat = z0 at *
    generalize (a2 / 65536 % 65536).toNat = z1 at *
    generalize (a2 / 4294967296 % 65536).toNat = z2 at *
    generalize (a2 / 281474976710656 % 65536).toNat = z3 at *
    generalize (a3 % 65536).toNat = u0 at *
    generalize (a3 / 65536 % 65536).toNat = u1 at *
    generalize (a3 / 4294967296 % 65536).toNat = u2 at *
    generalize (a3 / 281474976710656 % 65536).toNat = u3 at *
    omega
  · unfold Digs dl16
    rw [List.forall_mem_cons, List.forall_mem_cons, List.forall_mem_cons, List.forall_mem_cons, List.forall_mem_cons, List.forall_mem_cons, List.forall_mem_cons, List.forall_mem_cons, List.forall_mem_cons, List.forall_mem_cons, List.forall_mem_cons, List.forall_mem_cons, List.forall_mem_cons, List.forall_mem_cons, List.forall_mem_cons, List.forall_mem_cons]
    exact ⟨tn _, tn _, tn _, tn _, tn _, tn _, tn _, tn _, tn _, tn _, tn _, tn _, tn _, tn _, tn _, tn _, fun d hd => by simp at hd⟩
theorem dl16_cells {A : Nat} {a0 a1 a2 a3 : Int} (hA : isU A a0 a1 a2 a3) : ((dl16 a0 a1 a2 a3).map fun d : Nat => Value.int .i64 (d : Int)).toArray = #[.int .i64 (a0 % 65536), .int .i64 (a0 / 65536 % 65536), .int .i64 (a0 / 4294967296 % 65536), .int .i64 (a0 / 281474976710656 % 65536), .int .i64 (a1 % 65536), .int .i64 (a1 / 65536 % 65536), .int .i64 (a1 / 4294967296 % 65536), .int .i64 (a1 / 281474976710656 % 65536), .int .i64 (a2 % 65536), .int .i64 (a2 / 65536 % 65536), .int .i64 (a2 / 4294967296 % 65536), .int .i64 (a2 / 281474976710656 % 65536), .int .i64 (a3 % 65536), .int .i64 (a3 / 65536 % 65536), .int .i64 (a3 / 4294967296 % 65536), .int .i64 (a3 / 281474976710656 % 65536)] := by
  obtain ⟨p0, p1, p2, p3, q0, q1, q2, q3, v⟩ := hA
  simp only [dl16, List.map_cons, List.map_nil]
  rw [Int.toNat_of_nonneg (show 0 ≤ a0 % 65536 by omega), Int.toNat_of_nonneg (show 0 ≤ a0 / 65536 % 65536 by omega), Int.toNat_of_nonneg (show 0 ≤ a0 / 4294967296 % 65536 by omega), Int.toNat_of_nonneg (show 0 ≤ a0 / 281474976710656 % 65536 by omega), Int.toNat_of_nonneg (show 0 ≤ a1 % 65536 by omega), Int.toNat_of_nonneg (show 0 ≤ a1 / 65536 % 65536 by omega), Int.toNat_of_nonneg (show 0 ≤ a1 / 4294967296 % 65536 by omega), Int.toNat_of_nonneg (show 0 ≤ a1 / 281474976710656 % 65536 by omega), Int.toNat_of_nonneg (show 0 ≤ a2 % 65536 by omega), Int.toNat_of_nonneg (show 0 ≤ a2 / 65536 % 65536 by omega), Int.toNat_of_nonneg (show 0 ≤ a2 / 4294967296 % 65536 by omega), Int.toNat_of_nonneg (show 0 ≤ a2 / 281474976710656 % 65536 by omega), Int.toNat_of_nonneg (show 0 ≤ a3 % 65536 by omega), Int.toNat_of_nonneg (show 0 ≤ a3 / 65536 % 65536 by omega), Int.toNat_of_nonneg (show 0 ≤ a3 / 4294967296 % 65536 by omega), Int.toNat_of_nonneg (show 0 ≤ a3 / 281474976710656 % 65536 by omega)]
set_option maxHeartbeats 4000000 in
set_option maxRecDepth 100000 in
theorem from256_c {A : Nat} {a0 a1 a2 a3 : Int} (hA : isU A a0 a1 a2 a3) (w : World) :
    Calls Try.prog 20 #[.agg #[.int .u64 a0, .int .u64 a1, .int .u64 a2, .int .u64 a3]] w fun e w' => ∃ ad n c, e = .returned (.slice ad n c) ∧ Hid (Big w' ad n c A) ∧ n ≤ 16 ∧ Below w.heap.size w w' := by
  have N1 := and_u64
  have hmk := make16
  have V := hide (dl16_val hA)
  have C := hide (dl16_cells hA)
  clear hA
  go_enter Try.func20, Try.ntmps20
  go_wp2
  refine wp_loop_rounds 17 ?_
  rw [rounds_succ]
  go_wp2
  rw [rounds_succ]
  go_wp2
  rw [rounds_succ]
  go_wp2
  rw [rounds_succ]
  go_wp2
  rw [rounds_succ]
  go_wp2
  rw [rounds_succ]
  go_wp2
  rw [rounds_succ]
  go_wp2
  rw [rounds_succ]
  go_wp2
  rw [rounds_succ]
  go_wp2
  rw [rounds_succ]
  go_wp2
  rw [rounds_succ]
  go_wp2
  rw [rounds_succ]
  go_wp2
  rw [rounds_succ]
  go_wp2
  rw [rounds_succ]
  go_wp2
  rw [rounds_succ]
  go_wp2
  rw [rounds_succ]
  go_wp2
  rw [rounds_succ]
  clear N1 hmk
  go_wp2_with fail
  rw [← C.out]
  have HR := hide (Row.alloc (w.alloc (.cells #[.int .u64 a0, .int .u64 a1, .int .u64 a2, .int .u64 a3] 24)) (dl16 a0 a1 a2 a3) 3)
  refine (norm_c V.out.2 _ _ _ rfl (Nat.le_refl _) (by simp [dl16]) _ (by have := HR.out; simpa using this)).mono ?_
  rintro e w1 ⟨rfl, rfl⟩
  rw [V.out.1]
  go_wp2
  go_ret
  have hn : nd A ≤ 16 := by have := nd_le_of (val_lt V.out.2); rwa [V.out.1] at this
  refine ⟨_, _, _, rfl, hide ⟨rfl, hn, ?_⟩, hn, ?_⟩
  · have h1 := norm_row V.out.2
    rw [V.out.1] at h1
    rw [← h1]
    have := HR.out.take (nd A)
    simpa using this
  · exact (by (repeat' (first | (with_reducible exact Below.refl _ _) | (with_reducible assumption) | (with_reducible refine Below.alloc ?_ ?_ _) | (with_reducible refine Below.drew ?_) | (with_reducible refine below_drewN ?_ _) | (with_reducible refine Below.setCell ?_ ?_ _) | (with_reducible refine below_step (by with_reducible assumption) ?_ ?_) | (first | (with_reducible exact Nat.le_refl _) | (with_reducible assumption) | omega | (simp only [World.size_alloc, World.size_setCell, World.size_drew, size_drewN]; omega) | (simp; omega) | (simp; done)))))
end Go.Proofs.Ythikkajjnfeigaa
