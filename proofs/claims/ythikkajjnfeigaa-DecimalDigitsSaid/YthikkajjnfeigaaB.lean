/- Plain lemmas: a 256-bit number as four limbs; the numbers that the functions answer. -/
import Derived.Below
import Derived.Deep.Draws
import Derived.Calls
import Derived.WalkKit
import Derived.Deep.QuietTactic
namespace Go.Proofs.Ythikkajjnfeigaa
open Go.RowKit
/-- A fact kept from the walk. -/
theorem hide {p : Prop} (h : p) : Hid p := h
theorem ret_int {k : IntKind} {a b : Int} (h : a = b) : Ending.returned (.int k a) = .returned (.int k b) := by rw [h]
theorem below_drewN {B : Nat} {a w : World} (h : Below B a w) (n : Nat) : Below B a (w.drewN n) := ⟨h.os, h.tape, h.output, h.size, h.block⟩
theorem size_drewN (w : World) (n : Nat) : (w.drewN n).heap.size = w.heap.size := rfl
theorem below_step {B : Nat} {a W w1 : World} (h : Below W.heap.size W w1) (hB : B ≤ W.heap.size) (k : Below B a W) : Below B a w1 := k.trans (h.mono hB)
/-- What a call that lays new blocks alone leaves: the old cells, the old marks, the heap's size. -/
theorem bcell {W w1 : World} (hb : Below W.heap.size W w1) : (∀ b o, b < W.heap.size → w1.cell? ⟨b, o, none⟩ = W.cell? ⟨b, o, none⟩) ∧ (∀ b o, b < W.heap.size → w1.frozen? ⟨b, o, none⟩ = W.frozen? ⟨b, o, none⟩) :=
  ⟨fun b o h => hb.cell (p := ⟨b, o, none⟩) h, fun b o h => hb.frozen (p := ⟨b, o, none⟩) h⟩
/-- A quiet call behind earlier draws. -/
theorem quiet_add_same {P : Program} {f : FuncId} {args : Array Value} {w : World} {a n : Nat} {v : Value}
    (h : Calls P f args (w.drewN (a + n)) fun e w' => e = .returned v ∧ w' = w.drewN (a + n)) :
    Calls P f args (w.drewN (a + n)) fun e w'' => e = .returned v ∧ ∃ m, w'' = w.drewN (a + m) :=
  h.mono fun _ _ ⟨he, hm⟩ => ⟨he, n, hm⟩
/-- Block g begins with these four cells, which are not frozen. -/
structure Box (w : World) (g : Nat) (a0 a1 a2 a3 : Int) : Prop where
  c0 : w.cell? ⟨g, 0, none⟩ = some (.int .u64 a0)
  c1 : w.cell? ⟨g, 1, none⟩ = some (.int .u64 a1)
  c2 : w.cell? ⟨g, 2, none⟩ = some (.int .u64 a2)
  c3 : w.cell? ⟨g, 3, none⟩ = some (.int .u64 a3)
  f0 : w.frozen? ⟨g, 0, none⟩ = false
  f1 : w.frozen? ⟨g, 1, none⟩ = false
  f2 : w.frozen? ⟨g, 2, none⟩ = false
  f3 : w.frozen? ⟨g, 3, none⟩ = false
  lt : g < w.heap.size
theorem Box.new (w : World) (a0 a1 a2 a3 : Int) (t : TypeId) : Box (w.alloc (.cells #[.int .u64 a0, .int .u64 a1, .int .u64 a2, .int .u64 a3] t)) w.heap.size a0 a1 a2 a3 := by
  constructor <;> simp [go_sem]
theorem Box.below {w w' : World} {g B : Nat} {a0 a1 a2 a3 : Int} (h : Box w g a0 a1 a2 a3) (hb : Below B w w') (hg : g < B) : Box w' g a0 a1 a2 a3 := by
  obtain ⟨c0, c1, c2, c3, f0, f1, f2, f3, lt⟩ := h
  exact ⟨(hb.cell (p := ⟨g, 0, none⟩) hg).trans c0, (hb.cell (p := ⟨g, 1, none⟩) hg).trans c1, (hb.cell (p := ⟨g, 2, none⟩) hg).trans c2, (hb.cell (p := ⟨g, 3, none⟩) hg).trans c3,
    (hb.frozen (p := ⟨g, 0, none⟩) hg).trans f0, (hb.frozen (p := ⟨g, 1, none⟩) hg).trans f1, (hb.frozen (p := ⟨g, 2, none⟩) hg).trans f2, (hb.frozen (p := ⟨g, 3, none⟩) hg).trans f3, Nat.lt_of_lt_of_le lt hb.size⟩
theorem Box.alloc {w : World} {g : Nat} {a0 a1 a2 a3 : Int} (h : Box w g a0 a1 a2 a3) (o : Obj) : Box (w.alloc o) g a0 a1 a2 a3 := h.below ((Below.refl w.heap.size w).alloc (Nat.le_refl _) o) h.lt
theorem Box.drewN {w : World} {g : Nat} {a0 a1 a2 a3 : Int} (h : Box w g a0 a1 a2 a3) (n : Nat) : Box (w.drewN n) g a0 a1 a2 a3 := h.below (below_drewN (Below.refl w.heap.size w) n) h.lt
theorem Box.drew {w : World} {g : Nat} {a0 a1 a2 a3 : Int} (h : Box w g a0 a1 a2 a3) : Box w.drew g a0 a1 a2 a3 := h.below ((Below.refl w.heap.size w).drew) h.lt
theorem Box.put {w : World} {g : Nat} {a0 a1 a2 a3 : Int} (h : Box w g a0 a1 a2 a3) (b0 b1 b2 b3 : Int) :
    Box ((((w.setCell ⟨g, 0, none⟩ (.int .u64 b0)).setCell ⟨g, 1, none⟩ (.int .u64 b1)).setCell ⟨g, 2, none⟩ (.int .u64 b2)).setCell ⟨g, 3, none⟩ (.int .u64 b3)) g b0 b1 b2 b3 := by
  obtain ⟨c0, c1, c2, c3, f0, f1, f2, f3, lt⟩ := h
  constructor <;> simp [go_sem, *]
theorem Box.other {w : World} {g : Nat} {a0 a1 a2 a3 : Int} (h : Box w g a0 a1 a2 a3) {p : Addr} (hp : p.block ≠ g) (v : Value) : Box (w.setCell p v) g a0 a1 a2 a3 := by
  obtain ⟨c0, c1, c2, c3, f0, f1, f2, f3, lt⟩ := h
  have e : (w.setCell p v).heap[g]? = w.heap[g]? := Below.heap_setCell w p v g (fun e => hp e.symm)
  have cc : ∀ o, (w.setCell p v).cell? ⟨g, o, none⟩ = w.cell? ⟨g, o, none⟩ := fun o => World.cell?_of_block e
  have ff : ∀ o, (w.setCell p v).frozen? ⟨g, o, none⟩ = w.frozen? ⟨g, o, none⟩ := fun o => by simp only [World.frozen?, e]
  exact ⟨(cc 0).trans c0, (cc 1).trans c1, (cc 2).trans c2, (cc 3).trans c3, (ff 0).trans f0, (ff 1).trans f1, (ff 2).trans f2, (ff 3).trans f3, by simpa [World.setCell] using lt⟩
/-- Limb i of A. -/
def lim (A i : Nat) : Int := ((A / 18446744073709551616 ^ i % 18446744073709551616 : Nat) : Int)
theorem lim0 (A : Nat) : lim A 0 = ((A % 18446744073709551616 : Nat) : Int) := by simp [lim]
theorem lim1 (A : Nat) : lim A 1 = ((A / 18446744073709551616 % 18446744073709551616 : Nat) : Int) := by simp [lim]
theorem lim2 (A : Nat) : lim A 2 = ((A / 340282366920938463463374607431768211456 % 18446744073709551616 : Nat) : Int) := by simp [lim]
theorem lim3 (A : Nat) : lim A 3 = ((A / 6277101735386680763835789423207666416102355444464034512896 % 18446744073709551616 : Nat) : Int) := by simp [lim]
theorem lim_zero (i : Nat) : lim 0 i = 0 := by simp [lim]
theorem lim_nonneg (A i : Nat) : 0 ≤ lim A i := by unfold lim; exact Int.natCast_nonneg _
theorem lim_lt (A i : Nat) : lim A i < 18446744073709551616 := by unfold lim; omega
/-- 2^256. -/
def M256 : Nat := 115792089237316195423570985008687907853269984665640564039457584007913129639936
/-- The four limbs stand for A. -/
structure isU (A : Nat) (a0 a1 a2 a3 : Int) : Prop where
  p0 : 0 ≤ a0
  p1 : 0 ≤ a1
  p2 : 0 ≤ a2
  p3 : 0 ≤ a3
  q0 : a0 < 18446744073709551616
  q1 : a1 < 18446744073709551616
  q2 : a2 < 18446744073709551616
  q3 : a3 < 18446744073709551616
  val : (A : Int) = a0 + 18446744073709551616 * a1 + 340282366920938463463374607431768211456 * a2 + 6277101735386680763835789423207666416102355444464034512896 * a3
theorem isU.lt {A : Nat} {a0 a1 a2 a3 : Int} (h : isU A a0 a1 a2 a3) : A < M256 := by
  obtain ⟨p0, p1, p2, p3, q0, q1, q2, q3, v⟩ := h
  unfold M256
  omega
theorem isU.lims {A : Nat} {a0 a1 a2 a3 : Int} (h : isU A a0 a1 a2 a3) : a0 = lim A 0 ∧ a1 = lim A 1 ∧ a2 = lim A 2 ∧ a3 = lim A 3 := by
  obtain ⟨p0, p1, p2, p3, q0, q1, q2, q3, v⟩ := h
  rw [lim0, lim1, lim2, lim3]
  omega
theorem isU_lim {A : Nat} (h : A < M256) : isU A (lim A 0) (lim A 1) (lim A 2) (lim A 3) := by
  unfold M256 at h
  rw [lim0, lim1, lim2, lim3]
  constructor <;> omega
/-- A number of one limb. -/
theorem isU_one {n : Int} (h0 : 0 ≤ n) (h : n < 18446744073709551616) : isU n.toNat n 0 0 0 := by
  constructor <;> omega
theorem isU_ex {a0 a1 a2 a3 : Int} (p0 : 0 ≤ a0) (p1 : 0 ≤ a1) (p2 : 0 ≤ a2) (p3 : 0 ≤ a3) (q0 : a0 < 18446744073709551616) (q1 : a1 < 18446744073709551616) (q2 : a2 < 18446744073709551616) (q3 : a3 < 18446744073709551616) : ∃ A : Nat, isU A a0 a1 a2 a3 :=
  ⟨(a0 + 18446744073709551616 * a1 + 340282366920938463463374607431768211456 * a2 + 6277101735386680763835789423207666416102355444464034512896 * a3).toNat, p0, p1, p2, p3, q0, q1, q2, q3, by omega⟩
/-- The value of a 256-bit number. -/
def uv (A : Nat) : Value := .agg #[.int .u64 (lim A 0), .int .u64 (lim A 1), .int .u64 (lim A 2), .int .u64 (lim A 3)]
theorem uv_of {A : Nat} {a0 a1 a2 a3 : Int} (h : isU A a0 a1 a2 a3) : (Value.agg #[.int .u64 a0, .int .u64 a1, .int .u64 a2, .int .u64 a3]) = uv A := by
  obtain ⟨h0, h1, h2, h3⟩ := h.lims
  rw [uv, ← h0, ← h1, ← h2, ← h3]
/-! The numbers that package uint256 answers. -/
def cmpV (A B : Nat) : Int := if A < B then -1 else if B < A then 1 else 0
def addV (A B : Nat) : Nat := if A + B < M256 then A + B else 0
def addE (A B : Nat) : Int := if A + B < M256 then 0 else 4
def subV (A B : Nat) : Nat := if A < B then 0 else A - B
def subE (A B : Nat) : Int := if A < B then 4 else 0
def mulV (A B : Nat) : Nat := if A * B < M256 then A * B else 0
def mulE (A B : Nat) : Int := if A * B < M256 then 0 else 4
def satV (A B : Nat) : Nat := if A + B < M256 then A + B else M256 - 1
def satM (A B : Nat) : Nat := if A * B < M256 then A * B else M256 - 1
theorem addV_lt (A B : Nat) : addV A B < M256 := by unfold addV; split <;> first | assumption | decide
theorem mulV_lt (A B : Nat) : mulV A B < M256 := by unfold mulV; split <;> first | assumption | decide
theorem satV_lt (A B : Nat) : satV A B < M256 := by unfold satV; split <;> first | assumption | decide
theorem satM_lt (A B : Nat) : satM A B < M256 := by unfold satM; split <;> first | assumption | decide
theorem subV_lt {A : Nat} (B : Nat) (h : A < M256) : subV A B < M256 := by unfold subV; split <;> omega
/-! One limb's sum with carry, difference with borrow. -/
def sm (x y c : Int) : Int := (x + y + c) % 18446744073709551616
def cy (x y c : Int) : Int := (x + y + c) / 18446744073709551616
theorem cy_le {x y c : Int} (hx : 0 ≤ x) (hy : 0 ≤ y) (h0 : 0 ≤ c) (hx : x < 18446744073709551616) (hy : y < 18446744073709551616) (hc : c ≤ 1) : 0 ≤ cy x y c ∧ cy x y c ≤ 1 := by unfold cy; omega
theorem smcy (x y c : Int) : 0 ≤ sm x y c ∧ sm x y c < 18446744073709551616 ∧ sm x y c + 18446744073709551616 * cy x y c = x + y + c := by unfold sm cy; omega
def df (x y c : Int) : Int := (x + 18446744073709551616 - y - c) % 18446744073709551616
def bw (x y c : Int) : Int := if x < y + c then 1 else 0
theorem bw_le (x y c : Int) : 0 ≤ bw x y c ∧ bw x y c ≤ 1 := by unfold bw; split <;> omega
theorem dfbw {x y c : Int} (hx : 0 ≤ x) (hy : 0 ≤ y) (h0 : 0 ≤ c) (hx' : x < 18446744073709551616) (hy' : y < 18446744073709551616) (hc : c ≤ 1) : 0 ≤ df x y c ∧ df x y c < 18446744073709551616 ∧ df x y c = x - y - c + 18446744073709551616 * bw x y c := by unfold df bw; split <;> omega
section
variable {A B : Nat} {a0 a1 a2 a3 b0 b1 b2 b3 : Int} (hA : isU A a0 a1 a2 a3) (hB : isU B b0 b1 b2 b3)
include hA hB
theorem add_limbs :
    0 ≤ cy a0 b0 0 ∧ cy a0 b0 0 ≤ 1 ∧ 0 ≤ cy a1 b1 (cy a0 b0 0) ∧ cy a1 b1 (cy a0 b0 0) ≤ 1 ∧ 0 ≤ cy a2 b2 (cy a1 b1 (cy a0 b0 0)) ∧ cy a2 b2 (cy a1 b1 (cy a0 b0 0)) ≤ 1 ∧ 0 ≤ cy a3 b3 (cy a2 b2 (cy a1 b1 (cy a0 b0 0))) ∧ cy a3 b3 (cy a2 b2 (cy a1 b1 (cy a0 b0 0))) ≤ 1 := by
  obtain ⟨p0, p1, p2, p3, q0, q1, q2, q3, v⟩ := hA; obtain ⟨r0, r1, r2, r3, s0, s1, s2, s3, u⟩ := hB
  obtain ⟨c0, d0⟩ := cy_le (c := 0) p0 r0 (by omega) q0 s0 (by omega)
  obtain ⟨c1, d1⟩ := cy_le p1 r1 c0 q1 s1 d0
  obtain ⟨c2, d2⟩ := cy_le p2 r2 c1 q2 s2 d1
  obtain ⟨c3, d3⟩ := cy_le p3 r3 c2 q3 s3 d2
  exact ⟨c0, d0, c1, d1, c2, d2, c3, d3⟩
theorem add_val (hc : cy a3 b3 (cy a2 b2 (cy a1 b1 (cy a0 b0 0))) = 0) :
    addV A B = A + B ∧ addE A B = 0 ∧ isU (A + B) (sm a0 b0 0) (sm a1 b1 (cy a0 b0 0)) (sm a2 b2 (cy a1 b1 (cy a0 b0 0))) (sm a3 b3 (cy a2 b2 (cy a1 b1 (cy a0 b0 0)))) := by
  obtain ⟨c0, d0, c1, d1, c2, d2, c3, d3⟩ := add_limbs hA hB
  obtain ⟨p0, p1, p2, p3, q0, q1, q2, q3, v⟩ := hA; obtain ⟨r0, r1, r2, r3, s0, s1, s2, s3, u⟩ := hB
  obtain ⟨x0, y0, z0⟩ := smcy a0 b0 0
  obtain ⟨x1, y1, z1⟩ := smcy a1 b1 (cy a0 b0 0)
  obtain ⟨x2, y2, z2⟩ := smcy a2 b2 (cy a1 b1 (cy a0 b0 0))
  obtain ⟨x3, y3, z3⟩ := smcy a3 b3 (cy a2 b2 (cy a1 b1 (cy a0 b0 0)))
  have hlt : A + B < M256 := by unfold M256; omega
  refine ⟨by rw [addV, if_pos hlt], by rw [addE, if_pos hlt], ?_⟩
  constructor <;> first | assumption | omega
theorem add_over (hc : cy a3 b3 (cy a2 b2 (cy a1 b1 (cy a0 b0 0))) ≠ 0) : addV A B = 0 ∧ addE A B = 4 := by
  obtain ⟨c0, d0, c1, d1, c2, d2, c3, d3⟩ := add_limbs hA hB
  obtain ⟨p0, p1, p2, p3, q0, q1, q2, q3, v⟩ := hA; obtain ⟨r0, r1, r2, r3, s0, s1, s2, s3, u⟩ := hB
  obtain ⟨x0, y0, z0⟩ := smcy a0 b0 0
  obtain ⟨x1, y1, z1⟩ := smcy a1 b1 (cy a0 b0 0)
  obtain ⟨x2, y2, z2⟩ := smcy a2 b2 (cy a1 b1 (cy a0 b0 0))
  obtain ⟨x3, y3, z3⟩ := smcy a3 b3 (cy a2 b2 (cy a1 b1 (cy a0 b0 0)))
  have hlt : ¬ A + B < M256 := by unfold M256; omega
  exact ⟨by rw [addV, if_neg hlt], by rw [addE, if_neg hlt]⟩
theorem sub_limbs : A < B ↔ bw a3 b3 (bw a2 b2 (bw a1 b1 (bw a0 b0 0))) ≠ 0 := by
  obtain ⟨p0, p1, p2, p3, q0, q1, q2, q3, v⟩ := hA; obtain ⟨r0, r1, r2, r3, s0, s1, s2, s3, u⟩ := hB
  obtain ⟨c0, d0⟩ := bw_le a0 b0 0
  obtain ⟨c1, d1⟩ := bw_le a1 b1 (bw a0 b0 0)
  obtain ⟨c2, d2⟩ := bw_le a2 b2 (bw a1 b1 (bw a0 b0 0))
  obtain ⟨c3, d3⟩ := bw_le a3 b3 (bw a2 b2 (bw a1 b1 (bw a0 b0 0)))
  obtain ⟨x0, y0, z0⟩ := dfbw (c := 0) p0 r0 (by omega) q0 s0 (by omega)
  obtain ⟨x1, y1, z1⟩ := dfbw p1 r1 c0 q1 s1 d0
  obtain ⟨x2, y2, z2⟩ := dfbw p2 r2 c1 q2 s2 d1
  obtain ⟨x3, y3, z3⟩ := dfbw p3 r3 c2 q3 s3 d2
  constructor <;> intro h <;> omega
theorem sub_val (hc : bw a3 b3 (bw a2 b2 (bw a1 b1 (bw a0 b0 0))) = 0) :
    subV A B = A - B ∧ subE A B = 0 ∧ isU (A - B) (df a0 b0 0) (df a1 b1 (bw a0 b0 0)) (df a2 b2 (bw a1 b1 (bw a0 b0 0))) (df a3 b3 (bw a2 b2 (bw a1 b1 (bw a0 b0 0)))) := by
  have hlt : ¬ A < B := fun h => (sub_limbs hA hB).1 h hc
  obtain ⟨p0, p1, p2, p3, q0, q1, q2, q3, v⟩ := hA; obtain ⟨r0, r1, r2, r3, s0, s1, s2, s3, u⟩ := hB
  obtain ⟨c0, d0⟩ := bw_le a0 b0 0
  obtain ⟨c1, d1⟩ := bw_le a1 b1 (bw a0 b0 0)
  obtain ⟨c2, d2⟩ := bw_le a2 b2 (bw a1 b1 (bw a0 b0 0))
  obtain ⟨x0, y0, z0⟩ := dfbw (c := 0) p0 r0 (by omega) q0 s0 (by omega)
  obtain ⟨x1, y1, z1⟩ := dfbw p1 r1 c0 q1 s1 d0
  obtain ⟨x2, y2, z2⟩ := dfbw p2 r2 c1 q2 s2 d1
  obtain ⟨x3, y3, z3⟩ := dfbw p3 r3 c2 q3 s3 d2
  refine ⟨by rw [subV, if_neg hlt], by rw [subE, if_neg hlt], ?_⟩
  constructor <;> first | assumption | omega
theorem sub_over (hc : bw a3 b3 (bw a2 b2 (bw a1 b1 (bw a0 b0 0))) ≠ 0) : subV A B = 0 ∧ subE A B = 4 := by
  have hlt : A < B := (sub_limbs hA hB).2 hc
  exact ⟨by rw [subV, if_pos hlt], by rw [subE, if_pos hlt]⟩
end
end Go.Proofs.Ythikkajjnfeigaa
