/- muldiv.Mul, walked: both halves of the product. -/
import Derived.WalkKit
import Derived.KernelRfl
import Derived.RowKit3
import Derived.Deep.LoopGhost
import Derived.Deep.QuietTactic
import Derived.BigQuiet
import Derived.WideLaws
import Derived.Laws.Rows
import Derived.Below
import Derived.Deep.Draws
import Derived.Outline
import Derived.LoopN
import Derived.Handy
import Derived.Laws.Externs
import Derived.Laws.BitsAllLaws
import Derived.Laws.BitsLemmas
import Derived.Deep.DeepCutAuto
import Derived.Deep.CutBlock
import Derived.Deep.RegionHeld3
import Derived.Test.YtkneiobohhhcpaaUM
import Derived.Laws.CopyOwn
namespace Go.Proofs.Ytkneiobohhhcpaa
open Go.RowKit
set_option linter.unusedVariables false
set_option linter.unusedSimpArgs false
def loV (A B : Nat) : Nat := A * B % M256
def hiV (A B : Nat) : Nat := A * B / M256
theorem loV_lt (A B : Nat) : loV A B < M256 := Nat.mod_lt _ (by decide)
theorem hiV_lt {A B : Nat} (hA : A < M256) (hB : B < M256) : hiV A B < M256 := by
  unfold hiV
  refine Nat.div_lt_of_lt_mul ?_
  exact Nat.mul_lt_mul_of_lt_of_lt hA hB
section
variable {A B : Nat} {a0 a1 a2 a3 b0 b1 b2 b3 : Int} (hA : isU A a0 a1 a2 a3) (hB : isU B b0 b1 b2 b3)
include hA hB
theorem prod_limbs {s0_0 c0_0 s0_1 c0_1 s0_2 c0_2 s0_3 c0_3 s1_1 c1_0 s1_2 c1_1 s1_3 c1_2 s1_4 c1_3 s2_2 c2_0 s2_3 c2_1 s2_4 c2_2 s2_5 c2_3 s3_3 c3_0 s3_4 c3_1 s3_5 c3_2 s3_6 c3_3 : Int} (x0_0 : 0 ≤ s0_0) (y0_0 : s0_0 < 18446744073709551616) (z0_0 : 0 ≤ c0_0) (v0_0 : c0_0 < 18446744073709551616) (e0_0 : s0_0 + 18446744073709551616 * c0_0 = 0 + a0 * b0 + 0) (x0_1 : 0 ≤ s0_1) (y0_1 : s0_1 < 18446744073709551616) (z0_1 : 0 ≤ c0_1) (v0_1 : c0_1 < 18446744073709551616) (e0_1 : s0_1 + 18446744073709551616 * c0_1 = 0 + a0 * b1 + c0_0) (x0_2 : 0 ≤ s0_2) (y0_2 : s0_2 < 18446744073709551616) (z0_2 : 0 ≤ c0_2) (v0_2 : c0_2 < 18446744073709551616) (e0_2 : s0_2 + 18446744073709551616 * c0_2 = 0 + a0 * b2 + c0_1) (x0_3 : 0 ≤ s0_3) (y0_3 : s0_3 < 18446744073709551616) (z0_3 : 0 ≤ c0_3) (v0_3 : c0_3 < 18446744073709551616) (e0_3 : s0_3 + 18446744073709551616 * c0_3 = 0 + a0 * b3 + c0_2) (x1_0 : 0 ≤ s1_1) (y1_0 : s1_1 < 18446744073709551616) (z1_0 : 0 ≤ c1_0) (v1_0 : c1_0 < 18446744073709551616) (e1_0 : s1_1 + 18446744073709551616 * c1_0 = s0_1 + a1 * b0 + 0) (x1_1 : 0 ≤ s1_2) (y1_1 : s1_2 < 18446744073709551616) (z1_1 : 0 ≤ c1_1) (v1_1 : c1_1 < 18446744073709551616) (e1_1 : s1_2 + 18446744073709551616 * c1_1 = s0_2 + a1 * b1 + c1_0) (x1_2 : 0 ≤ s1_3) (y1_2 : s1_3 < 18446744073709551616) (z1_2 : 0 ≤ c1_2) (v1_2 : c1_2 < 18446744073709551616) (e1_2 : s1_3 + 18446744073709551616 * c1_2 = s0_3 + a1 * b2 + c1_1) (x1_3 : 0 ≤ s1_4) (y1_3 : s1_4 < 18446744073709551616) (z1_3 : 0 ≤ c1_3) (v1_3 : c1_3 < 18446744073709551616) (e1_3 : s1_4 + 18446744073709551616 * c1_3 = c0_3 + a1 * b3 + c1_2) (x2_0 : 0 ≤ s2_2) (y2_0 : s2_2 < 18446744073709551616) (z2_0 : 0 ≤ c2_0) (v2_0 : c2_0 < 18446744073709551616) (e2_0 : s2_2 + 18446744073709551616 * c2_0 = s1_2 + a2 * b0 + 0) (x2_1 : 0 ≤ s2_3) (y2_1 : s2_3 < 18446744073709551616) (z2_1 : 0 ≤ c2_1) (v2_1 : c2_1 < 18446744073709551616) (e2_1 : s2_3 + 18446744073709551616 * c2_1 = s1_3 + a2 * b1 + c2_0) (x2_2 : 0 ≤ s2_4) (y2_2 : s2_4 < 18446744073709551616) (z2_2 : 0 ≤ c2_2) (v2_2 : c2_2 < 18446744073709551616) (e2_2 : s2_4 + 18446744073709551616 * c2_2 = s1_4 + a2 * b2 + c2_1) (x2_3 : 0 ≤ s2_5) (y2_3 : s2_5 < 18446744073709551616) (z2_3 : 0 ≤ c2_3) (v2_3 : c2_3 < 18446744073709551616) (e2_3 : s2_5 + 18446744073709551616 * c2_3 = c1_3 + a2 * b3 + c2_2) (x3_0 : 0 ≤ s3_3) (y3_0 : s3_3 < 18446744073709551616) (z3_0 : 0 ≤ c3_0) (v3_0 : c3_0 < 18446744073709551616) (e3_0 : s3_3 + 18446744073709551616 * c3_0 = s2_3 + a3 * b0 + 0) (x3_1 : 0 ≤ s3_4) (y3_1 : s3_4 < 18446744073709551616) (z3_1 : 0 ≤ c3_1) (v3_1 : c3_1 < 18446744073709551616) (e3_1 : s3_4 + 18446744073709551616 * c3_1 = s2_4 + a3 * b1 + c3_0) (x3_2 : 0 ≤ s3_5) (y3_2 : s3_5 < 18446744073709551616) (z3_2 : 0 ≤ c3_2) (v3_2 : c3_2 < 18446744073709551616) (e3_2 : s3_5 + 18446744073709551616 * c3_2 = s2_5 + a3 * b2 + c3_1) (x3_3 : 0 ≤ s3_6) (y3_3 : s3_6 < 18446744073709551616) (z3_3 : 0 ≤ c3_3) (v3_3 : c3_3 < 18446744073709551616) (e3_3 : s3_6 + 18446744073709551616 * c3_3 = c2_3 + a3 * b3 + c3_2) : isU (loV A B) s0_0 s1_1 s2_2 s3_3 ∧ isU (hiV A B) s3_4 s3_5 s3_6 c3_3 := by
  obtain ⟨e, n00, n01, n02, n03, n10, n11, n12, n13, n20, n21, n22, n23, n30, n31, n32, n33⟩ := mul_sum hA hB
  clear hA hB
  generalize a0 * b0 = m00 at *
  generalize a0 * b1 = m01 at *
  generalize a0 * b2 = m02 at *
  generalize a0 * b3 = m03 at *
  generalize a1 * b0 = m10 at *
  generalize a1 * b1 = m11 at *
  generalize a1 * b2 = m12 at *
  generalize a1 * b3 = m13 at *
  generalize a2 * b0 = m20 at *
  generalize a2 * b1 = m21 at *
  generalize a2 * b2 = m22 at *
  generalize a2 * b3 = m23 at *
  generalize a3 * b0 = m30 at *
  generalize a3 * b1 = m31 at *
  generalize a3 * b2 = m32 at *
  generalize a3 * b3 = m33 at *
  have R0 : 1 * s0_0 + 18446744073709551616 * s0_1 + 340282366920938463463374607431768211456 * s0_2 + 6277101735386680763835789423207666416102355444464034512896 * s0_3 + 115792089237316195423570985008687907853269984665640564039457584007913129639936 * c0_3 = 1 * 0 + 18446744073709551616 * 0 + 340282366920938463463374607431768211456 * 0 + 6277101735386680763835789423207666416102355444464034512896 * 0 + 1 * m00 + 18446744073709551616 * m01 + 340282366920938463463374607431768211456 * m02 + 6277101735386680763835789423207666416102355444464034512896 * m03 := by clear e1_0 e1_1 e1_2 e1_3 e2_0 e2_1 e2_2 e2_3 e3_0 e3_1 e3_2 e3_3 e n00 n01 n02 n03 n10 n11 n12 n13 n20 n21 n22 n23 n30 n31 n32 n33 x0_0 y0_0 z0_0 v0_0 x0_1 y0_1 z0_1 v0_1 x0_2 y0_2 z0_2 v0_2 x0_3 y0_3 z0_3 v0_3 x1_0 y1_0 z1_0 v1_0 x1_1 y1_1 z1_1 v1_1 x1_2 y1_2 z1_2 v1_2 x1_3 y1_3 z1_3 v1_3 x2_0 y2_0 z2_0 v2_0 x2_1 y2_1 z2_1 v2_1 x2_2 y2_2 z2_2 v2_2 x2_3 y2_3 z2_3 v2_3 x3_0 y3_0 z3_0 v3_0 x3_1 y3_1 z3_1 v3_1 x3_2 y3_2 z3_2 v3_2 x3_3 y3_3 z3_3 v3_3; omega
  have R1 : 1 * s1_1 + 18446744073709551616 * s1_2 + 340282366920938463463374607431768211456 * s1_3 + 6277101735386680763835789423207666416102355444464034512896 * s1_4 + 115792089237316195423570985008687907853269984665640564039457584007913129639936 * c1_3 = 1 * s0_1 + 18446744073709551616 * s0_2 + 340282366920938463463374607431768211456 * s0_3 + 6277101735386680763835789423207666416102355444464034512896 * c0_3 + 1 * m10 + 18446744073709551616 * m11 + 340282366920938463463374607431768211456 * m12 + 6277101735386680763835789423207666416102355444464034512896 * m13 := by clear e0_0 e0_1 e0_2 e0_3 e2_0 e2_1 e2_2 e2_3 e3_0 e3_1 e3_2 e3_3 e n00 n01 n02 n03 n10 n11 n12 n13 n20 n21 n22 n23 n30 n31 n32 n33 x0_0 y0_0 z0_0 v0_0 x0_1 y0_1 z0_1 v0_1 x0_2 y0_2 z0_2 v0_2 x0_3 y0_3 z0_3 v0_3 x1_0 y1_0 z1_0 v1_0 x1_1 y1_1 z1_1 v1_1 x1_2 y1_2 z1_2 v1_2 x1_3 y1_3 z1_3 v1_3 x2_0 y2_0 z2_0 v2_0 x2_1 y2_1 z2_1 v2_1 x2_2 y2_2 z2_2 v2_2 x2_3 y2_3 z2_3 v2_3 x3_0 y3_0 z3_0 v3_0 x3_1 y3_1 z3_1 v3_1 x3_2 y3_2 z3_2 v3_2 x3_3 y3_3 z3_3 v3_3; omega
  have R2 : 1 * s2_2 + 18446744073709551616 * s2_3 + 340282366920938463463374607431768211456 * s2_4 + 6277101735386680763835789423207666416102355444464034512896 * s2_5 + 115792089237316195423570985008687907853269984665640564039457584007913129639936 * c2_3 = 1 * s1_2 + 18446744073709551616 * s1_3 + 340282366920938463463374607431768211456 * s1_4 + 6277101735386680763835789423207666416102355444464034512896 * c1_3 + 1 * m20 + 18446744073709551616 * m21 + 340282366920938463463374607431768211456 * m22 + 6277101735386680763835789423207666416102355444464034512896 * m23 := by clear e0_0 e0_1 e0_2 e0_3 e1_0 e1_1 e1_2 e1_3 e3_0 e3_1 e3_2 e3_3 e n00 n01 n02 n03 n10 n11 n12 n13 n20 n21 n22 n23 n30 n31 n32 n33 x0_0 y0_0 z0_0 v0_0 x0_1 y0_1 z0_1 v0_1 x0_2 y0_2 z0_2 v0_2 x0_3 y0_3 z0_3 v0_3 x1_0 y1_0 z1_0 v1_0 x1_1 y1_1 z1_1 v1_1 x1_2 y1_2 z1_2 v1_2 x1_3 y1_3 z1_3 v1_3 x2_0 y2_0 z2_0 v2_0 x2_1 y2_1 z2_1 v2_1 x2_2 y2_2 z2_2 v2_2 x2_3 y2_3 z2_3 v2_3 x3_0 y3_0 z3_0 v3_0 x3_1 y3_1 z3_1 v3_1 x3_2 y3_2 z3_2 v3_2 x3_3 y3_3 z3_3 v3_3; omega
  have R3 : 1 * s3_3 + 18446744073709551616 * s3_4 + 340282366920938463463374607431768211456 * s3_5 + 6277101735386680763835789423207666416102355444464034512896 * s3_6 + 115792089237316195423570985008687907853269984665640564039457584007913129639936 * c3_3 = 1 * s2_3 + 18446744073709551616 * s2_4 + 340282366920938463463374607431768211456 * s2_5 + 6277101735386680763835789423207666416102355444464034512896 * c2_3 + 1 * m30 + 18446744073709551616 * m31 + 340282366920938463463374607431768211456 * m32 + 6277101735386680763835789423207666416102355444464034512896 * m33 := by clear e0_0 e0_1 e0_2 e0_3 e1_0 e1_1 e1_2 e1_3 e2_0 e2_1 e2_2 e2_3 e n00 n01 n02 n03 n10 n11 n12 n13 n20 n21 n22 n23 n30 n31 n32 n33 x0_0 y0_0 z0_0 v0_0 x0_1 y0_1 z0_1 v0_1 x0_2 y0_2 z0_2 v0_2 x0_3 y0_3 z0_3 v0_3 x1_0 y1_0 z1_0 v1_0 x1_1 y1_1 z1_1 v1_1 x1_2 y1_2 z1_2 v1_2 x1_3 y1_3 z1_3 v1_3 x2_0 y2_0 z2_0 v2_0 x2_1 y2_1 z2_1 v2_1 x2_2 y2_2 z2_2 v2_2 x2_3 y2_3 z2_3 v2_3 x3_0 y3_0 z3_0 v3_0 x3_1 y3_1 z3_1 v3_1 x3_2 y3_2 z3_2 v3_2 x3_3 y3_3 z3_3 v3_3; omega
  have key : ((A * B : Nat) : Int) = 1 * s0_0 + 18446744073709551616 * s1_1 + 340282366920938463463374607431768211456 * s2_2 + 6277101735386680763835789423207666416102355444464034512896 * s3_3 + 115792089237316195423570985008687907853269984665640564039457584007913129639936 * s3_4 + 2135987035920910082395021706169552114602704522356652769947041607822219725780640550022962086936576 * s3_5 + 39402006196394479212279040100143613805079739270465446667948293404245721771497210611414266254884915640806627990306816 * s3_6 + 726838724295606890549323807888004534353641360687318060281490199180639288113397923326191050713763565560762521606266177933534601628614656 * c3_3 := by clear e0_0 e0_1 e0_2 e0_3 e1_0 e1_1 e1_2 e1_3 e2_0 e2_1 e2_2 e2_3 e3_0 e3_1 e3_2 e3_3 x0_0 y0_0 z0_0 v0_0 x0_1 y0_1 z0_1 v0_1 x0_2 y0_2 z0_2 v0_2 x0_3 y0_3 z0_3 v0_3 x1_0 y1_0 z1_0 v1_0 x1_1 y1_1 z1_1 v1_1 x1_2 y1_2 z1_2 v1_2 x1_3 y1_3 z1_3 v1_3 x2_0 y2_0 z2_0 v2_0 x2_1 y2_1 z2_1 v2_1 x2_2 y2_2 z2_2 v2_2 x2_3 y2_3 z2_3 v2_3 x3_0 y3_0 z3_0 v3_0 x3_1 y3_1 z3_1 v3_1 x3_2 y3_2 z3_2 v3_2 x3_3 y3_3 z3_3 v3_3 n00 n01 n02 n03 n10 n11 n12 n13 n20 n21 n22 n23 n30 n31 n32 n33; omega
  clear e e0_0 e0_1 e0_2 e0_3 e1_0 e1_1 e1_2 e1_3 e2_0 e2_1 e2_2 e2_3 e3_0 e3_1 e3_2 e3_3 n00 n01 n02 n03 n10 n11 n12 n13 n20 n21 n22 n23 n30 n31 n32 n33 R0 R1 R2 R3
  clear x0_1 y0_1 z0_1 v0_1 x0_2 y0_2 z0_2 v0_2 x0_3 y0_3 z0_3 v0_3 x1_1 y1_1 z1_1 v1_1 x1_2 y1_2 z1_2 v1_2 x1_3 y1_3 z1_3 v1_3 x2_1 y2_1 z2_1 v2_1 x2_2 y2_2 z2_2 v2_2 x2_3 y2_3 z2_3 v2_3
  unfold loV hiV M256
  generalize A * B = N at *
  constructor <;> constructor <;> first | assumption | omega
end
theorem cell_of_heap {W : World} {g : Nat} {cs : Array Value} {t : TypeId} {fr : Nat × Nat} (h : W.heap[g]? = some (.cells cs t fr)) (i : Nat) : W.cell? ⟨g, i, none⟩ = cs[i]? := by simp [World.cell?, h]
theorem froz_of_heap {W : World} {g : Nat} {cs : Array Value} {t : TypeId} (h : W.heap[g]? = some (.cells cs t (0, 0))) (i : Nat) : W.frozen? ⟨g, i, none⟩ = false := by simp [World.frozen?, h]
open Go in
/-- copy: four cells over a row of four: the other blocks stay. -/
theorem step_copy4 {P : Program} {ops : Array Oper} {o : Oper} {a : Act} {w : World} {K : Act → World → Prop} {Q : Exit → Act → World → Prop} {E : Prop} (d s : Operand) (dT sT : TypeId) (elem : TypeId) (hgd : o.guard = none)
    (ho : o.op = .call { callee := .builtin .copy, args := #[d, s], argTypes := #[dT, sT] }) (hu : P.underlying dT = some (.slice elem)) (hsz : (P.info? elem).map (·.size) = some 1)
    (g g2 off sCap : Nat) (hd : a.eval d = .slice (some ⟨g, 0, none⟩) 4 4) (hs : a.eval s = .slice (some ⟨g2, off, none⟩) 4 sCap)
    (y0 y1 y2 y3 x0 x1 x2 x3 : Int) (t t2 : TypeId) (fr : Nat × Nat) (cs2 : Array Value) (hg : w.heap[g]? = some (.cells #[.int .u64 y0, .int .u64 y1, .int .u64 y2, .int .u64 y3] t (0, 0)))
    (hg2 : w.heap[g2]? = some (.cells cs2 t2 fr)) (e0 : cs2[off]? = some (.int .u64 x0)) (e1 : cs2[off + 1]? = some (.int .u64 x1)) (e2 : cs2[off + 2]? = some (.int .u64 x2)) (e3 : cs2[off + 3]? = some (.int .u64 x3))
    (B : Nat) (w0 : World) (hb : Below B w0 w) (hBg : B ≤ g)
    (h : ∀ w', w'.heap[g]? = some (.cells #[.int .u64 x0, .int .u64 x1, .int .u64 x2, .int .u64 x3] t (0, 0)) → (∀ k, k ≠ g → w'.heap[k]? = w.heap[k]?) → Below B w0 w' → K (a.put o.dst (goInt 4)) w') :
    if Region.wanted o (yielded ops a.tmps) = true then Oper.wp P o a w K Q else E := by
  have hw : Region.wanted o (yielded ops a.tmps) = true := by simp [Region.wanted, hgd]
  rw [if_pos hw]
  have hrun := run_copy_row (P := P) w dT sT o.type elem g 0 4 4 ⟨g2, off, none⟩ 4 sCap #[.int .u64 y0, .int .u64 y1, .int .u64 y2, .int .u64 y3] t [.int .u64 x0, .int .u64 x1, .int .u64 x2, .int .u64 x3] hu hsz hg rfl (by
    intro j v hj
    rw [show (⟨g2, off, none⟩ : Addr).add j = ⟨g2, off + j, none⟩ by simp [Addr.add]]
    rw [cell_of_heap hg2]
    rcases j with _ | _ | _ | _ | j
    · rw [Nat.add_zero, e0]; exact hj
    · rw [e1]; exact hj
    · rw [e2]; exact hj
    · rw [e3]; exact hj
    · simp at hj) (by simp) (by intro v hv; simp at hv; rcases hv with rfl | rfl | rfl | rfl <;> rfl)
  unfold Oper.wp
  simp [execOp, ho, resolve, invoke, builtin, hd, hs, hrun, Result.andThen]
  exact h _ (by rw [setRow_heap w g _ _ t _ hg]) (fun k hk => setRow_other w g k _ hk) (below_setRow hb hBg _)
theorem heap_set {W : World} {g i : Nat} {cs : Array Value} {t : TypeId} {fr : Nat × Nat} {v : Value} (h : W.heap[g]? = some (.cells cs t fr)) : (W.setCell ⟨g, i, none⟩ v).heap[g]? = some (.cells (cs.setIfInBounds i v) t fr) := by
  simp only [World.setCell, Array.getElem?_modify, if_true]
  rw [h]
  rfl
theorem heap_far {W : World} {b g i : Nat} {v : Value} {o : Option Obj} (h : W.heap[g]? = o) (hn : b ≠ g) : (W.setCell ⟨b, i, none⟩ v).heap[g]? = o := by
  rw [← h]
  simp [World.setCell, Array.getElem?_modify, hn]
theorem heap_drewN {W : World} {g n : Nat} {o : Option Obj} (h : W.heap[g]? = o) : (W.drewN n).heap[g]? = o := h
theorem heap_alloc_old {W : World} {g : Nat} {o x : Obj} (h : W.heap[g]? = some o) : (W.alloc x).heap[g]? = some o := by
  have hg : g < W.heap.size := by
    rcases Nat.lt_or_ge g W.heap.size with h' | h'
    · exact h'
    · rw [Array.getElem?_eq_none h'] at h; cases h
  show (W.heap.push x)[g]? = _
  rw [Array.getElem?_push, if_neg (by omega)]
  exact h
theorem heap_alloc_new {W : World} {g : Nat} {x : Obj} (h : W.heap.size = g) : (W.alloc x).heap[g]? = some x := by
  subst h
  show (W.heap.push x)[W.heap.size]? = _
  simp
theorem heap_cells {W : World} {g : Nat} {cs ds : Array Value} {t : TypeId} {fr : Nat × Nat} (h : W.heap[g]? = some (.cells cs t fr)) (e : cs = ds) : W.heap[g]? = some (.cells ds t fr) := e ▸ h
theorem cut_world {f : World → Prop} {W : World} (H : World → Prop) (h1 : H W) (h2 : ∀ W', H W' → f W') : f W := h2 W h1
end Go.Proofs.Ytkneiobohhhcpaa
