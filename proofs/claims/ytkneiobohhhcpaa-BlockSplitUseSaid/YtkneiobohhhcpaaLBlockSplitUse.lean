/- The law BlockSplitUse of the given program returns true, whatever its arguments. -/
import Derived.Test.YtkneiobohhhcpaaRows
import Derived.Test.YtkneiobohhhcpaaO
import Derived.Test.YtkneiobohhhcpaaG5
namespace Go.Proofs.Ytkneiobohhhcpaa.blockSplitUse
open Go.ChangeShapes Go.WideShapes Go.ChangeAt Go.RowKit
set_option linter.unusedVariables false
theorem own : ownKnob Try.prog.godebug = none := by kernel_rfl
theorem laid : laidOutB Try.prog = true := by kernel_rfl
theorem opens_t22 : Opens Try.prog 22 [some .u64] := opens_int Try.underlying22
theorem opens_t23 : Opens Try.prog 23 [some .u64, some .u64, some .u64, some .u64, some .u64, some .u64, some .u64, some .u64] := opens_array (n := 8) Try.underlying23 opens_t22 (by kernel_rfl) (by kernel_rfl)
set_option maxRecDepth 100000 in
theorem lifted (os : Os) (started : os.Started) (H : Type) (enc : TypeId × Value → H) :
    ReturnsInHanded {} Try.checked os 3 .any (Rows.blockSplitUseSpec.pre6 enc Try.prog Try.f3 Rows.blockSplitUseRow.domain false) (Rows.blockSplitUseSpec.post enc Try.prog Try.f3 false true false false) := by
  refine returnsInHanded_of_change (C := Try.checked) own started (by kernel_rfl) Try.func3
    (ChangeSpec.witness6 (enc := enc) (C := Try.checked) false ⟨#[], #[.agg #[.int .u64 0, .int .u64 0, .int .u64 0, .int .u64 0, .int .u64 0, .int .u64 0, .int .u64 0, .int .u64 0], .int .u64 0, .int .u64 0, .int .u64 0], []⟩ 8 (by kernel_rfl) (by kernel_rfl) (by kernel_rfl) (by kernel_rfl)) ?_
  intro W base args ds gs before hval0 hW hcnd _
  have hval : ∀ (j : Nat) t v, Try.f3.params[j]? = some t → args[j]? = some v → Value.okWide Try.prog W .any base t v := hval0
  have hW' := hW
  obtain ⟨p, q, hA0, hV, rfl, hfz, hnd⟩ := hW
  have hA : DataW.TrodAll enc Try.prog W 0 (fun _ => true) true Try.f3.params.toList args.toList ds p := hA0
  rw [Try.params3] at hA hval
  obtain ⟨rfl, rfl⟩ := trodVars_none hV
  obtain ⟨v0, vs0, d0, ds0, p0, q0, hargs, rfl, rfl, h0, r0⟩ := trodAll_cons hA
  obtain ⟨v1, vs1, d1, ds1, p1, q1, rfl, rfl, rfl, h1, r1⟩ := trodAll_cons r0
  obtain ⟨v2, vs2, d2, ds2, p2, q2, rfl, rfl, rfl, h2, r2⟩ := trodAll_cons r1
  obtain ⟨v3, vs3, d3, ds3, p3, q3, rfl, rfl, rfl, h3, r3⟩ := trodAll_cons r2
  obtain ⟨rfl, rfl, rfl⟩ := trodAll_nil r3
  obtain rfl : args = #[v0, v1, v2, v3] := by cases args; simp_all
  have fin : ∀ e W', e = Ending.returned (.bool true) ∧ Below W.heap.size W W' → ∃ v, e = .returned v ∧ Rows.blockSplitUseSpec.post enc Try.prog Try.f3 false true false false W #[v0, v1, v2, v3] v W' := by
    rintro e W' ⟨rfl, hb⟩
    exact ⟨_, rfl, law_post laid (by rw [Try.params3]; exact of_decide_eq_true (by kernel_rfl)) rfl rfl Try.underlying4 rfl hW' hb⟩
  clear hW' hA0 hval0
  obtain ⟨cs0, rfl, hl0⟩ := agg_leaves (.inr ⟨_, _, Try.underlying23⟩) (hval 0 23 v0 rfl rfl) opens_t23 h0
  obtain ⟨a0_0, r0_0, rfl, w0_0, g0_0⟩ := leaf_int hl0
  obtain ⟨a0_1, r0_1, rfl, w0_1, g0_1⟩ := leaf_int g0_0
  obtain ⟨a0_2, r0_2, rfl, w0_2, g0_2⟩ := leaf_int g0_1
  obtain ⟨a0_3, r0_3, rfl, w0_3, g0_3⟩ := leaf_int g0_2
  obtain ⟨a0_4, r0_4, rfl, w0_4, g0_4⟩ := leaf_int g0_3
  obtain ⟨a0_5, r0_5, rfl, w0_5, g0_5⟩ := leaf_int g0_4
  obtain ⟨a0_6, r0_6, rfl, w0_6, g0_6⟩ := leaf_int g0_5
  obtain ⟨a0_7, r0_7, rfl, w0_7, g0_7⟩ := leaf_int g0_6
  obtain rfl := g0_7
  obtain ⟨a1, rfl, rfl, rfl, w1⟩ := open_int Try.underlying22 (hval 1 22 v1 rfl rfl) h1
  obtain ⟨a2, rfl, rfl, rfl, w2⟩ := open_int Try.underlying22 (hval 2 22 v2 rfl rfl) h2
  obtain ⟨a3, rfl, rfl, rfl, w3⟩ := open_int Try.underlying22 (hval 3 22 v3 rfl rfl) h3
  exact (BlockSplitUse_walk a0_0 a0_1 a0_2 a0_3 a0_4 a0_5 a0_6 a0_7 a1 a2 a3 w0_0 w0_1 w0_2 w0_3 w0_4 w0_5 w0_6 w0_7 w1 w2 w3 W ).mono fin
theorem over : Rows.blockSplitUseRow.holds Try.pinned (OpenSpec.ofChange Rows.blockSplitUseSpec) :=
  OpenClaim.holds_of_wide 3 Try.f3 rfl rfl rfl rfl rfl rfl rfl ⟨rfl, rfl, rfl, rfl, rfl⟩ rfl rfl rfl rfl rfl (by kernel_rfl) Try.func3 (by kernel_rfl)
    (of_decide_eq_true (by kernel_rfl)) (by unfold Func.isWrapper; first | (rw [if_pos (by decide +kernel)]; kernel_rfl) | (rw [if_neg (by decide +kernel)]; exact ⟨rfl, rfl⟩))
    (fun os started H enc _ => lifted os started H enc)
/-- The statement. -/
theorem proved : Rows.BlockSplitUseSaid :=
  over
#print axioms proved
end Go.Proofs.Ytkneiobohhhcpaa.blockSplitUse
