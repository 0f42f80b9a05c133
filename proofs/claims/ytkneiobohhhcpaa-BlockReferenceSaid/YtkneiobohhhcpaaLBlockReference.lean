/- The law BlockReference of the given program returns true, whatever its arguments. -/
import Derived.Test.YtkneiobohhhcpaaRows
import Derived.Test.YtkneiobohhhcpaaO
import Derived.Test.YtkneiobohhhcpaaJF
namespace Go.Proofs.Ytkneiobohhhcpaa.blockReference
open Go.ChangeShapes Go.WideShapes Go.ChangeAt Go.RowKit
set_option linter.unusedVariables false
theorem own : ownKnob Try.prog.godebug = none := by kernel_rfl
theorem laid : laidOutB Try.prog = true := by kernel_rfl
theorem opens_t22 : Opens Try.prog 22 [some .u64] := opens_int Try.underlying22
theorem opens_t25 : Opens Try.prog 25 [some .u64, some .u64, some .u64, some .u64] := opens_array (n := 4) Try.underlying25 opens_t22 (by kernel_rfl) (by kernel_rfl)
theorem opens_t30 : Opens Try.prog 30 [some .u64, some .u64, some .u64, some .u64, some .u64, some .u64, some .u64] := opens_struct (kss := [[some .u64], [some .u64], [some .u64], [some .u64, some .u64, some .u64, some .u64]]) Try.underlying30 ⟨rfl, by kernel_rfl, opens_t22, rfl, by kernel_rfl, opens_t22, rfl, by kernel_rfl, opens_t22, rfl, by kernel_rfl, opens_t25, trivial⟩ (by kernel_rfl)
theorem opens_t27 : Opens Try.prog 27 [some .u64, some .u64, some .u64, some .u64, some .u64, some .u64, some .u64, some .u64, some .u64, some .u64, some .u64, some .u64, some .u64, some .u64, some .u64, some .u64, some .u64, some .u64, some .u64, some .u64, some .u64] := opens_struct (kss := [[some .u64], [some .u64], [some .u64], [some .u64, some .u64, some .u64, some .u64], [some .u64], [some .u64, some .u64, some .u64, some .u64], [some .u64], [some .u64, some .u64, some .u64, some .u64], [some .u64], [some .u64], [some .u64], [some .u64]]) Try.underlying27 ⟨rfl, by kernel_rfl, opens_t22, rfl, by kernel_rfl, opens_t22, rfl, by kernel_rfl, opens_t22, rfl, by kernel_rfl, opens_t25, rfl, by kernel_rfl, opens_t22, rfl, by kernel_rfl, opens_t25, rfl, by kernel_rfl, opens_t22, rfl, by kernel_rfl, opens_t25, rfl, by kernel_rfl, opens_t22, rfl, by kernel_rfl, opens_t22, rfl, by kernel_rfl, opens_t22, rfl, by kernel_rfl, opens_t22, trivial⟩ (by kernel_rfl)
theorem opens_t23 : Opens Try.prog 23 [some .u64, some .u64, some .u64, some .u64, some .u64, some .u64, some .u64, some .u64] := opens_array (n := 8) Try.underlying23 opens_t22 (by kernel_rfl) (by kernel_rfl)
set_option maxRecDepth 100000 in
theorem lifted (os : Os) (started : os.Started) (H : Type) (enc : TypeId × Value → H) :
    ReturnsInHanded {} Try.checked os 4 .any (Rows.blockReferenceSpec.pre6 enc Try.prog Try.f4 Rows.blockReferenceRow.domain false) (Rows.blockReferenceSpec.post enc Try.prog Try.f4 false true false false) := by
  refine returnsInHanded_of_change (C := Try.checked) own started (by kernel_rfl) Try.func4
    (ChangeSpec.witness6 (enc := enc) (C := Try.checked) false ⟨#[], #[.agg #[.int .u64 0, .int .u64 0, .int .u64 0, .int .u64 0, .int .u64 0, .int .u64 0, .int .u64 0], .agg #[.int .u64 0, .int .u64 0, .int .u64 0, .int .u64 0, .int .u64 0, .int .u64 0, .int .u64 0, .int .u64 0, .int .u64 0, .int .u64 0, .int .u64 0, .int .u64 0, .int .u64 0, .int .u64 0, .int .u64 0, .int .u64 0, .int .u64 0, .int .u64 0, .int .u64 0, .int .u64 0, .int .u64 0], .agg #[.int .u64 0, .int .u64 0, .int .u64 0, .int .u64 0, .int .u64 0, .int .u64 0, .int .u64 0, .int .u64 0], .int .u64 0, .int .u64 0, .int .u64 0], []⟩ 8 (by kernel_rfl) (by kernel_rfl) (by kernel_rfl) (by kernel_rfl)) ?_
  intro W base args ds gs before hval0 hW hcnd _
  have hval : ∀ (j : Nat) t v, Try.f4.params[j]? = some t → args[j]? = some v → Value.okWide Try.prog W .any base t v := hval0
  have hW' := hW
  obtain ⟨p, q, hA0, hV, rfl, hfz, hnd⟩ := hW
  have hA : DataW.TrodAll enc Try.prog W 0 (fun _ => true) true Try.f4.params.toList args.toList ds p := hA0
  rw [Try.params4] at hA hval
  obtain ⟨rfl, rfl⟩ := trodVars_none hV
  obtain ⟨v0, vs0, d0, ds0, p0, q0, hargs, rfl, rfl, h0, r0⟩ := trodAll_cons hA
  obtain ⟨v1, vs1, d1, ds1, p1, q1, rfl, rfl, rfl, h1, r1⟩ := trodAll_cons r0
  obtain ⟨v2, vs2, d2, ds2, p2, q2, rfl, rfl, rfl, h2, r2⟩ := trodAll_cons r1
  obtain ⟨v3, vs3, d3, ds3, p3, q3, rfl, rfl, rfl, h3, r3⟩ := trodAll_cons r2
  obtain ⟨v4, vs4, d4, ds4, p4, q4, rfl, rfl, rfl, h4, r4⟩ := trodAll_cons r3
  obtain ⟨v5, vs5, d5, ds5, p5, q5, rfl, rfl, rfl, h5, r5⟩ := trodAll_cons r4
  obtain ⟨rfl, rfl, rfl⟩ := trodAll_nil r5
  obtain rfl : args = #[v0, v1, v2, v3, v4, v5] := by cases args; simp_all
  have fin : ∀ e W', e = Ending.returned (.bool true) ∧ Below W.heap.size W W' → ∃ v, e = .returned v ∧ Rows.blockReferenceSpec.post enc Try.prog Try.f4 false true false false W #[v0, v1, v2, v3, v4, v5] v W' := by
    rintro e W' ⟨rfl, hb⟩
    exact ⟨_, rfl, law_post laid (by rw [Try.params4]; exact of_decide_eq_true (by kernel_rfl)) rfl rfl Try.underlying4 rfl hW' hb⟩
  clear hW' hA0 hval0
  obtain ⟨cs0, rfl, hl0⟩ := agg_leaves (.inl ⟨_, Try.underlying30⟩) (hval 0 30 v0 rfl rfl) opens_t30 h0
  obtain ⟨a0_0, r0_0, rfl, w0_0, g0_0⟩ := leaf_int hl0
  obtain ⟨a0_1, r0_1, rfl, w0_1, g0_1⟩ := leaf_int g0_0
  obtain ⟨a0_2, r0_2, rfl, w0_2, g0_2⟩ := leaf_int g0_1
  obtain ⟨a0_3, r0_3, rfl, w0_3, g0_3⟩ := leaf_int g0_2
  obtain ⟨a0_4, r0_4, rfl, w0_4, g0_4⟩ := leaf_int g0_3
  obtain ⟨a0_5, r0_5, rfl, w0_5, g0_5⟩ := leaf_int g0_4
  obtain ⟨a0_6, r0_6, rfl, w0_6, g0_6⟩ := leaf_int g0_5
  obtain rfl := g0_6
  obtain ⟨cs1, rfl, hl1⟩ := agg_leaves (.inl ⟨_, Try.underlying27⟩) (hval 1 27 v1 rfl rfl) opens_t27 h1
  obtain ⟨a1_0, r1_0, rfl, w1_0, g1_0⟩ := leaf_int hl1
  obtain ⟨a1_1, r1_1, rfl, w1_1, g1_1⟩ := leaf_int g1_0
  obtain ⟨a1_2, r1_2, rfl, w1_2, g1_2⟩ := leaf_int g1_1
  obtain ⟨a1_3, r1_3, rfl, w1_3, g1_3⟩ := leaf_int g1_2
  obtain ⟨a1_4, r1_4, rfl, w1_4, g1_4⟩ := leaf_int g1_3
  obtain ⟨a1_5, r1_5, rfl, w1_5, g1_5⟩ := leaf_int g1_4
  obtain ⟨a1_6, r1_6, rfl, w1_6, g1_6⟩ := leaf_int g1_5
  obtain ⟨a1_7, r1_7, rfl, w1_7, g1_7⟩ := leaf_int g1_6
  obtain ⟨a1_8, r1_8, rfl, w1_8, g1_8⟩ := leaf_int g1_7
  obtain ⟨a1_9, r1_9, rfl, w1_9, g1_9⟩ := leaf_int g1_8
  obtain ⟨a1_10, r1_10, rfl, w1_10, g1_10⟩ := leaf_int g1_9
  obtain ⟨a1_11, r1_11, rfl, w1_11, g1_11⟩ := leaf_int g1_10
  obtain ⟨a1_12, r1_12, rfl, w1_12, g1_12⟩ := leaf_int g1_11
  obtain ⟨a1_13, r1_13, rfl, w1_13, g1_13⟩ := leaf_int g1_12
  obtain ⟨a1_14, r1_14, rfl, w1_14, g1_14⟩ := leaf_int g1_13
  obtain ⟨a1_15, r1_15, rfl, w1_15, g1_15⟩ := leaf_int g1_14
  obtain ⟨a1_16, r1_16, rfl, w1_16, g1_16⟩ := leaf_int g1_15
  obtain ⟨a1_17, r1_17, rfl, w1_17, g1_17⟩ := leaf_int g1_16
  obtain ⟨a1_18, r1_18, rfl, w1_18, g1_18⟩ := leaf_int g1_17
  obtain ⟨a1_19, r1_19, rfl, w1_19, g1_19⟩ := leaf_int g1_18
  obtain ⟨a1_20, r1_20, rfl, w1_20, g1_20⟩ := leaf_int g1_19
  obtain rfl := g1_20
  obtain ⟨cs2, rfl, hl2⟩ := agg_leaves (.inr ⟨_, _, Try.underlying23⟩) (hval 2 23 v2 rfl rfl) opens_t23 h2
  obtain ⟨a2_0, r2_0, rfl, w2_0, g2_0⟩ := leaf_int hl2
  obtain ⟨a2_1, r2_1, rfl, w2_1, g2_1⟩ := leaf_int g2_0
  obtain ⟨a2_2, r2_2, rfl, w2_2, g2_2⟩ := leaf_int g2_1
  obtain ⟨a2_3, r2_3, rfl, w2_3, g2_3⟩ := leaf_int g2_2
  obtain ⟨a2_4, r2_4, rfl, w2_4, g2_4⟩ := leaf_int g2_3
  obtain ⟨a2_5, r2_5, rfl, w2_5, g2_5⟩ := leaf_int g2_4
  obtain ⟨a2_6, r2_6, rfl, w2_6, g2_6⟩ := leaf_int g2_5
  obtain ⟨a2_7, r2_7, rfl, w2_7, g2_7⟩ := leaf_int g2_6
  obtain rfl := g2_7
  obtain ⟨a3, rfl, rfl, rfl, w3⟩ := open_int Try.underlying22 (hval 3 22 v3 rfl rfl) h3
  obtain ⟨a4, rfl, rfl, rfl, w4⟩ := open_int Try.underlying22 (hval 4 22 v4 rfl rfl) h4
  obtain ⟨a5, rfl, rfl, rfl, w5⟩ := open_int Try.underlying22 (hval 5 22 v5 rfl rfl) h5
  exact (BlockReference_walk a0_0 a0_1 a0_2 a0_3 a0_4 a0_5 a0_6 a1_0 a1_1 a1_2 a1_3 a1_4 a1_5 a1_6 a1_7 a1_8 a1_9 a1_10 a1_11 a1_12 a1_13 a1_14 a1_15 a1_16 a1_17 a1_18 a1_19 a1_20 a2_0 a2_1 a2_2 a2_3 a2_4 a2_5 a2_6 a2_7 a3 a4 a5 w0_0 w0_1 w0_2 w0_3 w0_4 w0_5 w0_6 w1_0 w1_1 w1_2 w1_3 w1_4 w1_5 w1_6 w1_7 w1_8 w1_9 w1_10 w1_11 w1_12 w1_13 w1_14 w1_15 w1_16 w1_17 w1_18 w1_19 w1_20 w2_0 w2_1 w2_2 w2_3 w2_4 w2_5 w2_6 w2_7 w3 w4 w5 W ).mono fin
theorem over : Rows.blockReferenceRow.holds Try.pinned (OpenSpec.ofChange Rows.blockReferenceSpec) :=
  OpenClaim.holds_of_wide 4 Try.f4 rfl rfl rfl rfl rfl rfl rfl ⟨rfl, rfl, rfl, rfl, rfl⟩ rfl rfl rfl rfl rfl (by kernel_rfl) Try.func4 (by kernel_rfl)
    (of_decide_eq_true (by kernel_rfl)) (by unfold Func.isWrapper; first | (rw [if_pos (by decide +kernel)]; kernel_rfl) | (rw [if_neg (by decide +kernel)]; exact ⟨rfl, rfl⟩))
    (fun os started H enc _ => lifted os started H enc)
/-- The statement. -/
theorem proved : Rows.BlockReferenceSaid :=
  over
#print axioms proved
end Go.Proofs.Ytkneiobohhhcpaa.blockReference
