/- The law ParamsValidity of the given program returns true, whatever its arguments. -/
import Derived.Test.YtbnpgecpanfpiaaRows
import Derived.Test.YtbnpgecpanfpiaaO
import Derived.Test.YtbnpgecpanfpiaaPT
namespace Go.Proofs.Ytbnpgecpanfpiaa.paramsValidity
open Go.ChangeShapes Go.WideShapes Go.ChangeAt Go.RowKit
set_option linter.unusedVariables false
theorem own : ownKnob Try.prog.godebug = none := by kernel_rfl
theorem laid : laidOutB Try.prog = true := by kernel_rfl
theorem opens_t22 : Opens Try.prog 22 [some .u64] := opens_int Try.underlying22
theorem opens_t24 : Opens Try.prog 24 [some .u64, some .u64, some .u64, some .u64] := opens_array (n := 4) Try.underlying24 opens_t22 (by kernel_rfl) (by kernel_rfl)
theorem opens_t26 : Opens Try.prog 26 [some .u64, some .u64, some .u64, some .u64, some .u64, some .u64, some .u64, some .u64, some .u64, some .u64, some .u64, some .u64, some .u64, some .u64, some .u64, some .u64, some .u64, some .u64, some .u64, some .u64, some .u64] := opens_struct (kss := [[some .u64], [some .u64], [some .u64], [some .u64, some .u64, some .u64, some .u64], [some .u64], [some .u64, some .u64, some .u64, some .u64], [some .u64], [some .u64, some .u64, some .u64, some .u64], [some .u64], [some .u64], [some .u64], [some .u64]]) Try.underlying26 ⟨rfl, by kernel_rfl, opens_t22, rfl, by kernel_rfl, opens_t22, rfl, by kernel_rfl, opens_t22, rfl, by kernel_rfl, opens_t24, rfl, by kernel_rfl, opens_t22, rfl, by kernel_rfl, opens_t24, rfl, by kernel_rfl, opens_t22, rfl, by kernel_rfl, opens_t24, rfl, by kernel_rfl, opens_t22, rfl, by kernel_rfl, opens_t22, rfl, by kernel_rfl, opens_t22, rfl, by kernel_rfl, opens_t22, trivial⟩ (by kernel_rfl)
set_option maxRecDepth 100000 in
theorem lifted (os : Os) (started : os.Started) (H : Type) (enc : TypeId × Value → H) :
    ReturnsInHanded {} Try.checked os 3 .any (Rows.paramsValiditySpec.pre6 enc Try.prog Try.f3 Rows.paramsValidityRow.domain false) (Rows.paramsValiditySpec.post enc Try.prog Try.f3 false true false false) := by
  refine returnsInHanded_of_change (C := Try.checked) own started (by kernel_rfl) Try.func3
    (ChangeSpec.witness6 (enc := enc) (C := Try.checked) false ⟨#[], #[.agg #[.int .u64 0, .int .u64 0, .int .u64 0, .int .u64 0, .int .u64 0, .int .u64 0, .int .u64 0, .int .u64 0, .int .u64 0, .int .u64 0, .int .u64 0, .int .u64 0, .int .u64 0, .int .u64 0, .int .u64 0, .int .u64 0, .int .u64 0, .int .u64 0, .int .u64 0, .int .u64 0, .int .u64 0], .int .i64 0], []⟩ 8 (by kernel_rfl) (by kernel_rfl) (by kernel_rfl) (by kernel_rfl)) ?_
  intro W base args ds gs before hval0 hW hcnd _
  have hval : ∀ (j : Nat) t v, Try.f3.params[j]? = some t → args[j]? = some v → Value.okWide Try.prog W .any base t v := hval0
  have hW' := hW
  obtain ⟨p, q, hA0, hV, rfl, hfz, hnd⟩ := hW
  have hA : DataW.TrodAll enc Try.prog W 0 (fun _ => true) true Try.f3.params.toList args.toList ds p := hA0
  rw [Try.params3] at hA hval
  obtain ⟨rfl, rfl⟩ := trodVars_none hV
  obtain ⟨v0, vs0, d0, ds0, p0, q0, hargs, rfl, rfl, h0, r0⟩ := trodAll_cons hA
  obtain ⟨v1, vs1, d1, ds1, p1, q1, rfl, rfl, rfl, h1, r1⟩ := trodAll_cons r0
  obtain ⟨rfl, rfl, rfl⟩ := trodAll_nil r1
  obtain rfl : args = #[v0, v1] := by cases args; simp_all
  have fin : ∀ e W', e = Ending.returned (.bool true) ∧ Below W.heap.size W W' → ∃ v, e = .returned v ∧ Rows.paramsValiditySpec.post enc Try.prog Try.f3 false true false false W #[v0, v1] v W' := by
    rintro e W' ⟨rfl, hb⟩
    exact ⟨_, rfl, law_post laid (by rw [Try.params3]; exact of_decide_eq_true (by kernel_rfl)) rfl rfl Try.underlying4 rfl hW' hb⟩
  clear hW' hA0 hval0
  obtain ⟨cs0, rfl, hl0⟩ := agg_leaves (.inl ⟨_, Try.underlying26⟩) (hval 0 26 v0 rfl rfl) opens_t26 h0
  obtain ⟨a0_0, r0_0, rfl, w0_0, g0_0⟩ := leaf_int hl0
  obtain ⟨a0_1, r0_1, rfl, w0_1, g0_1⟩ := leaf_int g0_0
  obtain ⟨a0_2, r0_2, rfl, w0_2, g0_2⟩ := leaf_int g0_1
  obtain ⟨a0_3, r0_3, rfl, w0_3, g0_3⟩ := leaf_int g0_2
  obtain ⟨a0_4, r0_4, rfl, w0_4, g0_4⟩ := leaf_int g0_3
  obtain ⟨a0_5, r0_5, rfl, w0_5, g0_5⟩ := leaf_int g0_4
  obtain ⟨a0_6, r0_6, rfl, w0_6, g0_6⟩ := leaf_int g0_5
  obtain ⟨a0_7, r0_7, rfl, w0_7, g0_7⟩ := leaf_int g0_6
  obtain ⟨a0_8, r0_8, rfl, w0_8, g0_8⟩ := leaf_int g0_7
  obtain ⟨a0_9, r0_9, rfl, w0_9, g0_9⟩ := leaf_int g0_8
  obtain ⟨a0_10, r0_10, rfl, w0_10, g0_10⟩ := leaf_int g0_9
  obtain ⟨a0_11, r0_11, rfl, w0_11, g0_11⟩ := leaf_int g0_10
  obtain ⟨a0_12, r0_12, rfl, w0_12, g0_12⟩ := leaf_int g0_11
  obtain ⟨a0_13, r0_13, rfl, w0_13, g0_13⟩ := leaf_int g0_12
  obtain ⟨a0_14, r0_14, rfl, w0_14, g0_14⟩ := leaf_int g0_13
  obtain ⟨a0_15, r0_15, rfl, w0_15, g0_15⟩ := leaf_int g0_14
  obtain ⟨a0_16, r0_16, rfl, w0_16, g0_16⟩ := leaf_int g0_15
  obtain ⟨a0_17, r0_17, rfl, w0_17, g0_17⟩ := leaf_int g0_16
  obtain ⟨a0_18, r0_18, rfl, w0_18, g0_18⟩ := leaf_int g0_17
  obtain ⟨a0_19, r0_19, rfl, w0_19, g0_19⟩ := leaf_int g0_18
  obtain ⟨a0_20, r0_20, rfl, w0_20, g0_20⟩ := leaf_int g0_19
  obtain rfl := g0_20
  obtain ⟨a1, rfl, rfl, rfl, w1⟩ := open_int Try.underlying3 (hval 1 3 v1 rfl rfl) h1
  exact (ParamsValidity_walk a0_0 a0_1 a0_2 a0_3 a0_4 a0_5 a0_6 a0_7 a0_8 a0_9 a0_10 a0_11 a0_12 a0_13 a0_14 a0_15 a0_16 a0_17 a0_18 a0_19 a0_20 a1 w0_0 w0_1 w0_2 w0_3 w0_4 w0_5 w0_6 w0_7 w0_8 w0_9 w0_10 w0_11 w0_12 w0_13 w0_14 w0_15 w0_16 w0_17 w0_18 w0_19 w0_20 w1 W ).mono fin
theorem over : Rows.paramsValidityRow.holds Try.pinned (OpenSpec.ofChange Rows.paramsValiditySpec) :=
  OpenClaim.holds_of_wide 3 Try.f3 rfl rfl rfl rfl rfl rfl rfl ⟨rfl, rfl, rfl, rfl, rfl⟩ rfl rfl rfl rfl rfl (by kernel_rfl) Try.func3 (by kernel_rfl)
    (of_decide_eq_true (by kernel_rfl)) (by unfold Func.isWrapper; first | (rw [if_pos (by decide +kernel)]; kernel_rfl) | (rw [if_neg (by decide +kernel)]; exact ⟨rfl, rfl⟩))
    (fun os started H enc _ => lifted os started H enc)
/-- The statement. -/
theorem proved : Rows.ParamsValiditySaid :=
  over
#print axioms proved
end Go.Proofs.Ytbnpgecpanfpiaa.paramsValidity
