/- The law BasefeeMonotone of the given program returns true, whatever its arguments. -/
import Derived.Test.YtiebdccdnaceaaaRows
import Derived.Test.YtiebdccdnaceaaaO
import Derived.Test.YtiebdccdnaceaaaF7
namespace Go.Proofs.Ytiebdccdnaceaaa.basefeeMonotone
open Go.ChangeShapes Go.WideShapes Go.ChangeAt Go.RowKit
set_option linter.unusedVariables false
theorem own : ownKnob Try.prog.godebug = none := by kernel_rfl
theorem laid : laidOutB Try.prog = true := by kernel_rfl
theorem opens_t22 : Opens Try.prog 22 [some .u64] := opens_int Try.underlying22
theorem opens_t27 : Opens Try.prog 27 [some .u64, some .u64, some .u64, some .u64, some .u64, some .u64, some .u64, some .u64] := opens_array (n := 8) Try.underlying27 opens_t22 (by kernel_rfl) (by kernel_rfl)
theorem opens_t31 : Opens Try.prog 31 [some .u64, some .u64, some .u64] := opens_array (n := 3) Try.underlying31 opens_t22 (by kernel_rfl) (by kernel_rfl)
set_option maxRecDepth 100000 in
theorem lifted (os : Os) (started : os.Started) (H : Type) (enc : TypeId × Value → H) :
    ReturnsInHanded {} Try.checked os 7 .any (Rows.basefeeMonotoneSpec.pre6 enc Try.prog Try.f7 Rows.basefeeMonotoneRow.domain false) (Rows.basefeeMonotoneSpec.post enc Try.prog Try.f7 false true false false) := by
  refine returnsInHanded_of_change (C := Try.checked) own started (by kernel_rfl) Try.func7
    (ChangeSpec.witness6 (enc := enc) (C := Try.checked) false ⟨#[], #[.int .u64 0, .agg #[.int .u64 0, .int .u64 0, .int .u64 0, .int .u64 0, .int .u64 0, .int .u64 0, .int .u64 0, .int .u64 0], .agg #[.int .u64 0, .int .u64 0, .int .u64 0]], []⟩ 8 (by kernel_rfl) (by kernel_rfl) (by kernel_rfl) (by kernel_rfl)) ?_
  intro W base args ds gs before hval0 hW hcnd _
  have hval : ∀ (j : Nat) t v, Try.f7.params[j]? = some t → args[j]? = some v → Value.okWide Try.prog W .any base t v := hval0
  have hW' := hW
  obtain ⟨p, q, hA0, hV, rfl, hfz, hnd⟩ := hW
  have hA : DataW.TrodAll enc Try.prog W 0 (fun _ => true) true Try.f7.params.toList args.toList ds p := hA0
  rw [Try.params7] at hA hval
  obtain ⟨rfl, rfl⟩ := trodVars_none hV
  obtain ⟨v0, vs0, d0, ds0, p0, q0, hargs, rfl, rfl, h0, r0⟩ := trodAll_cons hA
  obtain ⟨v1, vs1, d1, ds1, p1, q1, rfl, rfl, rfl, h1, r1⟩ := trodAll_cons r0
  obtain ⟨v2, vs2, d2, ds2, p2, q2, rfl, rfl, rfl, h2, r2⟩ := trodAll_cons r1
  obtain ⟨rfl, rfl, rfl⟩ := trodAll_nil r2
  obtain rfl : args = #[v0, v1, v2] := by cases args; simp_all
  have fin : ∀ e W', e = Ending.returned (.bool true) ∧ Below W.heap.size W W' → ∃ v, e = .returned v ∧ Rows.basefeeMonotoneSpec.post enc Try.prog Try.f7 false true false false W #[v0, v1, v2] v W' := by
    rintro e W' ⟨rfl, hb⟩
    exact ⟨_, rfl, law_post laid (by rw [Try.params7]; exact of_decide_eq_true (by kernel_rfl)) rfl rfl Try.underlying4 rfl hW' hb⟩
  clear hW' hA0 hval0
  obtain ⟨a0, rfl, rfl, rfl, w0⟩ := open_int Try.underlying22 (hval 0 22 v0 rfl rfl) h0
  obtain ⟨cs1, rfl, hl1⟩ := agg_leaves (.inr ⟨_, _, Try.underlying27⟩) (hval 1 27 v1 rfl rfl) opens_t27 h1
  obtain ⟨a1_0, r1_0, rfl, w1_0, g1_0⟩ := leaf_int hl1
  obtain ⟨a1_1, r1_1, rfl, w1_1, g1_1⟩ := leaf_int g1_0
  obtain ⟨a1_2, r1_2, rfl, w1_2, g1_2⟩ := leaf_int g1_1
  obtain ⟨a1_3, r1_3, rfl, w1_3, g1_3⟩ := leaf_int g1_2
  obtain ⟨a1_4, r1_4, rfl, w1_4, g1_4⟩ := leaf_int g1_3
  obtain ⟨a1_5, r1_5, rfl, w1_5, g1_5⟩ := leaf_int g1_4
  obtain ⟨a1_6, r1_6, rfl, w1_6, g1_6⟩ := leaf_int g1_5
  obtain ⟨a1_7, r1_7, rfl, w1_7, g1_7⟩ := leaf_int g1_6
  obtain rfl := g1_7
  obtain ⟨cs2, rfl, hl2⟩ := agg_leaves (.inr ⟨_, _, Try.underlying31⟩) (hval 2 31 v2 rfl rfl) opens_t31 h2
  obtain ⟨a2_0, r2_0, rfl, w2_0, g2_0⟩ := leaf_int hl2
  obtain ⟨a2_1, r2_1, rfl, w2_1, g2_1⟩ := leaf_int g2_0
  obtain ⟨a2_2, r2_2, rfl, w2_2, g2_2⟩ := leaf_int g2_1
  obtain rfl := g2_2
  exact (BasefeeMonotone_walk a0 a1_0 a1_1 a1_2 a1_3 a1_4 a1_5 a1_6 a1_7 a2_0 a2_1 a2_2 w0 w1_0 w1_1 w1_2 w1_3 w1_4 w1_5 w1_6 w1_7 w2_0 w2_1 w2_2 W ).mono fin
theorem over : Rows.basefeeMonotoneRow.holds Try.pinned (OpenSpec.ofChange Rows.basefeeMonotoneSpec) :=
  OpenClaim.holds_of_wide 7 Try.f7 rfl rfl rfl rfl rfl rfl rfl ⟨rfl, rfl, rfl, rfl, rfl⟩ rfl rfl rfl rfl rfl (by kernel_rfl) Try.func7 (by kernel_rfl)
    (of_decide_eq_true (by kernel_rfl)) (by unfold Func.isWrapper; first | (rw [if_pos (by decide +kernel)]; kernel_rfl) | (rw [if_neg (by decide +kernel)]; exact ⟨rfl, rfl⟩))
    (fun os started H enc _ => lifted os started H enc)
/-- The statement. -/
theorem proved : Rows.BasefeeMonotoneSaid :=
  over
#print axioms proved
end Go.Proofs.Ytiebdccdnaceaaa.basefeeMonotone
