/- The law SizeCost of the given program returns true, whatever its arguments. -/
import Derived.Test.YtfkfheapikgejaaRows
import Derived.Test.YtfkfheapikgejaaO
import Derived.Test.YtfkfheapikgejaaY6
namespace Go.Proofs.Ytfkfheapikgejaa.sizeCost
open Go.ChangeShapes Go.WideShapes Go.ChangeAt Go.RowKit
set_option linter.unusedVariables false
theorem own : ownKnob Try.prog.godebug = none := by kernel_rfl
theorem laid : laidOutB Try.prog = true := by kernel_rfl
theorem opens_t23 : Opens Try.prog 23 [some .u64] := opens_int Try.underlying23
theorem opens_t36 : Opens Try.prog 36 [some .u64, some .u64, some .u64, some .u64] := opens_array (n := 4) Try.underlying36 opens_t23 (by kernel_rfl) (by kernel_rfl)
set_option maxRecDepth 100000 in
theorem lifted (os : Os) (started : os.Started) (H : Type) (enc : TypeId × Value → H) :
    ReturnsInHanded {} Try.checked os 6 .any (Rows.sizeCostSpec.pre6 enc Try.prog Try.f6 Rows.sizeCostRow.domain false) (Rows.sizeCostSpec.post enc Try.prog Try.f6 false true false false) := by
  refine returnsInHanded_of_change (C := Try.checked) own started (by kernel_rfl) Try.func6
    (ChangeSpec.witness6 (enc := enc) (C := Try.checked) false ⟨#[], #[.int .u64 0, .agg #[.int .u64 0, .int .u64 0, .int .u64 0, .int .u64 0], .int .u64 0], []⟩ 8 (by kernel_rfl) (by kernel_rfl) (by kernel_rfl) (by kernel_rfl)) ?_
  intro W base args ds gs before hval0 hW hcnd _
  have hval : ∀ (j : Nat) t v, Try.f6.params[j]? = some t → args[j]? = some v → Value.okWide Try.prog W .any base t v := hval0
  have hW' := hW
  obtain ⟨p, q, hA0, hV, rfl, hfz, hnd⟩ := hW
  have hA : DataW.TrodAll enc Try.prog W 0 (fun _ => true) true Try.f6.params.toList args.toList ds p := hA0
  rw [Try.params6] at hA hval
  obtain ⟨rfl, rfl⟩ := trodVars_none hV
  obtain ⟨v0, vs0, d0, ds0, p0, q0, hargs, rfl, rfl, h0, r0⟩ := trodAll_cons hA
  obtain ⟨v1, vs1, d1, ds1, p1, q1, rfl, rfl, rfl, h1, r1⟩ := trodAll_cons r0
  obtain ⟨v2, vs2, d2, ds2, p2, q2, rfl, rfl, rfl, h2, r2⟩ := trodAll_cons r1
  obtain ⟨rfl, rfl, rfl⟩ := trodAll_nil r2
  obtain rfl : args = #[v0, v1, v2] := by cases args; simp_all
  have fin : ∀ e W', e = Ending.returned (.bool true) ∧ Below W.heap.size W W' → ∃ v, e = .returned v ∧ Rows.sizeCostSpec.post enc Try.prog Try.f6 false true false false W #[v0, v1, v2] v W' := by
    rintro e W' ⟨rfl, hb⟩
    exact ⟨_, rfl, law_post laid (by rw [Try.params6]; exact of_decide_eq_true (by kernel_rfl)) rfl rfl Try.underlying4 rfl hW' hb⟩
  clear hW' hA0 hval0
  obtain ⟨a0, rfl, rfl, rfl, w0⟩ := open_int Try.underlying23 (hval 0 23 v0 rfl rfl) h0
  obtain ⟨cs1, rfl, hl1⟩ := agg_leaves (.inr ⟨_, _, Try.underlying36⟩) (hval 1 36 v1 rfl rfl) opens_t36 h1
  obtain ⟨a1_0, r1_0, rfl, w1_0, g1_0⟩ := leaf_int hl1
  obtain ⟨a1_1, r1_1, rfl, w1_1, g1_1⟩ := leaf_int g1_0
  obtain ⟨a1_2, r1_2, rfl, w1_2, g1_2⟩ := leaf_int g1_1
  obtain ⟨a1_3, r1_3, rfl, w1_3, g1_3⟩ := leaf_int g1_2
  obtain rfl := g1_3
  obtain ⟨a2, rfl, rfl, rfl, w2⟩ := open_int Try.underlying23 (hval 2 23 v2 rfl rfl) h2
  exact (SizeCost_walk a0 a1_0 a1_1 a1_2 a1_3 a2 w0 w1_0 w1_1 w1_2 w1_3 w2 W ).mono fin
theorem over : Rows.sizeCostRow.holds Try.pinned (OpenSpec.ofChange Rows.sizeCostSpec) :=
  OpenClaim.holds_of_wide 6 Try.f6 rfl rfl rfl rfl rfl rfl rfl ⟨rfl, rfl, rfl, rfl, rfl⟩ rfl rfl rfl rfl rfl (by kernel_rfl) Try.func6 (by kernel_rfl)
    (of_decide_eq_true (by kernel_rfl)) (by unfold Func.isWrapper; first | (rw [if_pos (by decide +kernel)]; kernel_rfl) | (rw [if_neg (by decide +kernel)]; exact ⟨rfl, rfl⟩))
    (fun os started H enc _ => lifted os started H enc)
/-- The statement. -/
theorem proved : Rows.SizeCostSaid :=
  over
#print axioms proved
end Go.Proofs.Ytfkfheapikgejaa.sizeCost
