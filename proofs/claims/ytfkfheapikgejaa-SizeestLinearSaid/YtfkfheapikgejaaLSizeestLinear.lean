/- The law SizeestLinear of the given program returns true, whatever its arguments. -/
import Derived.Test.YtfkfheapikgejaaRows
import Derived.Test.YtfkfheapikgejaaO
import Derived.Test.YtfkfheapikgejaaOS
import Derived.Test.YtfkfheapikgejaaY6
namespace Go.Proofs.Ytfkfheapikgejaa.sizeestLinear
open Go.ChangeShapes Go.WideShapes Go.ChangeAt Go.RowKit
set_option linter.unusedVariables false
theorem own : ownKnob Try.prog.godebug = none := by kernel_rfl
theorem laid : laidOutB Try.prog = true := by kernel_rfl
theorem opens_t23 : Opens Try.prog 23 [some .u64] := opens_int Try.underlying23
theorem opens_t36 : Opens Try.prog 36 [some .u64, some .u64, some .u64, some .u64] := opens_array (n := 4) Try.underlying36 opens_t23 (by kernel_rfl) (by kernel_rfl)
theorem cells_int : Try.prog.cellsOf 3 = 1 := by kernel_rfl
set_option maxRecDepth 100000 in
theorem lifted (os : Os) (started : os.Started) (H : Type) (enc : TypeId × Value → H) :
    ReturnsInHanded {} Try.checked os 7 .any (Rows.sizeestLinearSpec.pre6 enc Try.prog Try.f7 Rows.sizeestLinearRow.domain false) (Rows.sizeestLinearSpec.post enc Try.prog Try.f7 false true false false) := by
  refine returnsInHanded_of_change (C := Try.checked) own started (by kernel_rfl) Try.func7
    (ChangeSpec.witness6 (enc := enc) (C := Try.checked) false ⟨#[], #[.int .u64 0, .int .u64 0, .agg #[.int .u64 0, .int .u64 0, .int .u64 0, .int .u64 0], .slice none 0 0, .int .u64 0], []⟩ 8 (by kernel_rfl) (by kernel_rfl) (by kernel_rfl) (by kernel_rfl)) ?_
  intro W base args ds gs before hval0 hW hcnd _
  have hval : ∀ (j : Nat) t v, Try.f7.params[j]? = some t → args[j]? = some v → Value.okWide Try.prog W .any base t v := hval0
  have hW' := hW
  obtain ⟨p, q, hA0, hV, rfl, hfz, hnd⟩ := hW
  have hA : DataW.TrodAll enc Try.prog W 0 (fun _ => true) true Try.f7.params.toList args.toList ds p := hA0
  rw [Try.params7] at hA hval
  obtain ⟨rfl, rfl⟩ := trodVars_none hV
  obtain ⟨v0, vs0, d0, ds0, p0, q0, hargs, rfl, rfl, h0, r0⟩ := trodAll_cons hA
  obtain ⟨v1, vs1, d1, ds1, p1, q1, rfl, rfl, rfl, h1, r1⟩ := trodAll_cons r0
  obtain ⟨v2, vs2, d2, ds2, p2, q2, rfl, rfl, rfl, h2, r2⟩ := trodAll_cons r1
  obtain ⟨v3, vs3, d3, ds3, p3, q3, rfl, rfl, rfl, h3, r3⟩ := trodAll_cons r2
  obtain ⟨v4, vs4, d4, ds4, p4, q4, rfl, rfl, rfl, h4, r4⟩ := trodAll_cons r3
  obtain ⟨rfl, rfl, rfl⟩ := trodAll_nil r4
  obtain rfl : args = #[v0, v1, v2, v3, v4] := by cases args; simp_all
  have fin : ∀ e W', e = Ending.returned (.bool true) ∧ Below W.heap.size W W' → ∃ v, e = .returned v ∧ Rows.sizeestLinearSpec.post enc Try.prog Try.f7 false true false false W #[v0, v1, v2, v3, v4] v W' := by
    rintro e W' ⟨rfl, hb⟩
    exact ⟨_, rfl, law_post laid (by rw [Try.params7]; exact of_decide_eq_true (by kernel_rfl)) rfl rfl Try.underlying4 rfl hW' hb⟩
  clear hW' hA0 hval0
  obtain ⟨a0, rfl, rfl, rfl, w0⟩ := open_int Try.underlying23 (hval 0 23 v0 rfl rfl) h0
  obtain ⟨a1, rfl, rfl, rfl, w1⟩ := open_int Try.underlying23 (hval 1 23 v1 rfl rfl) h1
  obtain ⟨cs2, rfl, hl2⟩ := agg_leaves (.inr ⟨_, _, Try.underlying36⟩) (hval 2 36 v2 rfl rfl) opens_t36 h2
  obtain ⟨a2_0, r2_0, rfl, w2_0, g2_0⟩ := leaf_int hl2
  obtain ⟨a2_1, r2_1, rfl, w2_1, g2_1⟩ := leaf_int g2_0
  obtain ⟨a2_2, r2_2, rfl, w2_2, g2_2⟩ := leaf_int g2_1
  obtain ⟨a2_3, r2_3, rfl, w2_3, g2_3⟩ := leaf_int g2_2
  obtain rfl := g2_3
  obtain ⟨A3, n3, c3, rfl, hc3, hm3, hr3⟩ := open_nums Try.underlying29 Try.underlying3 cells_int (hval 3 29 v3 rfl rfl) h3
  obtain ⟨a4, rfl, rfl, rfl, w4⟩ := open_int Try.underlying23 (hval 4 23 v4 rfl rfl) h4
  exact (SizeestLinear_walk a0 a1 a2_0 a2_1 a2_2 a2_3 A3 n3 c3 a4 w0 w1 w2_0 w2_1 w2_2 w2_3 hc3 hm3 w4 W hr3).mono fin
theorem over : Rows.sizeestLinearRow.holds Try.pinned (OpenSpec.ofChange Rows.sizeestLinearSpec) :=
  OpenClaim.holds_of_wide 7 Try.f7 rfl rfl rfl rfl rfl rfl rfl ⟨rfl, rfl, rfl, rfl, rfl⟩ rfl rfl rfl rfl rfl (by kernel_rfl) Try.func7 (by kernel_rfl)
    (of_decide_eq_true (by kernel_rfl)) (by unfold Func.isWrapper; first | (rw [if_pos (by decide +kernel)]; kernel_rfl) | (rw [if_neg (by decide +kernel)]; exact ⟨rfl, rfl⟩))
    (fun os started H enc _ => lifted os started H enc)
/-- The statement. -/
theorem proved : Rows.SizeestLinearSaid :=
  over
#print axioms proved
end Go.Proofs.Ytfkfheapikgejaa.sizeestLinear
