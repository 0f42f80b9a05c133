/- The law LZCompressRepetitive of the given program returns true, whatever its arguments. -/
import Derived.Test.YtkdbgkjckoklcaaRows
import Derived.Test.YtkdbgkjckoklcaaO
import Derived.Test.YtkdbgkjckoklcaaOS
import Derived.Test.YtkdbgkjckoklcaaZ11
namespace Go.Proofs.Ytkdbgkjckoklcaa.lZCompressRepetitive
open Go.ChangeShapes Go.WideShapes Go.ChangeAt Go.RowKit
set_option linter.unusedVariables false
theorem own : ownKnob Try.prog.godebug = none := by kernel_rfl
theorem laid : laidOutB Try.prog = true := by kernel_rfl
theorem cells_int : Try.prog.cellsOf 3 = 1 := by kernel_rfl
set_option maxRecDepth 100000 in
theorem lifted (os : Os) (started : os.Started) (H : Type) (enc : TypeId × Value → H) :
    ReturnsInHanded {} Try.checked os 4 .any (Rows.lZCompressRepetitiveSpec.pre6 enc Try.prog Try.f4 Rows.lZCompressRepetitiveRow.domain false) (Rows.lZCompressRepetitiveSpec.post enc Try.prog Try.f4 false true false false) := by
  refine returnsInHanded_of_change (C := Try.checked) own started (by kernel_rfl) Try.func4
    (ChangeSpec.witness6 (enc := enc) (C := Try.checked) false ⟨#[], #[.slice none 0 0], []⟩ 8 (by kernel_rfl) (by kernel_rfl) (by kernel_rfl) (by kernel_rfl)) ?_
  intro W base args ds gs before hval0 hW hcnd _
  have hval : ∀ (j : Nat) t v, Try.f4.params[j]? = some t → args[j]? = some v → Value.okWide Try.prog W .any base t v := hval0
  have hW' := hW
  obtain ⟨p, q, hA0, hV, rfl, hfz, hnd⟩ := hW
  have hA : DataW.TrodAll enc Try.prog W 0 (fun _ => true) true Try.f4.params.toList args.toList ds p := hA0
  rw [Try.params4] at hA hval
  obtain ⟨rfl, rfl⟩ := trodVars_none hV
  obtain ⟨v0, vs0, d0, ds0, p0, q0, hargs, rfl, rfl, h0, r0⟩ := trodAll_cons hA
  obtain ⟨rfl, rfl, rfl⟩ := trodAll_nil r0
  obtain rfl : args = #[v0] := by cases args; simp_all
  have fin : ∀ e W', e = Ending.returned (.bool true) ∧ Below W.heap.size W W' → ∃ v, e = .returned v ∧ Rows.lZCompressRepetitiveSpec.post enc Try.prog Try.f4 false true false false W #[v0] v W' := by
    rintro e W' ⟨rfl, hb⟩
    exact ⟨_, rfl, law_post laid (by rw [Try.params4]; exact of_decide_eq_true (by kernel_rfl)) rfl rfl Try.underlying4 rfl hW' hb⟩
  clear hW' hA0 hval0
  obtain ⟨A0, n0, c0, rfl, hc0, hm0, hr0⟩ := open_nums Try.underlying27 Try.underlying3 cells_int (hval 0 27 v0 rfl rfl) h0
  exact (LZCompressRepetitive_walk A0 n0 c0 hc0 hm0 W hr0).mono fin
theorem over : Rows.lZCompressRepetitiveRow.holds Try.pinned (OpenSpec.ofChange Rows.lZCompressRepetitiveSpec) :=
  OpenClaim.holds_of_wide 4 Try.f4 rfl rfl rfl rfl rfl rfl rfl ⟨rfl, rfl, rfl, rfl, rfl⟩ rfl rfl rfl rfl rfl (by kernel_rfl) Try.func4 (by kernel_rfl)
    (of_decide_eq_true (by kernel_rfl)) (by unfold Func.isWrapper; first | (rw [if_pos (by decide +kernel)]; kernel_rfl) | (rw [if_neg (by decide +kernel)]; exact ⟨rfl, rfl⟩))
    (fun os started H enc _ => lifted os started H enc)
/-- The statement. -/
theorem proved : Rows.LZCompressRepetitiveSaid :=
  over
#print axioms proved
end Go.Proofs.Ytkdbgkjckoklcaa.lZCompressRepetitive
