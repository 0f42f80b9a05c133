/- The law DecimalRoundTrip of the given program returns true, whatever its arguments. -/
import Derived.Test.YthikkajjnfeigaaRows
import Derived.Test.YthikkajjnfeigaaO
import Derived.Test.YthikkajjnfeigaaDY
namespace Go.Proofs.Ythikkajjnfeigaa.decimalRoundTrip
open Go.ChangeShapes Go.WideShapes Go.ChangeAt Go.RowKit
set_option linter.unusedVariables false
theorem own : ownKnob Try.prog.godebug = none := by kernel_rfl
theorem laid : laidOutB Try.prog = true := by kernel_rfl
theorem opens_t22 : Opens Try.prog 22 [some .u64] := opens_int Try.underlying22
theorem opens_t24 : Opens Try.prog 24 [some .u64, some .u64, some .u64, some .u64] := opens_array (n := 4) Try.underlying24 opens_t22 (by kernel_rfl) (by kernel_rfl)
theorem opens_t4 : Opens Try.prog 4 [none] := opens_bool Try.underlying4
theorem opens_t33 : Opens Try.prog 33 [none, some .u64, some .u64, some .u64, some .u64] := opens_struct (kss := [[none], [some .u64, some .u64, some .u64, some .u64]]) Try.underlying33 ⟨rfl, by kernel_rfl, opens_t4, rfl, by kernel_rfl, opens_t24, trivial⟩ (by kernel_rfl)
theorem open_str {H : Type} {enc : TypeId × Value → H} {P : Program} {w : World} {base : Nat} {spare : Nat → Bool} {held : Bool} {r : Reach} {b0 : Nat} {t : TypeId} {v : Value} {d : DataW H} {ps : List MemPlace} (ht : P.underlying t = some .string) (hval : Value.okWide P w r b0 t v) (hd : DataW.Trod enc P w base spare held t v d ps) :
    ∃ s : ByteArray, v = .string s ∧ d = .lit (.string s.data.toList) ∧ ps = [] ∧ s.size ≤ maxLen := by
  obtain ⟨s, rfl⟩ := okWide_string ht hval
  obtain ⟨fuel, hf⟩ := hd
  obtain ⟨s', h, hx, hz⟩ := DataW.trod_string ht hf
  simp [Value.cells] at h
  subst h
  simp only [Prod.mk.injEq] at hx
  exact ⟨s, rfl, hx.1, hx.2, hz⟩
set_option maxRecDepth 100000 in
theorem lifted (os : Os) (started : os.Started) (H : Type) (enc : TypeId × Value → H) :
    ReturnsInHanded {} Try.checked os 6 .any (Rows.decimalRoundTripSpec.pre6 enc Try.prog Try.f6 Rows.decimalRoundTripRow.domain false) (Rows.decimalRoundTripSpec.post enc Try.prog Try.f6 false true false false) := by
  refine returnsInHanded_of_change (C := Try.checked) own started (by kernel_rfl) Try.func6
    (ChangeSpec.witness6 (enc := enc) (C := Try.checked) false ⟨#[], #[.agg #[.int .u64 0, .int .u64 0, .int .u64 0, .int .u64 0], .agg #[.bool false, .int .u64 0, .int .u64 0, .int .u64 0, .int .u64 0], .string ⟨#[]⟩], []⟩ 8 (by kernel_rfl) (by kernel_rfl) (by kernel_rfl) (by kernel_rfl)) ?_
  intro W base args ds gs before hval0 hW hcnd _
  have hval : ∀ (j : Nat) t v, Try.f6.params[j]? = some t → args[j]? = some v → Value.okWide Try.prog W .any base t v := hval0
  have hW' := hW
  obtain ⟨p, q, hA0, hV, rfl, hfz, hnd⟩ := hW
  have hA : DataW.TrodAll enc Try.prog W 0 (fun _ => true) true Try.f6.params.toList args.toList ds p := hA0
  rw [Try.params6] at hA hval
  obtain ⟨rfl, rfl⟩ := trodVars_none hV
  obtain ⟨v0, vs0, d0, ds0, p0, q0, hargs, rfl, rfl, h0, r0⟩ := trodAll_cons hA
  obtain ⟨v1, vs1, d1, ds1, p1, q1, rfl, rfl, rfl, h1, r1⟩ := trodAll_cons r0
  obtain ⟨v2, vs2, d2, ds2, p2, q2, rfl, rfl, rfl, h2, r2⟩ := trodAll_cons r1
  obtain ⟨rfl, rfl, rfl⟩ := trodAll_nil r2
  obtain rfl : args = #[v0, v1, v2] := by cases args; simp_all
  have fin : ∀ e W', e = Ending.returned (.bool true) ∧ Below W.heap.size W W' → ∃ v, e = .returned v ∧ Rows.decimalRoundTripSpec.post enc Try.prog Try.f6 false true false false W #[v0, v1, v2] v W' := by
    rintro e W' ⟨rfl, hb⟩
    exact ⟨_, rfl, law_post laid (by rw [Try.params6]; exact of_decide_eq_true (by kernel_rfl)) rfl rfl Try.underlying4 rfl hW' hb⟩
  clear hW' hA0 hval0
  obtain ⟨cs0, rfl, hl0⟩ := agg_leaves (.inr ⟨_, _, Try.underlying24⟩) (hval 0 24 v0 rfl rfl) opens_t24 h0
  obtain ⟨a0_0, r0_0, rfl, w0_0, g0_0⟩ := leaf_int hl0
  obtain ⟨a0_1, r0_1, rfl, w0_1, g0_1⟩ := leaf_int g0_0
  obtain ⟨a0_2, r0_2, rfl, w0_2, g0_2⟩ := leaf_int g0_1
  obtain ⟨a0_3, r0_3, rfl, w0_3, g0_3⟩ := leaf_int g0_2
  obtain rfl := g0_3
  obtain ⟨cs1, rfl, hl1⟩ := agg_leaves (.inl ⟨_, Try.underlying33⟩) (hval 1 33 v1 rfl rfl) opens_t33 h1
  obtain ⟨a1_0, r1_0, rfl, g1_0⟩ := leaf_bool hl1
  obtain ⟨a1_1, r1_1, rfl, w1_1, g1_1⟩ := leaf_int g1_0
  obtain ⟨a1_2, r1_2, rfl, w1_2, g1_2⟩ := leaf_int g1_1
  obtain ⟨a1_3, r1_3, rfl, w1_3, g1_3⟩ := leaf_int g1_2
  obtain ⟨a1_4, r1_4, rfl, w1_4, g1_4⟩ := leaf_int g1_3
  obtain rfl := g1_4
  obtain ⟨a2, rfl, rfl, rfl, hs2⟩ := open_str Try.underlying9 (hval 2 9 v2 rfl rfl) h2
  exact (DecimalRoundTrip_walk a0_0 a0_1 a0_2 a0_3 a1_0 a1_1 a1_2 a1_3 a1_4 a2 w0_0 w0_1 w0_2 w0_3 w1_1 w1_2 w1_3 w1_4 hs2 W ).mono fin
theorem over : Rows.decimalRoundTripRow.holds Try.pinned (OpenSpec.ofChange Rows.decimalRoundTripSpec) :=
  OpenClaim.holds_of_wide 6 Try.f6 rfl rfl rfl rfl rfl rfl rfl ⟨rfl, rfl, rfl, rfl, rfl⟩ rfl rfl rfl rfl rfl (by kernel_rfl) Try.func6 (by kernel_rfl)
    (of_decide_eq_true (by kernel_rfl)) (by unfold Func.isWrapper; first | (rw [if_pos (by decide +kernel)]; kernel_rfl) | (rw [if_neg (by decide +kernel)]; exact ⟨rfl, rfl⟩))
    (fun os started H enc _ => lifted os started H enc)
/-- The statement. -/
theorem proved : Rows.DecimalRoundTripSaid :=
  over
#print axioms proved
end Go.Proofs.Ythikkajjnfeigaa.decimalRoundTrip
