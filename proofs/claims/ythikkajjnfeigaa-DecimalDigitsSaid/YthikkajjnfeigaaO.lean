/- Opening plain arguments (integers, bools, arrays and structs of these) to their cells; closing a law's row behind a call that lays new blocks alone. -/
import Derived.WalkKit
import Derived.ProofKit
import Derived.OpenShut
import Derived.Carry
namespace Go.Proofs.Ythikkajjnfeigaa
open Go.ChangeShapes Go.WideShapes Go.ChangeAt Go.RowKit
section
variable {H : Type} {enc : TypeId × Value → H} {P : Program}
/-- A cell of a plain type: an integer of its kind, or a bool. -/
def LeafOk : Option IntKind → Value → Prop
  | some k, c => ∃ n, c = .int k n ∧ (Lit.int k n).wf = true
  | none, c => ∃ b, c = .bool b
def Leaves : List (Option IntKind) → List Value → Prop
  | [], cs => cs = []
  | k :: ks, cs => ∃ c cs', cs = c :: cs' ∧ LeafOk k c ∧ Leaves ks cs'
theorem leaves_append : ∀ (ks ls : List (Option IntKind)) (cs : List Value), Leaves ks (cs.take ks.length) → Leaves ls (cs.drop ks.length) → Leaves (ks ++ ls) cs
  | [], ls, cs, _, h => by simpa using h
  | k :: ks, ls, cs, h, h' => by
    obtain ⟨c, cs', e, hk, hr⟩ := h
    cases cs with
    | nil => simp at e
    | cons d ds =>
      simp only [List.length_cons, List.take_succ_cons, List.cons.injEq] at e
      obtain ⟨rfl, rfl⟩ := e
      exact ⟨d, ds, rfl, hk, leaves_append ks ls ds hr (by simpa using h')⟩
/-- What reads as data at this type has cells of these kinds. -/
def Opens (P : Program) (t : TypeId) (ks : List (Option IntKind)) : Prop :=
  ∀ (H : Type) (enc : TypeId × Value → H) (w : World) (base : Nat) (sp : Nat → Bool) (held : Bool) (fuel : Nat) (cs : List Value) (x : DataW H × List MemPlace), DataW.trod enc P w base sp held fuel t cs = some x → Leaves ks cs
theorem opens_int {t : TypeId} {k : IntKind} (ht : P.underlying t = some (.int k)) : Opens P t [some k] := by
  intro H enc w base sp held fuel cs x h
  obtain ⟨n, rfl, _, hw⟩ := DataW.trod_int ht h
  exact ⟨_, _, rfl, ⟨n, rfl, hw⟩, rfl⟩
theorem opens_bool {t : TypeId} (ht : P.underlying t = some .bool) : Opens P t [none] := by
  intro H enc w base sp held fuel cs x h
  obtain ⟨b, rfl, _⟩ := DataW.trod_bool ht h
  exact ⟨_, _, rfl, ⟨b, rfl⟩, rfl⟩
theorem leaves_rep {ks : List (Option IntKind)} : ∀ (n : Nat) (cs : List Value), cs.length = n * ks.length → (∀ i, i < n → Leaves ks ((cs.drop (i * ks.length)).take ks.length)) → Leaves (List.replicate n ks).flatten cs
  | 0, cs, hl, _ => by
    have : cs = [] := List.eq_nil_of_length_eq_zero (by simpa using hl)
    subst this
    rfl
  | n + 1, cs, hl, h => by
    rw [List.replicate_succ, List.flatten_cons]
    refine leaves_append _ _ _ (by have := h 0 (by omega); simpa using this) (leaves_rep n _ ?_ fun i hi => ?_)
    · rw [List.length_drop, hl, Nat.succ_mul]; omega
    · have := h (i + 1) (by omega)
      rwa [List.drop_drop, ← Nat.add_comm, ← Nat.succ_mul]
theorem opens_array {t e : TypeId} {n : Nat} {ks : List (Option IntKind)} (ht : P.underlying t = some (.array n e)) (he : Opens P e ks) (hc : P.cellsOf e = ks.length) (hs : P.cellsOf t = n * ks.length) : Opens P t (List.replicate n ks).flatten := by
  intro H enc w base sp held fuel cs x h
  obtain ⟨xs, m, _, _, hl, hn, hi⟩ := DataW.trod_array ht h
  refine leaves_rep n cs (by rw [hl, hs]) fun i hin => ?_
  have := hi i hin
  rw [List.getElem?_eq_getElem (by omega), hc] at this
  exact he _ _ _ _ _ _ _ _ _ this
/-- A struct's fields lie one behind the other; the kinds of each. -/
def FieldsOk (P : Program) : Nat → List Field → List (List (Option IntKind)) → Prop
  | _, [], [] => True
  | off, f :: fs, ks :: kss => f.offset = off ∧ P.cellsOf f.type = ks.length ∧ Opens P f.type ks ∧ FieldsOk P (off + ks.length) fs kss
  | _, _, _ => False
theorem leaves_fields {w : World} {base : Nat} {sp : Nat → Bool} {held : Bool} {m : Nat} {cs : List Value} : ∀ (off : Nat) (fs : List Field) (kss : List (List (Option IntKind))) (xs : List (DataW H × List MemPlace)), FieldsOk P off fs kss → xs.length = fs.length →
    cs.length = off + kss.flatten.length → (∀ (i : Nat) (f : Field), fs[i]? = some f → DataW.trod enc P w base sp held m f.type ((cs.drop f.offset).take (P.cellsOf f.type)) = xs[i]?) → Leaves kss.flatten (cs.drop off)
  | off, [], [], _, _, _, hl, _ => by
    rw [List.drop_eq_nil_of_le (by simp at hl; omega)]
    rfl
  | off, f :: fs, ks :: kss, [], _, hx, _, _ => by simp at hx
  | off, f :: fs, ks :: kss, x :: xs, hf, hx, hl, h => by
    obtain ⟨ho, hc, hop, hr⟩ := hf
    rw [List.flatten_cons]
    have h0 := h 0 f rfl
    rw [ho, hc] at h0
    refine leaves_append _ _ _ (hop _ _ _ _ _ _ _ _ _ (h0.trans rfl)) ?_
    rw [List.drop_drop]
    exact leaves_fields (off + ks.length) fs kss xs hr (by simpa using hx) (by simp at hl ⊢; omega) fun i g hg => by simpa using h (i + 1) g (by simpa using hg)
  | off, [], _ :: _, _, hf, _, _, _ => hf.elim
  | off, _ :: _, [], _, hf, _, _, _ => hf.elim
theorem opens_struct {t : TypeId} {fs : Array Field} {kss : List (List (Option IntKind))} (ht : P.underlying t = some (.struct fs)) (hf : FieldsOk P 0 fs.toList kss) (hs : P.cellsOf t = kss.flatten.length) : Opens P t kss.flatten := by
  intro H enc w base sp held fuel cs x h
  obtain ⟨xs, m, _, _, hl, hn, hi⟩ := DataW.trod_struct ht h
  have := leaves_fields (enc := enc) (P := P) (w := w) (base := base) (sp := sp) (held := held) (m := m) (cs := cs) 0 fs.toList kss xs hf (by simpa using hn) (by rw [hl, hs]; omega) (fun i f hf => hi i f (by simpa using hf))
  simpa using this
theorem leaf_int {k : IntKind} {ks : List (Option IntKind)} {cs : List Value} (h : Leaves (some k :: ks) cs) : ∃ n cs', cs = .int k n :: cs' ∧ (Lit.int k n).wf = true ∧ Leaves ks cs' := by
  obtain ⟨c, cs', rfl, ⟨n, rfl, hw⟩, h'⟩ := h
  exact ⟨n, cs', rfl, hw, h'⟩
theorem leaf_bool {ks : List (Option IntKind)} {cs : List Value} (h : Leaves (none :: ks) cs) : ∃ b cs', cs = .bool b :: cs' ∧ Leaves ks cs' := by
  obtain ⟨c, cs', rfl, ⟨b, rfl⟩, h'⟩ := h
  exact ⟨b, cs', rfl, h'⟩
/-- An argument that is an array or a struct: its cells' list. -/
theorem agg_leaves {W : World} {r : Reach} {base : Nat} {t : TypeId} {v : Value} {d : DataW H} {p : List MemPlace} {ks : List (Option IntKind)} (hu : (∃ fs, P.underlying t = some (.struct fs)) ∨ (∃ n e, P.underlying t = some (.array n e))) (hv : Value.okWide P W r base t v)
    (ho : Opens P t ks) (h : DataW.Trod enc P W 0 (fun _ => true) true t v d p) : ∃ cs : List Value, v = .agg ⟨cs⟩ ∧ Leaves ks cs := by
  obtain ⟨cs, rfl⟩ : ∃ cs, v = .agg cs := by
    rcases hu with ⟨fs, hu⟩ | ⟨n, e, hu⟩
    · obtain ⟨cs, h, _⟩ : ∃ cs, v = .agg cs ∧ cs.size = P.cellsOf t ∧ Row.okWide P W r base t cs := by simpa [Value.okWide, hu] using hv
      exact ⟨cs, h⟩
    · obtain ⟨cs, h, _⟩ : ∃ cs, v = .agg cs ∧ cs.size = P.cellsOf t ∧ Row.okWide P W r base t cs := by simpa [Value.okWide, hu] using hv
      exact ⟨cs, h⟩
  obtain ⟨fuel, hf⟩ := h
  obtain ⟨l⟩ := cs
  exact ⟨l, rfl, ho _ _ _ _ _ _ _ _ _ hf⟩
theorem below_trodAll (hl : laidOutB P = true) {W W' : World} (hb : Below W.heap.size W W') : ∀ (ts : List TypeId) (vs : List Value) (ds : List (DataW H)) (ps : List MemPlace), (∀ t ∈ ts, P.readableRec t = true ∧ t < P.types.size) →
    DataW.TrodAll enc P W 0 (fun _ => true) true ts vs ds ps → (∀ x ∈ ps, x.block < W.heap.size) → DataW.TrodAll enc P W' 0 (fun b => decide (b < W.heap.size)) true ts vs ds ps
  | [], [], [], _, _, h, _ => h
  | t :: ts, v :: vs, d :: ds, ps, hr, h, hlt => by
    obtain ⟨p, q, h1, h2, rfl⟩ := h
    exact ⟨p, q, Below.trod hl (hr t (.head _)).1 (hr t (.head _)).2 h1 hb (fun x hx => hlt x (List.mem_append.2 (.inl hx))), below_trodAll hl hb ts vs ds q (fun t ht => hr t (.tail _ ht)) h2 (fun x hx => hlt x (List.mem_append.2 (.inr hx))), rfl⟩
  | [], [], _ :: _, _, _, h, _ => h.elim
  | [], _ :: _, _, _, _, h, _ => h.elim
  | _ :: _, [], _, _, _, h, _ => h.elim
  | _ :: _, _ :: _, [], _, _, h, _ => h.elim
/-- A law's end: it returned true, and below the heap's old size nothing has turned: its arguments read as they did. -/
theorem law_post {f : Func} {s : ChangeSpec} {W W' : World} {args : Array Value} {ds : List (DataW H)} {before : List MemPlace} {tb : TypeId} (hl : laidOutB P = true) (hr : ∀ t ∈ f.params.toList, P.readableRec t = true ∧ t < P.types.size) (hv : s.vars = [])
    (hres : f.resultTypes = #[tb]) (htb : P.underlying tb = some .bool) (hs : s.fn H ds = { results := [.lit (.bool true)], args := ds }) (hW : DataW.Whole enc P f.params.toList s.vars false W args.toList ds [] before) (hb : Below W.heap.size W W') :
    s.post enc P f false true false false W args (.bool true) W' := by
  have hlt : ∀ x ∈ before, x.block < W.heap.size := fun x hx => by simpa using hW.lt x hx
  have hW' := hW
  obtain ⟨p, q, hA, hV, rfl, _, _⟩ := hW
  rw [hv] at hV
  obtain ⟨_, rfl⟩ := trodVars_none hV
  rw [List.append_nil] at *
  have hss : s.fn H (ds ++ []) = { results := [.lit (.bool true)], args := ds } := by rw [List.append_nil]; exact hs
  refine ⟨ds, [], p, [], p, [], hW', ?_, ?_, ?_, hb.frame _, fun h => by cases h⟩
  · rw [hss, hres]
    exact trodAll_cons_mk (shut_bool htb _) trodAll_mk0
  · rw [hss]
    exact below_trodAll hl hb _ _ _ _ hr hA hlt
  · rw [hss, hv]
    rfl
end
end Go.Proofs.Ythikkajjnfeigaa
