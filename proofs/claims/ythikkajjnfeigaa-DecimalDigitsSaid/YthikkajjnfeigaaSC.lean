/- A region that draws its order, along a schedule that is checked once: what yields a value in every world of S goes first, the rest in a chain (or by twos). -/
import Derived.WalkKit
import Derived.KernelRfl
import Derived.RowKit3
import Derived.Deep.LoopGhost
import Derived.Deep.QuietTactic
import Derived.BigQuiet
import Derived.WideLaws
import Derived.Laws.Rows
import Derived.Below
import Derived.Deep.Draws
import Derived.Outline
import Derived.LoopN
import Derived.Handy
import Derived.Laws.Externs
import Derived.Laws.BitsAllLaws
import Derived.Laws.BitsLemmas
import Derived.Deep.DeepCutAuto
import Derived.Deep.CutBlock
import Derived.Deep.RegionHeld3
import Derived.Deep.MidRow
import Derived.Deep.RegionHeld
import Derived.Test.YthikkajjnfeigaaN
namespace Go.Proofs.Ythikkajjnfeigaa
open Go.RowKit
set_option linter.unusedVariables false
set_option linter.unusedSimpArgs false
inductive Sch where
  | done
  | take (i : Nat) (r : Sch)
  | one (i : Nat) (r : Sch)
  | two (i : Nat) (r : Sch) (j : Nat) (s : Sch)
  | three (i : Nat) (r : Sch) (j : Nat) (s : Sch) (k : Nat) (t : Sch)
namespace Sch
def ok (md : Region.Mode) (ops : Array Oper) : Sch → Nat → Array Bool → Bool
  | .done, _, l => (Region.ready md ops l).isEmpty
  | .take i r, f + 1, l => Region.free md ops l i && ((Region.ready md ops l).contains i && r.ok md ops f (l.setIfInBounds i true))
  | .one i r, f + 1, l => (Region.ready md ops l == [i]) && r.ok md ops f (l.setIfInBounds i true)
  | .two i r j s, f + 1, l => (Region.ready md ops l == [i, j]) && (r.ok md ops f (l.setIfInBounds i true) && s.ok md ops f (l.setIfInBounds j true))
  | .three i r j s k t, f + 1, l => (Region.ready md ops l == [i, j, k]) && (r.ok md ops f (l.setIfInBounds i true) && (s.ok md ops f (l.setIfInBounds j true) && t.ok md ops f (l.setIfInBounds k true)))
  | _, 0, _ => false
def wp (P : Program) (ops : Array Oper) (Q : Exit → Act → World → Prop) (S : World → Prop) : Sch → Act → World → Prop
  | .done, a, w => Q .normal a w
  | .take i r, a, w => ∃ oi v, ops[i]? = some oi ∧ YieldsIf P ops S oi v a ∧ r.wp P ops Q S (a.put oi.dst v) w
  | .one i r, a, w => wpOp P ops Q i (fun a' w' => S w' ∧ r.wp P ops Q S a' w') a w
  | .two i r j s, a, w => wpOp P ops Q i (fun a' w' => S w' ∧ r.wp P ops Q S a' w') a w ∧ wpOp P ops Q j (fun a' w' => S w' ∧ s.wp P ops Q S a' w') a w
  | .three i r j s k t, a, w => wpOp P ops Q i (fun a' w' => S w' ∧ r.wp P ops Q S a' w') a w ∧ wpOp P ops Q j (fun a' w' => S w' ∧ s.wp P ops Q S a' w') a w ∧ wpOp P ops Q k (fun a' w' => S w' ∧ t.wp P ops Q S a' w') a w
section
variable {P : Program} {ops O : Array Oper} {Q : Exit → Act → World → Prop} {S : World → Prop} {md : Region.Mode} {r s t : Sch} {a : Act} {w : World} {i j k : Nat}
theorem sound (hs : Region.noSelect ops = true) (hQ : ∀ c d v (a : Act) w, Q (.panic c) (a.put d v) w → Q (.panic c) a w) :
    ∀ (s : Sch) (f : Nat) (l : Array Bool) (a : Act) (w : World), s.ok md ops f l = true → S w → s.wp P ops Q S a w → wpAnyH P md ops Q S f l a w
  | .done, f, l, a, w, hk, _, h => by
    refine wpAnyH_done ?_ h f
    simp only [ok, List.isEmpty_iff] at hk
    exact hk
  | .take i r, 0, l, a, w, hk, _, _ => by simp [ok] at hk
  | .take i r, f + 1, l, a, w, hk, hS, h => by
    simp only [ok, Bool.and_eq_true] at hk
    obtain ⟨oi, v, hi, hy, h⟩ := h
    exact wpAnyH_take hi hs hk.1 hk.2.1 (fun c a w hh => hQ c _ _ a w hh) hy hS (sound hs hQ r f _ _ w hk.2.2 hS h)
  | .one i r, 0, l, a, w, hk, _, _ => by simp [ok] at hk
  | .one i r, f + 1, l, a, w, hk, hS, h => by
    simp only [ok, Bool.and_eq_true, beq_iff_eq] at hk
    refine wpAnyH_all hk.1 (by simp) fun i' hi' => ?_
    obtain rfl : i' = i := by simpa using hi'
    exact wpOp_mono (fun a w hh => ⟨hh.1, sound hs hQ r f _ a w hk.2 hh.1 hh.2⟩) h
  | .two i r j s, 0, l, a, w, hk, _, _ => by simp [ok] at hk
  | .two i r j s, f + 1, l, a, w, hk, hS, h => by
    simp only [ok, Bool.and_eq_true, beq_iff_eq] at hk
    refine wpAnyH_all hk.1 (by simp) fun i' hi' => ?_
    rcases (show i' = i ∨ i' = j by simpa using hi') with rfl | rfl
    · exact wpOp_mono (fun a w hh => ⟨hh.1, sound hs hQ r f _ a w hk.2.1 hh.1 hh.2⟩) h.1
    · exact wpOp_mono (fun a w hh => ⟨hh.1, sound hs hQ s f _ a w hk.2.2 hh.1 hh.2⟩) h.2
  | .three i r j s k t, 0, l, a, w, hk, _, _ => by simp [ok] at hk
  | .three i r j s k t, f + 1, l, a, w, hk, hS, h => by
    simp only [ok, Bool.and_eq_true, beq_iff_eq] at hk
    refine wpAnyH_all hk.1 (by simp) fun i' hi' => ?_
    rcases (show i' = i ∨ i' = j ∨ i' = k by simpa using hi') with rfl | rfl | rfl
    · exact wpOp_mono (fun a w hh => ⟨hh.1, sound hs hQ r f _ a w hk.2.1 hh.1 hh.2⟩) h.1
    · exact wpOp_mono (fun a w hh => ⟨hh.1, sound hs hQ s f _ a w hk.2.2.1 hh.1 hh.2⟩) h.2.1
    · exact wpOp_mono (fun a w hh => ⟨hh.1, sound hs hQ t f _ a w hk.2.2.2 hh.1 hh.2⟩) h.2.2
/-- The beginning: the operations go behind a name. -/
theorem start (s : Sch) {id : Nat} (hm : P.follows .mixedOrders = true) (hs : Region.noSelect ops = true) (hQ : ∀ c d v (a : Act) w, Q (.panic c) (a.put d v) w → Q (.panic c) a w) (hk : s.ok .any ops ops.size (Array.replicate ops.size false) = true)
    (hS : S w.drew) (h : ∀ O : Array Oper, Hid (O = ops) → S w.drew → s.wp P O Q S a w.drew) : (Code.region id ops true).wp P Q a w :=
  wp_region_held_drew hm hS fun hS => sound hs hQ s _ _ _ _ hk hS (h ops rfl hS)
theorem want {o : Oper} {tmps : Array Value} {b : Bool} (hO : Hid (O = ops)) (h : Region.wanted o (yielded ops tmps) = b) : Region.wanted o (yielded O tmps) = b := by
  rw [hO.out]; exact h
theorem t_val {oi : Oper} {v : Value} (hO : Hid (O = ops)) (hi : ops[i]? = some oi) (hw : Region.wanted oi (yielded ops a.tmps) = true) (hv : ∀ w, S w → (execOp a.eval oi).run P w = .ok (.value v) w) (h : r.wp P O Q S (a.put oi.dst v) w) : (Sch.take i r).wp P O Q S a w :=
  ⟨oi, v, by rw [hO.out]; exact hi, .inl ⟨want hO hw, hv⟩, h⟩
theorem t_move {oi : Oper} {v : Value} {x : Operand} (hO : Hid (O = ops)) (hi : ops[i]? = some oi) (hw : Region.wanted oi (yielded ops a.tmps) = true) (ho : oi.op = .move x ∨ oi.op = .assign x) (hv : a.eval x = v) (h : r.wp P O Q S (a.put oi.dst v) w) : (Sch.take i r).wp P O Q S a w :=
  t_val hO hi hw (fun w _ => by rcases ho with ho | ho <;> (unfold execOp; simp only [ho, hv]; rfl)) h
theorem t_done (h : Q .normal a w) : Sch.done.wp P O Q S a w := h
theorem t_off {oi : Oper} (hO : Hid (O = ops)) (hi : ops[i]? = some oi) (hw : Region.wanted oi (yielded ops a.tmps) = false) (h : r.wp P O Q S (a.put oi.dst undef) w) : (Sch.take i r).wp P O Q S a w :=
  ⟨oi, undef, by rw [hO.out]; exact hi, .inr ⟨want hO hw, rfl⟩, h⟩
theorem t_loads {oi : Oper} (hO : Hid (O = ops)) (hi : ops[i]? = some oi) (hw : Region.wanted oi (yielded ops a.tmps) = true) {T T' : TypeId} {x : Operand} (ho : oi.op = .load T x) {g o : Nat} (hx : a.eval x = .pointer (some ⟨g, o, none⟩)) {cs ds : Array Value} (hS : ∀ w, S w → NB w g cs T') (hl : (cs.toList.drop o).take ds.toList.length = ds.toList) {d : TypeDesc} (hu : P.underlying T = some d) (hd : d.isRow = true) (hz : (P.info? T).map (·.size) = some ds.toList.length)
    (h : r.wp P O Q S (a.put oi.dst (.agg ds)) w) : (Sch.take i r).wp P O Q S a w := by
  have hy := yieldsIf_load_mid (P := P) (S := S) (op := oi) (a := a) (want hO hw) T x ho g o hx ds.toList d (fun w hw => (hS w hw).rangeAt hl) hu hd hz
  rw [Array.toArray_toList] at hy
  exact ⟨oi, .agg ds, by rw [hO.out]; exact hi, hy, h⟩
theorem t_loadw {oi : Oper} (hO : Hid (O = ops)) (hi : ops[i]? = some oi) (hw : Region.wanted oi (yielded ops a.tmps) = true) {T T' : TypeId} {x : Operand} (ho : oi.op = .load T x) {g : Nat} (hx : a.eval x = .pointer (some ⟨g, 0, none⟩)) {cs : Array Value} (hS : ∀ w, S w → NB w g cs T') {d : TypeDesc} (hu : P.underlying T = some d) (hd : d.isRow = true) (hz : (P.info? T).map (·.size) = some cs.size)
    (h : r.wp P O Q S (a.put oi.dst (.agg cs)) w) : (Sch.take i r).wp P O Q S a w :=
  t_loads hO hi hw ho hx hS (by rw [List.drop_zero, List.take_length]) hu hd (by rw [Array.length_toList]; exact hz) h
theorem t_range {oi : Oper} (hO : Hid (O = ops)) (hi : ops[i]? = some oi) (hw : Region.wanted oi (yielded ops a.tmps) = true) {T : TypeId} {x : Operand} (ho : oi.op = .load T x) {g o : Nat} (hx : a.eval x = .pointer (some ⟨g, o, none⟩)) {ds : Array Value} (hS : ∀ w, S w → w.rangeAt g o ds.toList) {d : TypeDesc} (hu : P.underlying T = some d) (hd : d.isRow = true) (hz : (P.info? T).map (·.size) = some ds.toList.length)
    (h : r.wp P O Q S (a.put oi.dst (.agg ds)) w) : (Sch.take i r).wp P O Q S a w := by
  have hy := yieldsIf_load_mid (P := P) (S := S) (op := oi) (a := a) (want hO hw) T x ho g o hx ds.toList d hS hu hd hz
  rw [Array.toArray_toList] at hy
  exact ⟨oi, .agg ds, by rw [hO.out]; exact hi, hy, h⟩
theorem t_load {oi : Oper} (hO : Hid (O = ops)) (hi : ops[i]? = some oi) (hw : Region.wanted oi (yielded ops a.tmps) = true) {T : TypeId} {x : Operand} (ho : oi.op = .load T x) {g o : Nat} (hx : a.eval x = .pointer (some ⟨g, o, none⟩)) {v : Value} (hS : ∀ w, S w → w.cell? ⟨g, o, none⟩ = some v) {d : TypeDesc} (hu : P.underlying T = some d) (hd : d.isRow = false)
    (h : r.wp P O Q S (a.put oi.dst v) w) : (Sch.take i r).wp P O Q S a w :=
  t_val hO hi hw (fun w hw => by
    have hagg : (isAgg T).run P w = .ok false w := by
      unfold isAgg
      rw [Sem.run_bind, run_underlying hu w]
      cases d <;> simp_all
    have hl := hS w hw
    unfold execOp
    simp [ho, hx, Instr.loadAt, Instr.sureAddr, loadVar, Sem.run_bind, hagg, hl]) h
theorem step {o : Oper} (hO : Hid (O = ops)) (hi : ops[i]? = some o) (hw : Region.wanted o (yielded ops a.tmps) = true)
    (h : ∀ K : Act → World → Prop, Shut (∀ a w, S w → (S w → r.wp P O Q S a w) → K a w) → o.wp P a w K Q) : wpOp P O Q i (fun a' w' => S w' ∧ r.wp P O Q S a' w') a w :=
  wpOp_step (by rw [hO.out]; exact hi) fun K hK => by
    rw [if_pos (want hO hw)]
    exact h K (fun a w hS hW => hK a w ⟨hS, hW hS⟩)
theorem s_one {o : Oper} (hO : Hid (O = ops)) (hi : ops[i]? = some o) (hw : Region.wanted o (yielded ops a.tmps) = true)
    (h : ∀ K : Act → World → Prop, Shut (∀ a w, S w → (S w → r.wp P O Q S a w) → K a w) → o.wp P a w K Q) : (Sch.one i r).wp P O Q S a w := step hO hi hw h
theorem s_two {o o' : Oper} (hO : Hid (O = ops)) (hi : ops[i]? = some o) (hw : Region.wanted o (yielded ops a.tmps) = true) (hi' : ops[j]? = some o') (hw' : Region.wanted o' (yielded ops a.tmps) = true)
    (h : ∀ K : Act → World → Prop, Shut (∀ a w, S w → (S w → r.wp P O Q S a w) → K a w) → o.wp P a w K Q)
    (h' : ∀ K : Act → World → Prop, Shut (∀ a w, S w → (S w → s.wp P O Q S a w) → K a w) → o'.wp P a w K Q) : (Sch.two i r j s).wp P O Q S a w := ⟨step hO hi hw h, step hO hi' hw' h'⟩
theorem s_three {o o' o'' : Oper} (hO : Hid (O = ops)) (hi : ops[i]? = some o) (hw : Region.wanted o (yielded ops a.tmps) = true) (hi' : ops[j]? = some o') (hw' : Region.wanted o' (yielded ops a.tmps) = true) (hi'' : ops[k]? = some o'') (hw'' : Region.wanted o'' (yielded ops a.tmps) = true)
    (h : ∀ K : Act → World → Prop, Shut (∀ a w, S w → (S w → r.wp P O Q S a w) → K a w) → o.wp P a w K Q)
    (h' : ∀ K : Act → World → Prop, Shut (∀ a w, S w → (S w → s.wp P O Q S a w) → K a w) → o'.wp P a w K Q)
    (h'' : ∀ K : Act → World → Prop, Shut (∀ a w, S w → (S w → t.wp P O Q S a w) → K a w) → o''.wp P a w K Q) : (Sch.three i r j s k t).wp P O Q S a w := ⟨step hO hi hw h, step hO hi' hw' h', step hO hi'' hw'' h''⟩
end
end Sch
end Go.Proofs.Ythikkajjnfeigaa
