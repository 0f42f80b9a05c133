/- Package pontageref1: Div, the joint state of its loops. -/
import Derived.WalkKit
import Derived.KernelRfl
import Derived.RowKit3
import Derived.Deep.LoopGhost
import Derived.Deep.QuietTactic
import Derived.BigQuiet
import Derived.WideLaws
import Derived.Laws.Rows
import Derived.Below
import Derived.Deep.Draws
import Derived.Outline
import Derived.LoopN
import Derived.Handy
import Derived.Laws.Externs
import Derived.Laws.BitsAllLaws
import Derived.Laws.BitsLemmas
import Derived.Deep.DeepCutAuto
import Derived.Deep.CutBlock
import Derived.Deep.RegionHeld3
import Derived.Test.YthikkajjnfeigaaR11
import Derived.Test.YthikkajjnfeigaaR12
namespace Go.Proofs.Ythikkajjnfeigaa
open Go.RowKit
set_option linter.unusedVariables false
set_option linter.unusedSimpArgs false
structure St (A B i t : Nat) (L R : List Nat) : Prop where
  ll : L.length = nd A
  rl : R.length = nd B + 1
  rd : Digs R
  q : QI i t L (val L)
  dv : DvI A B (16 * i + t) (val L) (val R)
theorem St.start {A B : Nat} (hB : 0 < B) : St A B (nd A) 0 (List.replicate (nd A) 0) (List.replicate (nd B + 1) 0) := by
  refine ⟨by simp, by simp, digs_rep _, ⟨digs_rep _, rfl, fun j hj => ?_, by rw [Nat.pow_zero]; exact Nat.one_dvd _⟩, ?_⟩
  · rw [List.getD_eq_getElem?_getD, List.getElem?_replicate]; split <;> rfl
  · rw [val_rep, val_rep]
    exact DvI.start (by rw [Nat.add_zero, ← pow16]; exact nd_lt A) hB
theorem St.next {A B i : Nat} {L R : List Nat} (h : St A B (i + 1) 0 L R) : St A B i 16 L R := ⟨h.ll, h.rl, h.rd, h.q.next, by have := h.dv; rwa [show 16 * (i + 1) + 0 = 16 * i + 16 by omega] at this⟩
theorem St.dbl {A B i t : Nat} {L R R' : List Nat} {ov : Nat} (h : St A B i (t + 1) L R) (hd : DbI R (bitOf A (16 * i + t)) R.length ov R') : val R' = 2 * val R + bitOf A (16 * i + t) := by
  refine hd.done ?_
  have h1 := h.dv.lt
  have h2 := nd_lt B
  have h3 := bitOf_le A (16 * i + t)
  rw [h.rl, Nat.pow_succ]
  omega
theorem St.low {A B i t : Nat} {L R R' : List Nat} {ov : Nat} (h : St A B i (t + 1) L R) (hd : DbI R (bitOf A (16 * i + t)) R.length ov R') (hl : val R' < B) : St A B i t L R' := by
  have e := h.dbl hd
  rw [e] at hl
  refine ⟨h.ll, by rw [hd.len]; exact h.rl, hd.dg, h.q.skip, ?_⟩
  rw [e]
  exact h.dv.low hl
theorem St.high {A B i t : Nat} {L R R' R'' : List Nat} {ov : Nat} (h : St A B i (t + 1) L R) (hd : DbI R (bitOf A (16 * i + t)) R.length ov R') (hl : B ≤ val R') (ht : t < 16) (hi : i < nd A) (hlen : R''.length = R'.length) (hdg : Digs R'') (hv : val R'' = val R' - B) :
    L.getD i 0 + 2 ^ t < 65536 ∧ St A B i t (L.set i (L.getD i 0 + 2 ^ t)) R'' := by
  have e := h.dbl hd
  obtain ⟨q1, q2⟩ := h.q.set ht (by rw [h.ll]; exact hi)
  rw [e] at hl hv
  have hh := h.dv.high hl
  refine ⟨q1, by rw [List.length_set]; exact h.ll, by rw [hlen, hd.len]; exact h.rl, hdg, ?_, ?_⟩
  · rw [q2.v]; exact q2
  · rw [q2.v, hv]; exact hh
theorem St.done {A B : Nat} {L R : List Nat} (h : St A B 0 0 L R) : val L = A / B ∧ val R = A % B := h.dv.done
/-- The copying of the difference's digits. -/
structure CpI (D k n : Nat) (R : List Nat) : Prop where
  len : R.length = n
  dg : Digs R
  eq : val (R.take k) = val ((dig D).take k)
theorem CpI.step {D k n d : Nat} {R : List Nat} (h : CpI D k n R) (hk : k < n) (ed : (dig D).getD k 0 = d) : CpI D (k + 1) n (R.set k d) := by
  obtain ⟨len, dg, eq⟩ := h
  have hd : d < 65536 := by rw [← ed]; exact getD_lt (digs_dig D) k
  refine ⟨by rw [List.length_set]; exact len, digs_set dg hd, ?_⟩
  have hkl : k < (R.set k d).length := by rw [List.length_set]; omega
  rw [val_take_succ hkl, take_step, ed, List.take_set_of_le (by omega), eq]
  have e2 : (R.set k d).getD k 0 = d := by rw [List.getD_eq_getElem?_getD, List.getElem?_set_self (by omega)]; rfl
  rw [e2]
theorem CpI.done {D n : Nat} {R : List Nat} (h : CpI D n n R) (hn : nd D ≤ n) : val R = D := by
  have := h.eq
  rwa [List.take_of_length_le (by rw [h.len]; omega), List.take_of_length_le hn, val_dig] at this
theorem and1_i64 {x : Nat} (h : x < 9223372036854775808) : bits .and .i64 (x : Int) 1 = ((x % 2 : Nat) : Int) := by
  show IntKind.i64.wrap ((BitVec.ofInt 64 (x : Int) &&& BitVec.ofInt 64 1).toNat : Int) = _
  rw [BitVec.toNat_and, show (BitVec.ofInt 64 1).toNat = 2 ^ 1 - 1 from rfl, Nat.and_two_pow_sub_one_eq_mod, BitVec.toNat_ofInt, IntKind.wrap_i64]
  omega
end Go.Proofs.Ythikkajjnfeigaa
