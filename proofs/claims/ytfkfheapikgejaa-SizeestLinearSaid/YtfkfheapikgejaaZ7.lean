/- lz, walked: Decompress and its reference. -/
import Derived.WalkKit
import Derived.KernelRfl
import Derived.RowKit3
import Derived.Deep.LoopGhost
import Derived.Deep.QuietTactic
import Derived.BigQuiet
import Derived.WideLaws
import Derived.Laws.Rows
import Derived.Below
import Derived.Deep.Draws
import Derived.Outline
import Derived.LoopN
import Derived.Handy
import Derived.Laws.Externs
import Derived.Laws.BitsAllLaws
import Derived.Laws.BitsLemmas
import Derived.Deep.DeepCutAuto
import Derived.Deep.CutBlock
import Derived.Deep.RegionHeld3
import Derived.Test.YtfkfheapikgejaaZ6
import Derived.Maps.AppendAt
import Derived.Deep.AppendLies
import Derived.Deep.QuietTactic
import Derived.BigQuiet
import Derived.OwnWalk
import Derived.IntWalk
namespace Go.Proofs.Ytfkfheapikgejaa
open Go.RowKit
set_option linter.unusedVariables false
set_option linter.unusedSimpArgs false
theorem drop_cons {l : List UInt8} {a : Nat} (h : a < l.length) : l.drop a = gb l a :: l.drop (a + 1) := by
  rw [List.drop_eq_getElem_cons h, gb, List.getD_eq_getElem?_getD, List.getElem?_eq_getElem h]
  rfl
theorem step_zero {l o : List UInt8} {a : Nat} (h : a < l.length) (hd : dec l [] = dec (l.drop a) o) (h0 : (gb l a).toNat = 0) : dec l [] = .error 3 := by
  rw [hd, drop_cons h, dec_zero h0]
theorem step_lit {l o : List UInt8} {a T : Nat} (h : a < l.length) (hd : dec l [] = dec (l.drop a) o) (hT : (gb l a).toNat = T) (h0 : T ≠ 0) (h1 : T < 128) :
    (l.length - (a + 1) < T → dec l [] = .error 3) ∧ (T ≤ l.length - (a + 1) → 65536 < o.length + T → dec l [] = .error 6) ∧ (T ≤ l.length - (a + 1) → o.length + T ≤ 65536 → dec l [] = dec (l.drop (a + 1 + T)) (o ++ (l.drop (a + 1)).take T)) := by
  subst hT
  have e : dec l [] = _ := hd.trans ((congrArg (fun x => dec x o) (drop_cons h)).trans (dec_lit (r := l.drop (a + 1)) (out := o) h0 h1))
  rw [List.length_drop, List.drop_drop] at e
  refine ⟨fun h2 => ?_, fun h2 h3 => ?_, fun h2 h3 => ?_⟩
  · rw [e, if_pos (by omega)]
  · rw [e, if_neg (by omega), if_pos h3]
  · rw [e, if_neg (by omega), if_neg (by omega)]
theorem step_short {l o : List UInt8} {a T : Nat} (h : a < l.length) (hd : dec l [] = dec (l.drop a) o) (hT : (gb l a).toNat = T) (h1 : ¬ T < 128) (h2 : l.length - (a + 1) < 2) : dec l [] = .error 3 := by
  subst hT
  rw [hd, drop_cons h, dec_short h1 (by rw [List.length_drop]; omega)]
theorem step_match {l o : List UInt8} {a T x y : Nat} (hd : dec l [] = dec (l.drop a) o) (hT : (gb l a).toNat = T) (h1 : ¬ T < 128) (h2 : a + 2 < l.length) (hx : (gb l (a + 1)).toNat = x) (hy : (gb l (a + 2)).toNat = y) :
    (o.length < x * 256 + y + 1 → dec l [] = .error 3) ∧ (x * 256 + y + 1 ≤ o.length → 65536 < o.length + (T - 124) → dec l [] = .error 6) ∧ (x * 256 + y + 1 ≤ o.length → o.length + (T - 124) ≤ 65536 → dec l [] = dec (l.drop (a + 3)) (copyd (x * 256 + y + 1) (T - 124) o)) := by
  subst hT
  subst hx
  subst hy
  have e0 : l.drop a = gb l a :: gb l (a + 1) :: gb l (a + 2) :: l.drop (a + 3) := by
    rw [drop_cons (show a < l.length by omega), drop_cons (show a + 1 < l.length by omega), drop_cons (show a + 1 + 1 < l.length by omega)]
  have e : dec l [] = _ := hd.trans ((congrArg (fun x => dec x o) e0).trans (dec_match (out := o) h1))
  refine ⟨fun h2 => ?_, fun h2 h3 => ?_, fun h2 h3 => ?_⟩
  · rw [e, if_pos h2]
  · rw [e, if_neg (by omega), if_pos h3]
  · rw [e, if_neg (by omega), if_neg (by omega)]
theorem owns_more {w2 : World} {B m p : Nat} {v : Value} {O r : List UInt8} {xs : List Value} (hp : p = O.length) (hm : m = r.length) (hx : xs = r.map bv) (h : w2.ownsRow B 5 1 v (p + m) (O.map bv ++ xs)) : Owns w2 B v (O ++ r) := by
  subst hp
  exact owns_some hm hx h
theorem below_plain {w wr w1 : World} {B : Nat} {O : List UInt8} {v : Value} (hw : B ≤ w.heap.size) (hb : Below B w wr) (ho : Owns wr B v O) (hg1 : wr.grownBy w1 v.ownBlock) : Below B w w1 := by
  have hs := hb.size
  exact hb.grown hg1 (by omega) (fun k hk => (ho.lt k hk).1)
theorem own_cell {w : World} {B g cap p : Nat} {o : List UInt8} (h : Owns w B (.slice (some ⟨g, 0, none⟩) p cap) o) (hp : p = o.length) {i : Nat} (hi : i < p) : w.cell? ⟨g, i, none⟩ = some (.int .u8 ((gb o i).toNat : Int)) := by
  subst hp
  have h2 : w.ownsRow B 5 1 (.slice (some ⟨g, 0, none⟩) o.length cap) o.length (o.map bv) := h
  rw [h2.cellAt i (by omega), List.getElem?_map, List.getElem?_eq_getElem hi, gb, List.getD_eq_getElem?_getD, List.getElem?_eq_getElem hi]
  rfl
theorem copyd_one {d k m : Nat} {o : List UInt8} (h : k < m) : copyd d (m - k) o = copyd d (m - (k + 1)) (o ++ [gb o (o.length - d)]) := by
  rw [show m - k = (m - (k + 1)) + 1 by omega, copyd]
theorem _root_.Go.World.ownsRow.form_le {w : World} {B e s n m cap : Nat} {A : Option Addr} {xs : List Value} (h : w.ownsRow B e s (.slice A n cap) m xs) (hnm : 0 < m) : n ≤ cap := by
  rcases h.2 with ⟨_, h0⟩ | ⟨g, cap', cur, hv, hb, hg, hc, _⟩
  · omega
  · injection hv with h1 h2 h3
    omega
end Go.Proofs.Ytfkfheapikgejaa
