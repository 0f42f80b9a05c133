/- params, plain: the fields, their bounds, what FirstInvalid and Set answer. -/
import Derived.Test.YtkneiobohhhcpaaB
namespace Go.Proofs.Ytkneiobohhhcpaa
set_option linter.unusedVariables false
/-- Where the field of a key lies: the fields of one cell, the fields of four. -/
def f64 (k : Int) : Option Nat := if k = 1 then some 0 else if k = 2 then some 1 else if k = 3 then some 2 else if k = 5 then some 7 else if k = 7 then some 12 else if k = 9 then some 17 else if k = 10 then some 18 else if k = 11 then some 19 else if k = 12 then some 20 else none
def f256 (k : Int) : Option Nat := if k = 4 then some 3 else if k = 6 then some 8 else if k = 8 then some 13 else none
def p64 (g : Nat) (k : Int) : Value := match f64 k with | some o => .pointer (some ⟨g, o, none⟩) | none => .pointer none
def p256 (g : Nat) (k : Int) : Value := match f256 k with | some o => .pointer (some ⟨g, o, none⟩) | none => .pointer none
/-- Limb j of the parameter of a key. -/
def getL (P : Nat → Int) (k : Int) (j : Nat) : Int := match f256 k with | some o => P (o + j) | none => match f64 k with | some o => if j = 0 then P o else 0 | none => 0
def getE (k : Int) : Int := if 1 ≤ k ∧ k ≤ 12 then 0 else 17
def valL (n : Nat → Int) : Nat := (n 0 + 18446744073709551616 * n 1 + 340282366920938463463374607431768211456 * n 2 + 6277101735386680763835789423207666416102355444464034512896 * n 3).toNat
def getN (P : Nat → Int) (k : Int) : Nat := valL (getL P k)
def bndL (P : Nat → Int) (k : Int) : Int := if k = 1 ∨ k = 5 ∨ k = 9 then 1 else if k = 2 ∨ k = 11 then 0 else if k = 3 ∨ k = 10 then 1 else if k = 4 then 1 else if k = 7 then 0 else if k = 12 then P 19 else 0
def bndM (k : Int) : Int := if k = 1 ∨ k = 5 ∨ k = 9 then 1099511627776 else if k = 2 ∨ k = 11 then 1048576 else if k = 3 ∨ k = 10 then 1048576 else if k = 4 then 18446744073709551615 else if k = 7 then 10000 else if k = 12 then 16777216 else 18446744073709551615
def okP (P : Nat → Int) (k : Int) : Prop := bndL P k ≤ (getN P k : Int) ∧ (getN P k : Int) ≤ bndM k
instance (P : Nat → Int) (k : Int) : Decidable (okP P k) := inferInstanceAs (Decidable (_ ∧ _))
/-- The first invalid key when m are still to be looked at. -/
def fiGo (P : Nat → Int) : Nat → Int
  | 0 => 0
  | m + 1 => if okP P (12 - (m : Int)) then fiGo P m else 12 - (m : Int)
def fiV (P : Nat → Int) : Int := fiGo P 12
/-- All cells are of their kind. -/
def PW (P : Nat → Int) : Prop := ∀ i, 0 ≤ P i ∧ P i < 18446744073709551616
theorem getL_w {P : Nat → Int} (h : PW P) (k : Int) (j : Nat) : 0 ≤ getL P k j ∧ getL P k j < 18446744073709551616 := by
  unfold getL
  split
  · exact h _
  · split
    · split
      · exact h _
      · omega
    · omega
theorem valL_U {n : Nat → Int} (h : ∀ j, 0 ≤ n j ∧ n j < 18446744073709551616) : isU (valL n) (n 0) (n 1) (n 2) (n 3) := by
  have h0 := h 0; have h1 := h 1; have h2 := h 2; have h3 := h 3
  refine ⟨h0.1, h1.1, h2.1, h3.1, h0.2, h1.2, h2.2, h3.2, ?_⟩
  unfold valL
  omega
theorem getU {P : Nat → Int} (h : PW P) (k : Int) : isU (getN P k) (getL P k 0) (getL P k 1) (getL P k 2) (getL P k 3) := valL_U (getL_w h k)
theorem bndL_w {P : Nat → Int} (h : PW P) (k : Int) : 0 ≤ bndL P k ∧ bndL P k < 18446744073709551616 := by
  have := h 19
  unfold bndL
  repeat' split
  all_goals omega
theorem bndM_w (k : Int) : 0 ≤ bndM k ∧ bndM k < 18446744073709551616 := by
  unfold bndM
  repeat' split
  all_goals omega
/-- The parameter of a key replaced. -/
def setP (P : Nat → Int) (k : Int) (n : Nat → Int) : Nat → Int := fun i => match f256 k with | some o => if o ≤ i ∧ i < o + 4 then n (i - o) else P i | none => match f64 k with | some o => if i = o then n 0 else P i | none => P i
def setE (P : Nat → Int) (k : Int) (n : Nat → Int) : Int := if ¬ (1 ≤ k ∧ k ≤ 12) then 17 else if fiV P ≠ 0 ∨ (f256 k = none ∧ ¬ valL n < 18446744073709551616) then 15 else if fiV (setP P k n) ≠ 0 then 15 else 0
def setR (P : Nat → Int) (k : Int) (n : Nat → Int) : Nat → Int := fun i => if setE P k n = 0 then setP P k n i else 0
theorem setP_w {P : Nat → Int} (h : PW P) {n : Nat → Int} (hn : ∀ j, 0 ≤ n j ∧ n j < 18446744073709551616) (k : Int) : PW (setP P k n) := by
  intro i
  unfold setP
  split
  · split
    · exact hn _
    · exact h _
  · split
    · split
      · exact hn _
      · exact h _
    · exact h _
def Gen : Nat → Int
  | 0 => 7000000 | 1 => 10 | 2 => 102 | 3 => 100000000 | 7 => 32000000 | 8 => 60000000 | 12 => 1000 | 13 => 10 | 17 => 160000000 | 18 => 10 | 19 => 16 | 20 => 65536 | _ => 0
theorem Gen_w : PW Gen := by
  intro i
  unfold Gen
  split <;> omega
theorem Gen_ok : fiV Gen = 0 := by decide
theorem zero_fi : fiV (fun _ => 0) = 1 := by decide
end Go.Proofs.Ytkneiobohhhcpaa
