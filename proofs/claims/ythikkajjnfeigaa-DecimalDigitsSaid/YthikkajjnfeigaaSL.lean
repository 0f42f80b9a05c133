/- math/bits.Len64 by the shelf's contract, laid in plain words. -/
import Derived.Shelf.Strconv.Itoa0
import Derived.Lib.ItoaNum
import Derived.Test.YthikkajjnfeigaaProg
namespace Go.Proofs.Ythikkajjnfeigaa
open Go.Shelf
def lays129_ren : Go.Shelf.Ren := ⟨fun | 129 => 47 | n => n, fun | 53 => 22 | 3 => 3 | 4 => 4 | 46 => 50 | 5 => 5 | 9 => 9 | n => n, fun | n => n⟩
theorem lays129 : Go.Proofs.Lays.n129 Try.prog lays129_ren := {
  mixed := by kernel_rfl
  f129 := Try.func47.trans (congrArg some (by kernel_rfl))
  t3 := Try.underlying3
  a3 := Try.isAgg3
  z3 := Try.sizeOf3
  v3 := Try.zeroValue3
  t4 := Try.underlying4
  a4 := Try.isAgg4
  z4 := Try.sizeOf4
  v4 := Try.zeroValue4
  t5 := Try.underlying5
  a5 := Try.isAgg5
  z5 := Try.sizeOf5
  v5 := Try.zeroValue5
  t9 := Try.underlying9
  a9 := Try.isAgg9
  z9 := Try.sizeOf9
  v9 := Try.zeroValue9
  t46 := Try.underlying50
  a46 := Try.isAgg50
  z46 := Try.sizeOf50
  v46 := Try.zeroValue50
  t53 := Try.underlying22
  a53 := Try.isAgg22
  z53 := Try.sizeOf22
  v53 := Try.zeroValue22 }
/-- The number of binary digits. -/
def blN (A : Nat) : Nat := if A = 0 then 0 else A.log2 + 1
def blI (A : Nat) : Int := (blN A : Int)
theorem blN_lib (x : Nat) (h : x < 18446744073709551616) : Lib.bitLen x = blN x := by
  unfold blN
  split
  · rename_i h0; subst h0; rfl
  · rename_i h0
    obtain ⟨a, b, c⟩ := Lib.bitLenAux_bounds 64 x h h0
    have := (Nat.log2_eq_iff h0 (k := Lib.bitLenAux 64 x - 1)).2 ⟨b, by rwa [Nat.sub_add_cancel a]⟩
    rw [this]
    show Lib.bitLenAux 64 x = _
    omega
theorem len64_c {x : Int} (h0 : 0 ≤ x) (h1 : x < 18446744073709551616) (w : World) :
    Calls Try.prog 47 #[.int .u64 x] w fun e w' => e = .returned (.int .i64 (blI x.toNat)) ∧ w = w' := by
  refine (Any.bits_Len64 lays129 x w h0 (by omega)).mono ?_
  rintro e w' ⟨rfl, rfl⟩
  exact ⟨by rw [blN_lib _ (by omega)]; rfl, rfl⟩
theorem blN_top {A a : Nat} (i : Nat) (h0 : a ≠ 0) (hlo : a * 2 ^ i ≤ A) (hhi : A < (a + 1) * 2 ^ i) : blN A = i + blN a := by
  have hp : 0 < 2 ^ i := Nat.two_pow_pos i
  have hA : A ≠ 0 := by
    have : 1 * 2 ^ i ≤ a * 2 ^ i := Nat.mul_le_mul_right _ (by omega)
    omega
  have h1 := Nat.log2_self_le h0
  have h2 := @Nat.lt_log2_self a
  unfold blN
  rw [if_neg hA, if_neg h0, (Nat.log2_eq_iff hA (k := i + a.log2)).2 ⟨?_, ?_⟩]
  · omega
  · calc 2 ^ (i + a.log2) = 2 ^ a.log2 * 2 ^ i := by rw [Nat.pow_add, Nat.mul_comm]
      _ ≤ a * 2 ^ i := Nat.mul_le_mul_right _ h1
      _ ≤ A := hlo
  · calc A < (a + 1) * 2 ^ i := hhi
      _ ≤ 2 ^ (a.log2 + 1) * 2 ^ i := Nat.mul_le_mul_right _ h2
      _ = 2 ^ (i + a.log2 + 1) := by rw [← Nat.pow_add]; congr 1; omega
theorem blN_zero : blN 0 = 0 := rfl
theorem blN_le {A k : Nat} (h : A < 2 ^ k) : blN A ≤ k := by
  unfold blN
  split
  · omega
  · rename_i h0
    have := (Nat.log2_lt h0).2 h
    omega
theorem blN_pos {A : Nat} (h : A ≠ 0) : 1 ≤ blN A := by unfold blN; rw [if_neg h]; omega
theorem blN_spec {A : Nat} (h : A ≠ 0) : 2 ^ (blN A - 1) ≤ A ∧ A < 2 ^ blN A := by
  unfold blN; rw [if_neg h]
  exact ⟨Nat.log2_self_le h, Nat.lt_log2_self⟩
theorem blN_lt {A : Nat} : A < 2 ^ blN A := by
  by_cases h : A = 0
  · subst h; decide
  · exact (blN_spec h).2
end Go.Proofs.Ythikkajjnfeigaa
