/- Package pontageref1, walked: Checked, Uint64, Max256, FromUint64. -/
import Derived.WalkKit
import Derived.KernelRfl
import Derived.RowKit3
import Derived.Deep.LoopGhost
import Derived.Deep.QuietTactic
import Derived.BigQuiet
import Derived.WideLaws
import Derived.Laws.Rows
import Derived.Below
import Derived.Deep.Draws
import Derived.Outline
import Derived.LoopN
import Derived.Handy
import Derived.Laws.Externs
import Derived.Laws.BitsAllLaws
import Derived.Laws.BitsLemmas
import Derived.Deep.DeepCutAuto
import Derived.Deep.CutBlock
import Derived.Deep.RegionHeld3
import Derived.Test.YtejffhdfbopbpaaR3
namespace Go.Proofs.Ytejffhdfbopbpaa
open Go.RowKit
set_option linter.unusedVariables false
set_option linter.unusedSimpArgs false
theorem m256_16 : M256 = 65536 ^ 16 := by decide +kernel
theorem nd16 {N : Nat} : nd N ≤ 16 ↔ N < M256 := by
  rw [m256_16]
  exact ⟨lt_of_nd, nd_le_of⟩
def chkV (N : Nat) : Nat := if N < M256 then N else 0
def chkE (N : Nat) : Int := if N < M256 then 0 else 4
theorem chkV_add (A B : Nat) : chkV (A + B) = addV A B := rfl
theorem chkE_add (A B : Nat) : chkE (A + B) = addE A B := rfl
theorem chkV_mul (A B : Nat) : chkV (A * B) = mulV A B := rfl
theorem chkE_mul (A B : Nat) : chkE (A * B) = mulE A B := rfl
theorem chkV_lt (N : Nat) : chkV N < M256 := by unfold chkV; split <;> first | assumption | decide
/-- ToUint256 of a number that fits. -/
theorem toU_big {N n c : Nat} {ad : Option Addr} {w : World} (h : Hid (Big w ad n c N)) (hlen : n ≤ 100000) (hN : N < M256) :
    Calls Try.prog 16 #[.slice ad n c] w fun e w' => e = .returned (.agg #[.int .u64 (lim N 0), .int .u64 (lim N 1), .int .u64 (lim N 2), .int .u64 (lim N 3)]) ∧ Below w.heap.size w w' := by
  have := toU_c (digs_dig N) ad n c (hide h.out.hn) hlen w (hide h.out.row)
  rwa [List.take_of_length_le (nd16.2 hN), val_dig] at this
theorem from64_c {x : Int} (h0 : 0 ≤ x) (h1 : x < 18446744073709551616) (w : World) :
    Calls Try.prog 18 #[.int .u64 x] w fun e w' => ∃ ad n c, e = .returned (.slice ad n c) ∧ Hid (Big w' ad n c x.toNat) ∧ n ≤ 16 ∧ Below w.heap.size w w' := by
  have HX := hide (isU_one h0 h1)
  go_enter Try.func18, Try.ntmps18
  go_wp2_with fail
  refine (from256_c HX.out _).mono ?_
  rintro e w1 ⟨ad, n, c, rfl, hB, hn, hb⟩
  go_wp2
  go_ret
  exact ⟨_, _, _, rfl, hB, hn, hb⟩
end Go.Proofs.Ytejffhdfbopbpaa
