/- Package pontageref1: ToUint256 of a number. -/
import Derived.WalkKit
import Derived.KernelRfl
import Derived.RowKit3
import Derived.Deep.LoopGhost
import Derived.Deep.QuietTactic
import Derived.BigQuiet
import Derived.WideLaws
import Derived.Laws.Rows
import Derived.Below
import Derived.Deep.Draws
import Derived.Outline
import Derived.LoopN
import Derived.Handy
import Derived.Laws.Externs
import Derived.Laws.BitsAllLaws
import Derived.Laws.BitsLemmas
import Derived.Deep.DeepCutAuto
import Derived.Deep.CutBlock
import Derived.Deep.RegionHeld3
import Derived.Test.YthikkajjnfeigaaR14
namespace Go.Proofs.Ythikkajjnfeigaa
open Go.RowKit
set_option linter.unusedVariables false
theorem toBig_c {N : Nat} (hN : N < M256) {ad : Option Addr} {n c : Nat} {w : World} (h : Hid (Big w ad n c N)) (hlen : n ≤ 100000) :
    Calls Try.prog 40 #[.slice ad n c] w fun e w' => e = .returned (.agg #[.int .u64 (lim N 0), .int .u64 (lim N 1), .int .u64 (lim N 2), .int .u64 (lim N 3)]) ∧ Below w.heap.size w w' := by
  have hl : val ((dig N).take 16) = N := by rw [List.take_of_length_le (show (dig N).length ≤ 16 from nd16.2 hN), val_dig]
  have := toU_c (digs_dig N) ad n c (hide h.out.hn) hlen w (hide h.out.row)
  rwa [hl] at this
end Go.Proofs.Ythikkajjnfeigaa
