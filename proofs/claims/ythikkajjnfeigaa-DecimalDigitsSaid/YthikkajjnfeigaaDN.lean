/- Chapter 4, plain: nines. -/
import Derived.Test.YthikkajjnfeigaaDQ
namespace Go.Proofs.Ythikkajjnfeigaa
set_option linter.unusedVariables false
set_option linter.unusedSimpArgs false
theorem pv_nines : ∀ (k a : Nat), pv (List.replicate k 57) a + 1 = (a + 1) * 10 ^ k
  | 0, a => by simp [pv]
  | k + 1, a => by
    have h := pv_nines k (a * 10 + 9)
    have e : pv (List.replicate (k + 1) 57) a = pv (List.replicate k 57) (a * 10 + 9) := by
      rw [List.replicate_succ, pv_cons, Nat.mul_comm 10 a]
      rfl
    rw [e, h, Nat.pow_succ, Nat.mul_comm (10 ^ k) 10, ← Nat.mul_assoc]
    congr 1
    omega
theorem can_nines {k : Nat} (h : 0 < k) : canB (List.replicate k 57) = true := by
  rw [canB_iff]
  refine ⟨?_, ?_, ?_⟩
  · intro e
    have := congrArg List.length e
    simp at this
    omega
  · intro c hc
    obtain ⟨_, rfl⟩ := List.mem_replicate.1 hc
    decide
  · intro _
    obtain ⟨n, rfl⟩ : ∃ n, k = n + 1 := ⟨k - 1, by omega⟩
    rw [List.replicate_succ]
    simp
theorem nines_zero : prE (List.replicate 0 57) = 3 := by decide
theorem p77 : 10 ^ 77 < M256 := by decide
theorem p78 : M256 < 10 ^ 78 := by decide
theorem nines_fit {k : Nat} (h : 0 < k) (h7 : k ≤ 77) : prE (List.replicate k 57) = 0 := by
  have h1 := pv_nines k 0
  have h2 : 10 ^ k ≤ 10 ^ 77 := Nat.pow_le_pow_right (by decide) h7
  have h3 : pv (List.replicate k 57) 0 < M256 := by
    have := p77
    generalize 10 ^ 77 = y at *
    omega
  rw [prE, if_pos (can_nines h), if_pos h3]
theorem nines_over {k : Nat} (h7 : 77 < k) : prE (List.replicate k 57) = 4 := by
  have h1 := pv_nines k 0
  have h2 : 10 ^ 78 ≤ 10 ^ k := Nat.pow_le_pow_right (by decide) h7
  have h3 : ¬ pv (List.replicate k 57) 0 < M256 := by
    have := p78
    generalize 10 ^ 78 = y at *
    omega
  rw [prE, if_pos (can_nines (by omega)), if_neg h3]
end Go.Proofs.Ythikkajjnfeigaa
