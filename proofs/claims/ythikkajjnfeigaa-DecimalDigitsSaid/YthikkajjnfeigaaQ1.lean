/- math/bits.Div64, walked. -/
import Derived.WalkKit
import Derived.KernelRfl
import Derived.RowKit3
import Derived.Deep.LoopGhost
import Derived.Deep.QuietTactic
import Derived.BigQuiet
import Derived.WideLaws
import Derived.Laws.Rows
import Derived.Below
import Derived.Deep.Draws
import Derived.Outline
import Derived.LoopN
import Derived.Handy
import Derived.Laws.Externs
import Derived.Laws.BitsAllLaws
import Derived.Laws.BitsLemmas
import Derived.Deep.DeepCutAuto
import Derived.Deep.CutBlock
import Derived.Deep.RegionHeld3
import Derived.Test.YthikkajjnfeigaaSL
import Derived.Test.YthikkajjnfeigaaQ0
namespace Go.Proofs.Ythikkajjnfeigaa
open Go.RowKit
set_option linter.unusedVariables false
set_option linter.unusedSimpArgs false
theorem wrap_mod (x : Int) : IntKind.u64.wrap x = x % 18446744073709551616 := IntKind.wrap_u64 x
theorem blI_rg {X : Nat} (h0 : X ≠ 0) (h : X < 18446744073709551616) : ∃ s : Nat, s < 64 ∧ 64 - blI X = (s : Int) ∧ 9223372036854775808 ≤ X * 2 ^ s ∧ X * 2 ^ s < 18446744073709551616 := by
  have h1 : blN X ≤ 64 := blN_le (by exact h)
  have h2 := blN_pos h0
  obtain ⟨h3, h4⟩ := blN_spec h0
  refine ⟨64 - blN X, by omega, by unfold blI; omega, ?_, ?_⟩
  · calc 9223372036854775808 = 2 ^ (blN X - 1) * 2 ^ (64 - blN X) := by rw [← Nat.pow_add, show blN X - 1 + (64 - blN X) = 63 by omega]
      _ ≤ X * 2 ^ (64 - blN X) := Nat.mul_le_mul_right _ h3
  · calc X * 2 ^ (64 - blN X) < 2 ^ blN X * 2 ^ (64 - blN X) := Nat.mul_lt_mul_of_pos_right h4 (Nat.pow_pos (by omega))
      _ = 18446744073709551616 := by rw [← Nat.pow_add, show blN X + (64 - blN X) = 64 by omega]
theorem lz64_c {x : Int} (h0 : 0 < x) (h1 : x < 18446744073709551616) : ∃ s : Nat, s < 64 ∧ 9223372036854775808 ≤ x * 2 ^ s ∧ x * 2 ^ s < 18446744073709551616 ∧ ∀ w, Calls Try.prog 42 #[.int .u64 x] w fun e w' => e = .returned (.int .i64 s) ∧ w = w' := by
  obtain ⟨X, rfl⟩ := Int.eq_ofNat_of_zero_le (Int.le_of_lt h0)
  obtain ⟨s, hs, hb, hlo, hhi⟩ := blI_rg (X := X) (by omega) (by omega)
  have ee : ((X : Int) * 2 ^ s) = ((X * 2 ^ s : Nat) : Int) := by simp
  refine ⟨s, hs, by rw [ee]; omega, by rw [ee]; omega, fun w => ?_⟩
  clear ee
  have hb0 : 0 ≤ blI X := by unfold blI; omega
  have hb1 : blI X ≤ 64 := by omega
  go_enter Try.func42, Try.ntmps42
  go_wp2_with fail
  refine (len64_c (Int.le_of_lt h0) h1 _).mono ?_
  rintro e w1 ⟨rfl, rfl⟩
  rw [Int.toNat_natCast]
  go_wp2
  go_ret
  exact ⟨rfl, rfl⟩
/-- The normalised divisor and dividend. -/
theorem norm_facts {h l y : Int} {s : Nat} (hs : s < 64) (h0 : 0 ≤ h) (hy : h < y) (l0 : 0 ≤ l) (l1 : l < 18446744073709551616) (hi : y * 2 ^ s < 18446744073709551616) :
    ∃ u z : Int, bits .or .u64 (IntKind.u64.wrap (h * 2 ^ s)) (l / 2 ^ (64 - s)) = u ∧ IntKind.u64.wrap (l * 2 ^ s) = z ∧ 0 ≤ u ∧ u < y * 2 ^ s ∧ 0 ≤ z ∧ z < 18446744073709551616 ∧ (h * 18446744073709551616 + l) * 2 ^ s = u * 18446744073709551616 + z := by
  obtain ⟨H, rfl⟩ := Int.eq_ofNat_of_zero_le h0
  obtain ⟨L, rfl⟩ := Int.eq_ofNat_of_zero_le l0
  obtain ⟨Y, rfl⟩ := Int.eq_ofNat_of_zero_le (show 0 ≤ y by omega)
  have hp : 0 < 2 ^ s := Nat.pow_pos (by omega)
  have hi' : Y * 2 ^ s < 18446744073709551616 := by
    have ee : ((Y : Int) * 2 ^ s) = ((Y * 2 ^ s : Nat) : Int) := by simp
    rw [ee] at hi
    omega
  have h1 : (H + 1) * 2 ^ s ≤ Y * 2 ^ s := Nat.mul_le_mul_right _ (by omega)
  have hpp : 2 ^ (64 - s) * 2 ^ s = 18446744073709551616 := by rw [← Nat.pow_add, show 64 - s + s = 64 by omega]
  have hq : L / 2 ^ (64 - s) < 2 ^ s := Nat.div_lt_of_lt_mul (by rw [hpp]; omega)
  have hd : L * 2 ^ s / 18446744073709551616 = L / 2 ^ (64 - s) := by rw [← hpp, Nat.mul_div_mul_right _ _ hp]
  have hdm := Nat.div_add_mod (L * 2 ^ s) 18446744073709551616
  rw [hd] at hdm
  rw [Nat.add_mul] at h1
  have e1 : ((H : Int) * 2 ^ s) = ((H * 2 ^ s : Nat) : Int) := by simp
  have e2 : ((L : Int) / 2 ^ (64 - s)) = ((L / 2 ^ (64 - s) : Nat) : Int) := by simp
  have e3 : ((L : Int) * 2 ^ s) = ((L * 2 ^ s : Nat) : Int) := by simp
  have e4 : ((Y : Int) * 2 ^ s) = ((Y * 2 ^ s : Nat) : Int) := by simp
  refine ⟨((H * 2 ^ s + L / 2 ^ (64 - s) : Nat) : Int), ((L * 2 ^ s % 18446744073709551616 : Nat) : Int), ?_, ?_, by omega, by rw [e4]; omega, by omega, by omega, ?_⟩
  · rw [e1, e2, wrap_mod, Int.emod_eq_of_lt (by omega) (by omega), bits_or_u64_nat _ _ (by omega) (by omega), Nat.mul_comm H, ← Nat.two_pow_add_eq_or_of_lt hq]
  · rw [e3, wrap_mod]; omega
  · rw [Int.add_mul, e3, Int.mul_assoc, Int.mul_comm 18446744073709551616, ← Int.mul_assoc, e1]
    omega
theorem and_mask {z : Int} (h0 : 0 ≤ z) (h1 : z < 18446744073709551616) : bits .and .u64 z 4294967295 = z % 4294967296 := by
  obtain ⟨Z, rfl⟩ := Int.eq_ofNat_of_zero_le h0
  rw [show (4294967295 : Int) = ((4294967295 : Nat) : Int) from rfl, bits_and_u64_nat _ _ (by omega) (by omega), show (4294967295 : Nat) = 2 ^ 32 - 1 from rfl, Nat.and_two_pow_sub_one_eq_mod]
  simp
/-- The digit by which the guess ends, and the remainder that it leaves. -/
theorem digit_facts {Y u z1 a b : Int} (d : KDiv a b u z1) (hY : Y = a * 4294967296 + b) (hY1 : Y < 18446744073709551616) :
    ∃ Q x A1 A2 A3 : Int, Q = (u * 4294967296 + z1) / Y ∧ x = (u * 4294967296 + z1) % Y ∧ 0 ≤ Q ∧ Q < 4294967296 ∧ 0 ≤ x ∧ x < Y ∧ IntKind.u64.wrap (u * 4294967296) = A1 ∧ IntKind.u64.wrap (A1 + z1) = A2 ∧ IntKind.u64.wrap (Q * Y) = A3 ∧ IntKind.u64.wrap (A2 - A3) = x := by
  have hp := d.pos
  rw [← hY] at hp
  have hu := d.u0; have hl := d.ul; have hv := d.v0; have hv1 := d.v1
  rw [← hY] at hl
  have hr := rem_wrap (A := u * 4294967296 + z1) hp hY1 rfl
  refine ⟨_, _, _, _, _, rfl, rfl, Int.ediv_nonneg (by omega) (by omega), Int.ediv_lt_of_lt_mul hp (by omega), Int.emod_nonneg _ (by omega), Int.emod_lt_of_pos _ hp, rfl, rfl, rfl, ?_⟩
  rw [← hr]
  generalize (u * 4294967296 + z1) / Y * Y = t
  simp only [wrap_mod]
  omega
theorem guess_facts {a b u z1 : Int} (d : KDiv a b u z1) : ∃ m r : Int, IntKind.u64.wrap (u / a * a) = m ∧ IntKind.u64.wrap (u - m) = r ∧ r < 4294967296 ∧ KInv a b u z1 (u / a) r := by
  have hs := KInv.start d
  have ha := d.a0; have ha1 := d.a1; have hb1 := d.b1; have hu := d.u0; have hl := d.ul
  have hue := hs.ue
  have hr := hs.r0
  have hlt := Int.emod_lt_of_pos u (show 0 < a by omega)
  have hqa : 0 ≤ u / a * a := Int.mul_nonneg hs.q0 (by omega)
  have e1 : IntKind.u64.wrap (u / a * a) = u / a * a := by rw [wrap_mod]; omega
  refine ⟨_, _, rfl, rfl, ?_⟩
  rw [e1, show u - u / a * a = u % a by omega, wrap_mod, Int.emod_eq_of_lt (by omega) (by omega)]
  exact ⟨by omega, hs⟩
theorem prod_facts {a b u z1 q : Int} (d : KDiv a b u z1) (h0 : 0 ≤ q) (h : q < 4294967296) : ∃ m : Int, IntKind.u64.wrap (q * b) = m ∧ m = q * b := by
  have hb0 := d.b0; have hb1 := d.b1
  have h1 : q * b ≤ 4294967296 * b := Int.mul_le_mul_of_nonneg_right (by omega) hb0
  have h2 : 0 ≤ q * b := Int.mul_nonneg h0 hb0
  exact ⟨_, by rw [wrap_mod, Int.emod_eq_of_lt h2 (by omega)], rfl⟩
set_option maxHeartbeats 4000000 in
theorem div64_zero {l y : Int} (l0 : 0 ≤ l) (l1 : l < 18446744073709551616) (y0 : 0 < y) (y1 : y < 18446744073709551616) (w : World) :
    Calls Try.prog 33 #[.int .u64 0, .int .u64 l, .int .u64 y] w fun e w' => e = .returned (.tuple #[.int .u64 (l / y), .int .u64 (l % y)]) ∧ Below w.heap.size w w' := by
  have h1 : (y == 0) = false := by simp; omega
  have h1' : ¬ y = 0 := by omega
  have e1 : l.tdiv y = l / y := Int.tdiv_eq_ediv_of_nonneg l0
  have e2 : l.tmod y = l % y := Int.tmod_eq_emod_of_nonneg l0
  have q0 : 0 ≤ l / y := Int.ediv_nonneg l0 (by omega)
  have q1 : l / y ≤ l := Int.ediv_le_self _ l0
  have r0 : 0 ≤ l % y := Int.emod_nonneg _ (by omega)
  have r1 : l % y < y := Int.emod_lt_of_pos _ y0
  have w1 : IntKind.u64.wrap (l / y) = l / y := by rw [wrap_mod]; omega
  have w2 : IntKind.u64.wrap (l % y) = l % y := by rw [wrap_mod]; omega
  go_enter Try.func33, Try.ntmps33
  go_wp2_with fail
  go_region
  all_goals go_wp2
  all_goals go_ret2
  all_goals exact ⟨rfl, (by (repeat' (first | (with_reducible exact Below.refl _ _) | (with_reducible assumption) | (with_reducible refine Below.alloc ?_ ?_ _) | (with_reducible refine Below.drew ?_) | (with_reducible refine below_drewN ?_ _) | (with_reducible refine Below.setCell ?_ ?_ _) | (with_reducible refine below_step (by with_reducible assumption) ?_ ?_) | (first | (with_reducible exact Nat.le_refl _) | (with_reducible assumption) | omega | (simp only [World.size_alloc, World.size_setCell, World.size_drew, size_drewN]; omega) | (simp; omega) | (simp; done)))))⟩
set_option maxHeartbeats 16000000 in
theorem div64_big {h l y : Int} (h0 : 0 < h) (hy : h < y) (hy1 : y < 18446744073709551616) (l0 : 0 ≤ l) (l1 : l < 18446744073709551616) (w : World) :
    Calls Try.prog 33 #[.int .u64 h, .int .u64 l, .int .u64 y] w fun e w' => e = .returned (.tuple #[.int .u64 ((h * 18446744073709551616 + l) / y), .int .u64 ((h * 18446744073709551616 + l) % y)]) ∧ Below w.heap.size w w' := by
  obtain ⟨s, hs, hlo, hhi, HL⟩ := lz64_c (x := y) (by omega) hy1
  obtain ⟨u, z, eu, ez, u0, ul, z0, z1, eN⟩ := norm_facts hs (Int.le_of_lt h0) hy l0 l1 hhi
  obtain ⟨Y, hY⟩ : ∃ Y, y * 2 ^ s = Y := ⟨_, rfl⟩
  rw [hY] at hlo hhi ul
  have eY : IntKind.u64.wrap (y * 2 ^ s) = Y := by rw [hY, wrap_mod]; omega
  have hp : (0 : Int) < 2 ^ s := Int.pow_pos (by omega)
  have hsc := scaled (n := h * 18446744073709551616 + l) (y := y) (p := 2 ^ s) (by omega) hp
  rw [eN, hY] at hsc
  obtain ⟨a, ea⟩ : ∃ a, Y / 4294967296 = a := ⟨_, rfl⟩
  obtain ⟨b, eb'⟩ : ∃ b, Y % 4294967296 = b := ⟨_, rfl⟩
  have eb : bits .and .u64 Y 4294967295 = b := by rw [and_mask (by omega) (by omega), eb']
  obtain ⟨v1, ev1⟩ : ∃ a, z / 4294967296 = a := ⟨_, rfl⟩
  obtain ⟨v0, ev0'⟩ : ∃ b, z % 4294967296 = b := ⟨_, rfl⟩
  have ev0 : bits .and .u64 z 4294967295 = v0 := by rw [and_mask z0 z1, ev0']
  have d1 : KDiv a b u v1 := ⟨by omega, by omega, by omega, by omega, u0, by omega, by omega, by omega⟩
  have eYab : Y = a * 4294967296 + b := by omega
  obtain ⟨Q1, x, A1, A2, A3, eQ, ex, Q10, Q11, x0, x1, w1, w2, w3, w4⟩ := digit_facts d1 eYab hhi
  have d2 : KDiv a b x v0 := ⟨d1.a0, d1.a1, d1.b0, d1.b1, x0, by omega, by omega, by omega⟩
  obtain ⟨Q0, t, C1, C2, C3, eQ0, et, Q00, Q01, t0, t1, w5, w6, w7, w8⟩ := digit_facts d2 eYab hhi
  obtain ⟨m, r, g2, g3, g4, I1⟩ := guess_facts d1
  obtain ⟨m', r', g2', g3', g4', I2⟩ := guess_facts d2
  obtain ⟨T1, T2⟩ := two_digits (Y := Y) (N := u * 18446744073709551616 + z) (u := u) (z1 := v1) (z0 := v0) (x := x) (by omega) (by omega) ex (by omega)
  rw [← eQ, ← eQ0] at T1
  rw [← et] at T2
  have F1 : Q1 * 4294967296 + Q0 = (h * 18446744073709551616 + l) / y := by rw [← T1]; exact hsc.1
  have F2 : t / 2 ^ s = (h * 18446744073709551616 + l) % y := by rw [← T2]; exact hsc.2
  rw [← F1, ← F2]
  have y0 : (y == 0) = false := by simp; omega
  have h0' : (h == 0) = false := by simp; omega
  have av0 := d1.v0
  have av1 := d1.v1
  have aw0 := d2.v0
  have aw1 := d2.v1
  have aa0 := d1.a0
  have aa1 := d1.a1
  have aza : ¬ a = 0 := by omega
  have e15 : IntKind.u64.wrap (Q1 * 4294967296) = Q1 * 4294967296 := by rw [wrap_mod]; omega
  replace HL := hide HL
  have D1 := hide d1
  have D2 := hide d2
  have I1' := hide I1
  have I2' := hide I2
  have EQ := hide (And.intro eQ eQ0)
  rw [eYab] at EQ
  obtain ⟨R, eR⟩ : ∃ R, t / 2 ^ s = R := ⟨_, rfl⟩
  rw [eR]
  clear T1 T2 F1 F2 d1 d2 I1 I2 eQ eQ0 ex et hsc eN eYab eb' ev0' hY hlo t1
  have a1 : 1 ≤ a := by omega
  go_enter Try.func33, Try.ntmps33
  go_wp2_with fail
  refine (HL.out _).mono ?_
  rintro e w1 ⟨rfl, rfl⟩
  go_wp2
  go_loop [15, 16] (fun q r => ∃ (n k : Int), q = .int .u64 n ∧ r = .int .u64 k ∧ k < 4294967296 ∧ Hid (KInv a b u v1 n k)) (fun q _ => (intOf q).toNat)
  case atStart => exact ⟨_, _, rfl, rfl, g4, I1'⟩
  case round =>
    obtain ⟨n, k, rfl, rfl, hk, I⟩ := hrel
    clear I1' g2 g3 g4
    have n0 := I.out.q0
    have n1 := I.out.q1
    have k0 := I.out.r0
    rcases Int.lt_or_le n 4294967296 with hn | hn
    · obtain ⟨pm, P1, P2⟩ := prod_facts D1.out n0 hn
      rcases Int.lt_or_le (4294967296 * k + v1) pm with hc | hc
      · have ID := I.out.down D1.out (.inr (P2 ▸ hc))
        have n1' := ID.2
        have IX := hide ID.1
        clear ID P2
        by_cases hb : k + a < 4294967296
        · go_wp2
          go_round
          case rel => exact ⟨_, _, rfl, rfl, hb, IX⟩
          case measure => simp [intOf]; omega
        · have hQ : n - 1 = Q1 := by rw [EQ.out.1]; exact IX.out.done2 D1.out (by omega) (by omega)
          clear IX I
          go_wp2
          go_loop [18, 16] (fun q r => ∃ (n k : Int), q = .int .u64 n ∧ r = .int .u64 k ∧ k < 4294967296 ∧ Hid (KInv a b x v0 n k)) (fun q _ => (intOf q).toNat)
          case atStart => exact ⟨_, _, rfl, rfl, g4', I2'⟩
          case round =>
            obtain ⟨j, p, rfl, rfl, hp, J⟩ := hrel
            clear I2' g2' g3' g4'
            have j0 := J.out.q0
            have j1 := J.out.q1
            have p0 := J.out.r0
            rcases Int.lt_or_le j 4294967296 with hj | hj
            · obtain ⟨pj, R1, R2⟩ := prod_facts D2.out j0 hj
              rcases Int.lt_or_le (4294967296 * p + v0) pj with hd | hd
              · have ID := J.out.down D2.out (.inr (R2 ▸ hd))
                have j1' := ID.2
                have IX := hide ID.1
                clear ID R2
                by_cases hb2 : p + a < 4294967296
                · go_wp2
                  go_round
                  case rel => exact ⟨_, _, rfl, rfl, hb2, IX⟩
                  case measure => simp [intOf]; omega
                · have hQ : j - 1 = Q0 := by rw [EQ.out.2]; exact IX.out.done2 D2.out (by omega) (by omega)
                  clear IX J
                  go_wp2
                  go_ret2
                  exact ⟨rfl, (by (repeat' (first | (with_reducible exact Below.refl _ _) | (with_reducible assumption) | (with_reducible refine Below.alloc ?_ ?_ _) | (with_reducible refine Below.drew ?_) | (with_reducible refine below_drewN ?_ _) | (with_reducible refine Below.setCell ?_ ?_ _) | (with_reducible refine below_step (by with_reducible assumption) ?_ ?_) | (first | (with_reducible exact Nat.le_refl _) | (with_reducible assumption) | omega | (simp only [World.size_alloc, World.size_setCell, World.size_drew, size_drewN]; omega) | (simp; omega) | (simp; done)))))⟩
              · have hQ : j = Q0 := by rw [EQ.out.2]; exact J.out.done D2.out (R2 ▸ hd)
                clear J R2
                subst hQ
                go_wp2
                go_ret2
                exact ⟨rfl, (by (repeat' (first | (with_reducible exact Below.refl _ _) | (with_reducible assumption) | (with_reducible refine Below.alloc ?_ ?_ _) | (with_reducible refine Below.drew ?_) | (with_reducible refine below_drewN ?_ _) | (with_reducible refine Below.setCell ?_ ?_ _) | (with_reducible refine below_step (by with_reducible assumption) ?_ ?_) | (first | (with_reducible exact Nat.le_refl _) | (with_reducible assumption) | omega | (simp only [World.size_alloc, World.size_setCell, World.size_drew, size_drewN]; omega) | (simp; omega) | (simp; done)))))⟩
            · have ID := J.out.down D2.out (.inl hj)
              have j1' := ID.2
              have IX := hide ID.1
              clear ID
              by_cases hb2 : p + a < 4294967296
              · go_wp2
                go_round
                case rel => exact ⟨_, _, rfl, rfl, hb2, IX⟩
                case measure => simp [intOf]; omega
              · have hQ : j - 1 = Q0 := by rw [EQ.out.2]; exact IX.out.done2 D2.out (by omega) (by omega)
                clear IX J
                go_wp2
                go_ret2
                exact ⟨rfl, (by (repeat' (first | (with_reducible exact Below.refl _ _) | (with_reducible assumption) | (with_reducible refine Below.alloc ?_ ?_ _) | (with_reducible refine Below.drew ?_) | (with_reducible refine below_drewN ?_ _) | (with_reducible refine Below.setCell ?_ ?_ _) | (with_reducible refine below_step (by with_reducible assumption) ?_ ?_) | (first | (with_reducible exact Nat.le_refl _) | (with_reducible assumption) | omega | (simp only [World.size_alloc, World.size_setCell, World.size_drew, size_drewN]; omega) | (simp; omega) | (simp; done)))))⟩
      · have hQ : n = Q1 := by rw [EQ.out.1]; exact I.out.done D1.out (P2 ▸ hc)
        clear I P2
        subst hQ
        go_wp2
        go_loop [18, 16] (fun q r => ∃ (n k : Int), q = .int .u64 n ∧ r = .int .u64 k ∧ k < 4294967296 ∧ Hid (KInv a b x v0 n k)) (fun q _ => (intOf q).toNat)
        case atStart => exact ⟨_, _, rfl, rfl, g4', I2'⟩
        case round =>
          obtain ⟨j, p, rfl, rfl, hp, J⟩ := hrel
          clear I2' g2' g3' g4'
          have j0 := J.out.q0
          have j1 := J.out.q1
          have p0 := J.out.r0
          rcases Int.lt_or_le j 4294967296 with hj | hj
          · obtain ⟨pj, R1, R2⟩ := prod_facts D2.out j0 hj
            rcases Int.lt_or_le (4294967296 * p + v0) pj with hd | hd
            · have ID := J.out.down D2.out (.inr (R2 ▸ hd))
              have j1' := ID.2
              have IX := hide ID.1
              clear ID R2
              by_cases hb2 : p + a < 4294967296
              · go_wp2
                go_round
                case rel => exact ⟨_, _, rfl, rfl, hb2, IX⟩
                case measure => simp [intOf]; omega
              · have hQ : j - 1 = Q0 := by rw [EQ.out.2]; exact IX.out.done2 D2.out (by omega) (by omega)
                clear IX J
                go_wp2
                go_ret2
                exact ⟨rfl, (by (repeat' (first | (with_reducible exact Below.refl _ _) | (with_reducible assumption) | (with_reducible refine Below.alloc ?_ ?_ _) | (with_reducible refine Below.drew ?_) | (with_reducible refine below_drewN ?_ _) | (with_reducible refine Below.setCell ?_ ?_ _) | (with_reducible refine below_step (by with_reducible assumption) ?_ ?_) | (first | (with_reducible exact Nat.le_refl _) | (with_reducible assumption) | omega | (simp only [World.size_alloc, World.size_setCell, World.size_drew, size_drewN]; omega) | (simp; omega) | (simp; done)))))⟩
            · have hQ : j = Q0 := by rw [EQ.out.2]; exact J.out.done D2.out (R2 ▸ hd)
              clear J R2
              subst hQ
              go_wp2
              go_ret2
              exact ⟨rfl, (by (repeat' (first | (with_reducible exact Below.refl _ _) | (with_reducible assumption) | (with_reducible refine Below.alloc ?_ ?_ _) | (with_reducible refine Below.drew ?_) | (with_reducible refine below_drewN ?_ _) | (with_reducible refine Below.setCell ?_ ?_ _) | (with_reducible refine below_step (by with_reducible assumption) ?_ ?_) | (first | (with_reducible exact Nat.le_refl _) | (with_reducible assumption) | omega | (simp only [World.size_alloc, World.size_setCell, World.size_drew, size_drewN]; omega) | (simp; omega) | (simp; done)))))⟩
          · have ID := J.out.down D2.out (.inl hj)
            have j1' := ID.2
            have IX := hide ID.1
            clear ID
            by_cases hb2 : p + a < 4294967296
            · go_wp2
              go_round
              case rel => exact ⟨_, _, rfl, rfl, hb2, IX⟩
              case measure => simp [intOf]; omega
            · have hQ : j - 1 = Q0 := by rw [EQ.out.2]; exact IX.out.done2 D2.out (by omega) (by omega)
              clear IX J
              go_wp2
              go_ret2
              exact ⟨rfl, (by (repeat' (first | (with_reducible exact Below.refl _ _) | (with_reducible assumption) | (with_reducible refine Below.alloc ?_ ?_ _) | (with_reducible refine Below.drew ?_) | (with_reducible refine below_drewN ?_ _) | (with_reducible refine Below.setCell ?_ ?_ _) | (with_reducible refine below_step (by with_reducible assumption) ?_ ?_) | (first | (with_reducible exact Nat.le_refl _) | (with_reducible assumption) | omega | (simp only [World.size_alloc, World.size_setCell, World.size_drew, size_drewN]; omega) | (simp; omega) | (simp; done)))))⟩
    · have ID := I.out.down D1.out (.inl hn)
      have n1' := ID.2
      have IX := hide ID.1
      clear ID
      by_cases hb : k + a < 4294967296
      · go_wp2
        go_round
        case rel => exact ⟨_, _, rfl, rfl, hb, IX⟩
        case measure => simp [intOf]; omega
      · have hQ : n - 1 = Q1 := by rw [EQ.out.1]; exact IX.out.done2 D1.out (by omega) (by omega)
        clear IX I
        go_wp2
        go_loop [18, 16] (fun q r => ∃ (n k : Int), q = .int .u64 n ∧ r = .int .u64 k ∧ k < 4294967296 ∧ Hid (KInv a b x v0 n k)) (fun q _ => (intOf q).toNat)
        case atStart => exact ⟨_, _, rfl, rfl, g4', I2'⟩
        case round =>
          obtain ⟨j, p, rfl, rfl, hp, J⟩ := hrel
          clear I2' g2' g3' g4'
          have j0 := J.out.q0
          have j1 := J.out.q1
          have p0 := J.out.r0
          rcases Int.lt_or_le j 4294967296 with hj | hj
          · obtain ⟨pj, R1, R2⟩ := prod_facts D2.out j0 hj
            rcases Int.lt_or_le (4294967296 * p + v0) pj with hd | hd
            · have ID := J.out.down D2.out (.inr (R2 ▸ hd))
              have j1' := ID.2
              have IX := hide ID.1
              clear ID R2
              by_cases hb2 : p + a < 4294967296
              · go_wp2
                go_round
                case rel => exact ⟨_, _, rfl, rfl, hb2, IX⟩
                case measure => simp [intOf]; omega
              · have hQ : j - 1 = Q0 := by rw [EQ.out.2]; exact IX.out.done2 D2.out (by omega) (by omega)
                clear IX J
                go_wp2
                go_ret2
                exact ⟨rfl, (by (repeat' (first | (with_reducible exact Below.refl _ _) | (with_reducible assumption) | (with_reducible refine Below.alloc ?_ ?_ _) | (with_reducible refine Below.drew ?_) | (with_reducible refine below_drewN ?_ _) | (with_reducible refine Below.setCell ?_ ?_ _) | (with_reducible refine below_step (by with_reducible assumption) ?_ ?_) | (first | (with_reducible exact Nat.le_refl _) | (with_reducible assumption) | omega | (simp only [World.size_alloc, World.size_setCell, World.size_drew, size_drewN]; omega) | (simp; omega) | (simp; done)))))⟩
            · have hQ : j = Q0 := by rw [EQ.out.2]; exact J.out.done D2.out (R2 ▸ hd)
              clear J R2
              subst hQ
              go_wp2
              go_ret2
              exact ⟨rfl, (by (repeat' (first | (with_reducible exact Below.refl _ _) | (with_reducible assumption) | (with_reducible refine Below.alloc ?_ ?_ _) | (with_reducible refine Below.drew ?_) | (with_reducible refine below_drewN ?_ _) | (with_reducible refine Below.setCell ?_ ?_ _) | (with_reducible refine below_step (by with_reducible assumption) ?_ ?_) | (first | (with_reducible exact Nat.le_refl _) | (with_reducible assumption) | omega | (simp only [World.size_alloc, World.size_setCell, World.size_drew, size_drewN]; omega) | (simp; omega) | (simp; done)))))⟩
          · have ID := J.out.down D2.out (.inl hj)
            have j1' := ID.2
            have IX := hide ID.1
            clear ID
            by_cases hb2 : p + a < 4294967296
            · go_wp2
              go_round
              case rel => exact ⟨_, _, rfl, rfl, hb2, IX⟩
              case measure => simp [intOf]; omega
            · have hQ : j - 1 = Q0 := by rw [EQ.out.2]; exact IX.out.done2 D2.out (by omega) (by omega)
              clear IX J
              go_wp2
              go_ret2
              exact ⟨rfl, (by (repeat' (first | (with_reducible exact Below.refl _ _) | (with_reducible assumption) | (with_reducible refine Below.alloc ?_ ?_ _) | (with_reducible refine Below.drew ?_) | (with_reducible refine below_drewN ?_ _) | (with_reducible refine Below.setCell ?_ ?_ _) | (with_reducible refine below_step (by with_reducible assumption) ?_ ?_) | (first | (with_reducible exact Nat.le_refl _) | (with_reducible assumption) | omega | (simp only [World.size_alloc, World.size_setCell, World.size_drew, size_drewN]; omega) | (simp; omega) | (simp; done)))))⟩
theorem div64_c {h l y : Int} (h0 : 0 ≤ h) (hy : h < y) (hy1 : y < 18446744073709551616) (l0 : 0 ≤ l) (l1 : l < 18446744073709551616) (w : World) :
    Calls Try.prog 33 #[.int .u64 h, .int .u64 l, .int .u64 y] w fun e w' => e = .returned (.tuple #[.int .u64 ((h * 18446744073709551616 + l) / y), .int .u64 ((h * 18446744073709551616 + l) % y)]) ∧ Below w.heap.size w w' := by
  rcases Int.lt_or_le 0 h with hz | hz
  · exact div64_big hz hy hy1 l0 l1 w
  · obtain rfl : h = 0 := by omega
    rw [Int.zero_mul, Int.zero_add]
    exact div64_zero l0 l1 hy hy1 w
end Go.Proofs.Ythikkajjnfeigaa
