/- pontageref4: FormatBig, Format, walked. -/
import Derived.WalkKit
import Derived.KernelRfl
import Derived.RowKit3
import Derived.Deep.LoopGhost
import Derived.Deep.QuietTactic
import Derived.BigQuiet
import Derived.WideLaws
import Derived.Laws.Rows
import Derived.Below
import Derived.Deep.Draws
import Derived.Outline
import Derived.LoopN
import Derived.Handy
import Derived.Laws.Externs
import Derived.Laws.BitsAllLaws
import Derived.Laws.BitsLemmas
import Derived.Deep.DeepCutAuto
import Derived.Deep.CutBlock
import Derived.Deep.RegionHeld3
import Derived.Test.YthikkajjnfeigaaDF
import Derived.Test.YthikkajjnfeigaaR15
import Derived.WalkLawsBesides
import Derived.WalkSpells
namespace Go.Proofs.Ythikkajjnfeigaa
open Go.RowKit
set_option linter.unusedVariables false
set_option linter.unusedSimpArgs false
def strLen : Value → Nat | .string s => s.size | _ => 0
theorem dig_small {n : Nat} (h : 0 < n) (h9 : n < 10) : dig n = [n] := by
  rw [dig_pos (by omega)]
  rw [Nat.mod_eq_of_lt (by omega), Nat.div_eq_of_lt (by omega), dig_zero]
theorem nd_dig {n : Nat} (h : 0 < n % 10) (h9 : n % 10 < 10) : nd (n % (10 : Int).toNat) = 1 := by
  show nd (n % 10) = 1
  unfold nd
  rw [dig_small h h9]
  rfl
def tenS : ByteArray := ⟨#[48, 49, 50, 51, 52, 53, 54, 55, 56, 57]⟩
theorem ten_cut {D : Nat} (h : D < 10) : tenS.extract D (D + 1) = ⟨#[ch D]⟩ := by
  obtain rfl | rfl | rfl | rfl | rfl | rfl | rfl | rfl | rfl | rfl : D = 0 ∨ D = 1 ∨ D = 2 ∨ D = 3 ∨ D = 4 ∨ D = 5 ∨ D = 6 ∨ D = 7 ∨ D = 8 ∨ D = 9 := by omega
  all_goals rfl
theorem str_cons (c : UInt8) (l : List UInt8) : (⟨#[c]⟩ : ByteArray) ++ ⟨l.toArray⟩ = ⟨(c :: l).toArray⟩ := by
  apply ByteArray.ext
  simp
theorem db_s0 : (Try.prog.info? 24).map (·.size) = some 4 := by kernel_rfl
set_option maxRecDepth 20000 in
set_option maxHeartbeats 16000000 in
theorem fbig_c {A : Nat} (hA : A < M256) (ad : Option Addr) (m c : Nat) (hm : m ≤ 16) {w : World} (G0 : Hid (Big w ad m c A)) :
    Calls Try.prog 19 #[.slice ad m c] w fun e w' => e = .returned (.string ⟨(decL A).toArray⟩) ∧ Below w.heap.size w w' := by
  by_cases hA0 : A = 0
  · have hm0 : m = 0 := by rw [G0.out.hn, hA0, nd_zero]
    subst hm0
    rw [hA0, show (decL 0).toArray = #[48] by decide]
    clear hA0
    go_enter Try.func19, Try.ntmps19
    go_wp2
    go_ret
    exact ⟨rfl, Below.refl _ _⟩
  · have hmp : 0 < m := by rw [G0.out.hn]; exact nd_pos (by omega)
    have hmI : (0 : Int) < (m : Int) := by omega
    have hmz : ((m : Int) == 0) = false := by rw [beq_eq_false_iff_ne]; omega
    have F10 := hide (fun w => from64_c (x := 10) (by omega) (by omega) w)
    go_enter Try.func19, Try.ntmps19
    go_wp2_with fail
    refine (F10.out _).mono ?_
    rintro e w1 ⟨ad1, m1, c1, rfl, G1, k1, hbc⟩
    have HB := hide hbc
    replace G0 := hide (G0.out.below hbc (Nat.le_refl _))
    clear hbc
    go_wp2_with fail
    go_loopw [0, 3] (fun v0 v3 wr => ∃ (k N : Nat) (L : List Nat) (T : List UInt8) (ad : Option Addr) (m c : Nat), Hid (FInv A k N L) ∧ Hid (N = 0 → 0 < k) ∧ k ≤ 78 ∧ v0 = .slice ad m c ∧ m ≤ 16 ∧ Hid (T = L.reverse.map ch) ∧ v3 = .string ⟨T.toArray⟩ ∧ Hid (Big wr ad m c N) ∧ Hid (Big wr ad1 m1 c1 (10 : Int).toNat) ∧ Hid (Below w.heap.size w wr)) (fun v0 v3 _ => 79 - strLen v3)
    case atStart => exact ⟨0, A, [], [], ad, m, c, hide (FInv.start hA), hide (fun e => absurd e hA0), by omega, rfl, hm, hide rfl, rfl, G0, G1, HB⟩
    case round =>
      obtain ⟨k, N, L, T, ad, m, c, HF, HZ, hk, rfl, hm, HT, rfl, G0, G1, HB⟩ := hrel
      clear hmp hmI hmz
      by_cases hN : N = 0
      · subst hN
        have hm0 : m = 0 := by rw [G0.out.hn, nd_zero]
        subst hm0
        have hR := hide (show Ending.returned (.string ⟨T.toArray⟩) = .returned (.string ⟨(decL A).toArray⟩) by rw [HT.out, decL, HF.out.stop (HZ.out rfl)])
        clear HF
        go_wp2_with fail
        go_ret
        exact ⟨hR.out, HB.out⟩
      · have hmp : 0 < m := by rw [G0.out.hn]; exact nd_pos (by omega)
        have hmI : (0 : Int) < (m : Int) := by omega
        have HI := hide (HF.out.step (fun h => hN h.2))
        have HF' := hide HF.out
        clear HF HZ
        have hD9 : N % 10 < 10 := by omega
        have HT' := hide (show ch (N % 10) :: T = (L ++ [N % 10]).reverse.map ch by rw [HT.out, List.reverse_append]; rfl)
        have HL := hide (show T.length = k by rw [HT.out]; simp [HF'.out.len])
        have hTl : T.length ≤ 78 := by rw [HL.out]; exact hk
        have hTl2 : (1 : Int) + (T.length : Int) ≤ 9223372036854775807 := by omega
        have hTl3 : ((1 + T.length : Nat) : Int) ≤ 9223372036854775807 := by omega
        obtain ⟨D, hE⟩ : ∃ D, N % 10 = D := ⟨_, rfl⟩
        have hD : D < 10 := by omega
        have hcut := ten_cut hD
        unfold tenS at hcut
        have hcat := str_cons (ch D) T
        have hd10 : (D : Int) + 1 ≤ 10 := by omega
        rw [hE] at HT' hD9
        replace hE := hide hE
        by_cases hD0 : D = 0
        · have HZ10 := hide (show N % 10 = 0 from hE.out.trans hD0)
          subst hD0
          go_wp2_with fail
          refine (rdiv_c _ _ _ _ _ _ _ G0 G1 (by decide) (by omega) (by omega)).mono ?_
          rintro e w2 ⟨ad2, m2, c2, ad3, m3, c3, rfl, G2, G3, k2, k3, hbc⟩
          replace HB := hide (HB.out.trans (hbc.mono HB.out.size))
          replace G0 := hide (G0.out.below hbc (Nat.le_refl _))
          replace G1 := hide (G1.out.below hbc (Nat.le_refl _))
          clear hbc
          have hm3 := G3.out.hn
          rw [show N % (10 : Int).toNat = N % 10 from rfl, HZ10.out, nd_zero] at hm3
          subst hm3
          have G2b := G2
          go_wp2_with fail
          go_roundw
          case rel => exact ⟨k + 1, N / 10, L ++ [N % 10], ch 0 :: T, _, _, _, hide HI.out.1, hide (fun _ => Nat.succ_pos _), by have := HI.out.2; unfold nf at this; omega, rfl, by omega, hide (by rw [hE.out]; exact HT'.out), rfl, G2, G1, HB⟩
          case measure => have := HL.out; simp [strLen, ByteArray.size]; omega
        · have HP := hide (show 0 < N % 10 by rw [hE.out]; omega)
          have HP9 := hide (show N % 10 < 10 by rw [hE.out]; omega)
          go_wp2_with fail
          refine (rdiv_c _ _ _ _ _ _ _ G0 G1 (by decide) (by omega) (by omega)).mono ?_
          rintro e w2 ⟨ad2, m2, c2, ad3, m3, c3, rfl, G2, G3, k2, k3, hbc⟩
          replace HB := hide (HB.out.trans (hbc.mono HB.out.size))
          replace G0 := hide (G0.out.below hbc (Nat.le_refl _))
          replace G1 := hide (G1.out.below hbc (Nat.le_refl _))
          clear hbc
          have hm3 := G3.out.hn
          rw [nd_dig HP.out HP9.out] at hm3
          obtain ⟨b, o, rfl, hcell⟩ := G3.out.row (by rw [show N % (10 : Int).toNat = N % 10 from rfl, dig_small HP.out HP9.out]; simp)
          rw [show N % (10 : Int).toNat = N % 10 from rfl, dig_small HP.out HP9.out] at hcell
          have hx := hcell 0 (by simp)
          rw [show ((([N % 10] : List Nat).getD 0 0 : Nat) : Int) = ((N % 10 : Nat) : Int) from rfl, hE.out, Nat.add_zero] at hx
          subst hm3
          clear hcell
          have G2b := G2
          go_wp2_with (refine n_loadc (by rfl) (T := 3) (x := (.tmp 25)) rfl (g := b) (o := o) hx Try.underlying3 rfl ?_)
          go_roundw
          case rel => exact ⟨k + 1, N / 10, L ++ [N % 10], ch D :: T, _, _, _, hide HI.out.1, hide (fun _ => Nat.succ_pos _), by have := HI.out.2; unfold nf at this; omega, rfl, by omega, hide (by rw [hE.out]; exact HT'.out), rfl, G2, G1, HB⟩
          case measure => have := HL.out; simp [strLen, ByteArray.size]; omega
set_option maxHeartbeats 4000000 in
theorem rformat_c {A : Nat} (hA : A < M256) (w : World) :
    Calls Try.prog 9 #[.agg #[.int .u64 (lim A 0), .int .u64 (lim A 1), .int .u64 (lim A 2), .int .u64 (lim A 3)]] w fun e w' => e = .returned (.string ⟨(decL A).toArray⟩) ∧ Below w.heap.size w w' := by
  go_enter Try.func9, Try.ntmps9
  go_wp2_with (first | (refine n_box (by rfl) (T := 24) (x := (.tmp 0)) rfl (v := .agg (#[.int .u64 (lim A 0), .int .u64 (lim A 1), .int .u64 (lim A 2), .int .u64 (lim A 3)])) rfl (ds := #[.int .u64 (lim A 0), .int .u64 (lim A 1), .int .u64 (lim A 2), .int .u64 (lim A 3)]) rfl ?_; intro w1 Hb1 hbn; have HB := hide hbn; clear hbn; replace Hb1 := hide Hb1) | (refine n_loadw (by rfl) (T := 24) (x := (.tmp 1)) rfl (g := w.heap.size) rfl Hb1.out Try.underlying24 rfl db_s0 ?_))
  refine (from256_c (isU_lim hA) _).mono ?_
  rintro e w2 ⟨ad1, m1, c1, rfl, G1, k1, hbc⟩
  replace HB := hide (HB.out.trans (hbc.mono HB.out.size))
  replace Hb1 := hide (Hb1.out.below hbc Hb1.out.lt)
  clear hbc
  go_wp2_with fail
  refine (fbig_c hA ad1 m1 c1 k1 G1).mono ?_
  rintro e w3 ⟨rfl, hbc⟩
  replace HB := hide (HB.out.trans (hbc.mono HB.out.size))
  replace Hb1 := hide (Hb1.out.below hbc Hb1.out.lt)
  clear hbc
  go_wp2_with fail
  go_ret
  exact ⟨rfl, HB.out⟩
end Go.Proofs.Ythikkajjnfeigaa
