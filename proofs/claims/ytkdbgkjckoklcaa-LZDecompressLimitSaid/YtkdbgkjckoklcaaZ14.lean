/- Chapter 9: chains of matches, walked. -/
import Derived.WalkKit
import Derived.KernelRfl
import Derived.RowKit3
import Derived.Deep.LoopGhost
import Derived.Deep.QuietTactic
import Derived.BigQuiet
import Derived.WideLaws
import Derived.Laws.Rows
import Derived.Below
import Derived.Deep.Draws
import Derived.Outline
import Derived.LoopN
import Derived.Handy
import Derived.Laws.Externs
import Derived.Laws.BitsAllLaws
import Derived.Laws.BitsLemmas
import Derived.Deep.DeepCutAuto
import Derived.Deep.CutBlock
import Derived.Deep.RegionHeld3
import Derived.Test.YtkdbgkjckoklcaaZ13
import Derived.Deep.AppendLies
import Derived.OwnWalk
namespace Go.Proofs.Ytkdbgkjckoklcaa
open Go.RowKit
set_option linter.unusedVariables false
set_option linter.unusedSimpArgs false
theorem owns_lit {w : World} {C : Array Value} {l : List UInt8} {n : Nat} (hn : n = l.length) (hC : C = (l.map bv).toArray) (hs : l.length ≤ 1000000) : Owns (w.alloc (.cells C 5)) w.heap.size (.slice (some ⟨w.heap.size, 0, none⟩) n n) l := by
  subst hn
  subst hC
  refine ⟨by rw [List.length_map, Nat.mul_one], .inr ⟨w.heap.size, l.length, (l.map bv).toArray, rfl, Nat.le_refl _, heap_alloc_new w _, Nat.le_refl _, by unfold maxLen; omega, by simp, ?_⟩⟩
  simp
  rw [← List.map_take, List.take_length]
set_option maxRecDepth 20000 in
set_option maxHeartbeats 8000000 in
theorem LZDecompressLimit_walk (nn x t d : Int) (wn : (Lit.int .i64 nn).wf = true) (wx : (Lit.int .u8 x).wf = true) (wt : (Lit.int .u8 t).wf = true) (wd : (Lit.int .u8 d).wf = true) (w : World) :
    Calls Try.prog 9 #[.int .i64 nn, .int .u8 x, .int .u8 t, .int .u8 d] w fun e w' => e = .returned (.bool true) ∧ Below w.heap.size w w' := by
  obtain ⟨X, rfl⟩ := u8_of wx
  obtain ⟨T, rfl⟩ := u8_of wt
  obtain ⟨D, rfl⟩ := u8_of wd
  clear wx wn wt wd
  have hX256 := UInt8.toNat_lt X
  have hT256 := UInt8.toNat_lt T
  have hD256 := UInt8.toNat_lt D
  obtain ⟨Y, hY⟩ : ∃ Y : UInt8, IntKind.u8.wrap ((X.toNat : Int) + 1) = (Y.toNat : Int) := ⟨UInt8.ofNat ((X.toNat + 1) % 256), by rw [IntKind.wrap_u8, toNat_of (by omega)]; omega⟩
  obtain ⟨a, ha⟩ : ∃ a : UInt8, a.toNat = 128 + T.toNat % 128 := ⟨UInt8.ofNat (128 + T.toNat % 128), toNat_of (by omega)⟩
  obtain ⟨b, hb⟩ : ∃ b : UInt8, b.toNat = D.toNat % 2 := ⟨UInt8.ofNat (D.toNat % 2), toNat_of (by omega)⟩
  obtain ⟨tt, htt⟩ : ∃ tt : Nat, T.toNat % 128 = tt := ⟨_, rfl⟩
  obtain ⟨dd, hdd⟩ : ∃ dd : Nat, D.toNat % 2 = dd := ⟨_, rfl⟩
  have r1 : ((T.toNat : Nat) : Int).tmod 128 = (tt : Int) := by rw [Int.tmod_eq_emod_of_nonneg (by omega)]; omega
  have r2 : ((D.toNat : Nat) : Int).tmod 2 = (dd : Int) := by rw [Int.tmod_eq_emod_of_nonneg (by omega)]; omega
  rw [htt] at ha
  rw [hdd] at hb
  have htt2 : tt < 128 := by omega
  have hdd2 : dd < 2 := by omega
  clear htt hdd hT256 hD256
  generalize ((T.toNat : Nat) : Int) = tI at r1 ⊢
  generalize ((D.toNat : Nat) : Int) = dI at r2 ⊢
  obtain ⟨XN, hXN⟩ : ∃ XN, X.toNat = XN := ⟨_, rfl⟩
  obtain ⟨YN, hYN⟩ : ∃ YN, Y.toNat = YN := ⟨_, rfl⟩
  rw [hXN, hYN] at hY
  rw [hXN]
  replace hXN := hide hXN
  replace hYN := hide hYN
  have HL := fun k => dec_limit (x := X) (y := Y) (a := a) (b := 0) (c := b) (by omega) rfl (by omega) k
  rw [ha] at HL
  replace HL := hide HL
  replace ha := hide ha
  replace hb := hide hb
  have HM := hide (fun w => mod_c (x := nn) (n := 700) (by omega) (by omega) w)
  have hmv := modV_lt nn (n := 700) (by omega)
  obtain ⟨K, hK⟩ : ∃ K : Nat, modV nn 700 = (K : Int) := ⟨(modV nn 700).toNat, by omega⟩
  rw [hK] at HM hmv
  have hK2 : K < 700 := by omega
  clear hK hmv hX256
  obtain ⟨i0, hi, hz0, hz1, hz2⟩ := info_parts infoB
  have HV : Owns (w.alloc (.cells #[.int .u8 2, .int .u8 (XN : Int), .int .u8 (YN : Int)] 5)) w.heap.size (.slice (some ⟨w.heap.size, 0, none⟩) 3 3) ([2, X, Y] ++ toks a 0 b 0) := owns_lit rfl (by simp [toks, bv, hXN.out, hYN.out]) (by simp [toks])
  replace HV := hide HV
  go_enter Try.func9, Try.ntmps9
  go_wp2_with fail
  refine (HM.out _).mono ?_
  rintro e w0 ⟨rfl, rfl⟩
  go_wp2
  go_loopw [9, 11] (fun v9 v11 wr => ∃ i : Nat, v11 = .int .i64 i ∧ i ≤ K ∧ Hid (Owns wr w.heap.size v9 ([2, X, Y] ++ toks a 0 b i)) ∧ Hid (Below w.heap.size w wr)) (fun _ v11 _ => K - (intOf v11).toNat)
  case atStart => exact ⟨0, rfl, by omega, HV, hide ((Below.refl _ _).alloc (Nat.le_refl _) _)⟩
  case round =>
    obtain ⟨i, rfl, hiK, HO, HB⟩ := hrel
    have hsr := HB.out.size
    obtain ⟨O, hO⟩ : ∃ O, [2, X, Y] ++ toks a 0 b i = O := ⟨_, rfl⟩
    have hOl : O.length = 3 + 3 * i := by rw [← hO, List.length_append, toks_len]; rfl
    by_cases hlt : i < K
    · rw [hO] at HO
      replace hO := hide hO
      have hOl' : O.length ≤ 3000 := by omega
      clear hOl HV
      go_wp2_with (at_builtin; refine wpList_append_lies _ rfl (.tmp 28) (.tmp 34) 22 rfl w.heap.size 5 i0 (.int .u8 0) 1 1 Try.underlying22 hi hz0 hz1 hz2 rfl (by omega) _ _ _ rfl (HO.out.alloc _) ⟨wr.heap.size, 0, none⟩ 3 3 [.int .u8 (128 + (tt : Int)), .int .u8 0, .int .u8 (dd : Int)] rfl rfl (news_three _ _ _ _ _) (by intro u hu; simp at hu; rcases hu with rfl | rfl | rfl <;> rfl) (by omega) (by unfold maxLen; omega) (by omega) (by simp; omega) _ rfl ?_; intro g cap w3 hown3 hgrow3 hat3 hlt3; replace hat3 := hide hat3)
      go_roundw
      case rel =>
        refine ⟨i + 1, by go_num, by omega, hide ?_, hide (below_one (Nat.le_refl _) HB.out HO.out hgrow3)⟩
        rw [toks_snoc, ← List.append_assoc, hO.out]
        refine owns_some rfl ?_ hown3
        simp [bv, ha.out, hb.out]
      case measure => simp [intOf]; omega
    · obtain rfl : i = K := by omega
      obtain ⟨A1, c1, hv, hc1, hr1⟩ := HO.out.shape
      subst hv
      rw [hO] at hc1 hr1 ⊢
      have HLK := HL.out i
      rw [hO] at HLK
      obtain ⟨m, hm⟩ : ∃ m, O.length = m := ⟨_, rfl⟩
      rw [hm] at hc1 ⊢
      have hm4 : m ≤ 400000 := by omega
      have hmm : Hid (m = O.length) := hide hm.symm
      clear hm hOl hO HO HV
      replace hr1 := hide hr1
      obtain ⟨SZ, hSZ⟩ : ∃ SZ, i * (tt + 4) = SZ := ⟨_, rfl⟩
      have e1 : 128 + tt - 124 = tt + 4 := by omega
      rw [e1, hSZ] at HLK
      have hSZ2 : SZ ≤ 100000 := by
        rw [← hSZ]
        have := Nat.mul_le_mul (show i ≤ 700 by omega) (show tt + 4 ≤ 132 by omega)
        omega
      have hmul : (i : Int) * ((tt : Int) + 4) = (SZ : Int) := by rw [← hSZ]; simp
      clear hSZ e1
      replace HLK := hide HLK
      go_wp2_with fail
      refine (dec_c A1 m c1 hmm hc1 hm4 _ hr1).mono ?_
      rintro e w2 ⟨v2, rfl, HO2, hb2⟩
      have hB2 := HB.out.trans (hb2.mono hsr)
      obtain ⟨A2, c2, rfl, hc2, hr2⟩ := HO2.out.shape
      replace hr2 := hide hr2
      replace hB2 := hide hB2
      have hs2 := hb2.size
      clear HO2
      obtain ⟨E, hE⟩ : ∃ E, decErr O = E := ⟨_, rfl⟩
      obtain ⟨q, hq⟩ : ∃ q, (decOut O).length = q := ⟨_, rfl⟩
      have HLE := HLK.out
      rw [hE, hq] at HLE
      rw [hE]
      rw [hq] at hc2 ⊢
      replace hq := hide hq.symm
      replace hE := hide hE
      replace hc2 := hide hc2
      go_wp2_with fail
      refine (rdec_c A1 m c1 hmm hc1 hm4 _ (hide (hr1.out.to (by (repeat' (first | (with_reducible exact Below.refl _ _) | (with_reducible assumption) | (with_reducible refine Below.alloc ?_ ?_ _) | (with_reducible refine Below.drew ?_) | (with_reducible refine below_drewN ?_ _) | (with_reducible refine Below.setCell ?_ ?_ _) | (with_reducible refine below_step (by with_reducible assumption) ?_ ?_) | (first | (with_reducible exact Nat.le_refl _) | (with_reducible assumption) | omega | (simp only [World.size_alloc, World.size_setCell, World.size_drew, size_drewN]; omega) | (simp; omega) | (simp; done)))))))).mono ?_
      rintro e w3 ⟨v3, rfl, HO3, hb3⟩
      rw [hE.out]
      obtain ⟨A3, c3, rfl, hc3, hr3⟩ := HO3.out.shape
      rw [← hq.out] at hc3 ⊢
      replace hc3 := hide hc3
      replace hr3 := hide hr3
      have hs3 := hb3.size
      have hB3 := hB2.out.trans (hb3.mono hB2.out.size)
      replace hB3 := hide hB3
      clear HO3 hB2
      rcases HLE with ⟨rfl, rfl, h3⟩ | ⟨rfl, h3⟩
      · have t1 : 2 + (SZ : Int) ≤ 65536 := by omega
        have t2 : decide (65536 < 2 + (SZ : Int)) = false := decide_eq_false (by omega)
        clear h3
        go_wp2_with fail
        refine (eqb_c A2 _ c2 A3 _ c3 hq hq _ (hide (hr2.out.to hb3)) hr3).mono ?_
        rintro e w4 ⟨rfl, rfl⟩
        go_wp2_with fail
        refine (awake9_c _).mono ?_
        rintro e w5 ⟨rfl, hb5⟩
        go_wp2
        go_ret
        exact ⟨rfl, hB3.out.trans (hb5.mono hB3.out.size)⟩
      · have t1 : 65536 < 2 + (SZ : Int) := by omega
        have t2 : decide (65536 < 2 + (SZ : Int)) = true := decide_eq_true (by omega)
        clear h3
        go_wp2_with fail
        refine (eqb_c A2 _ c2 A3 _ c3 hq hq _ (hide (hr2.out.to hb3)) hr3).mono ?_
        rintro e w4 ⟨rfl, rfl⟩
        go_wp2_with fail
        refine (awake9_c _).mono ?_
        rintro e w5 ⟨rfl, hb5⟩
        go_wp2
        go_ret
        exact ⟨rfl, hB3.out.trans (hb5.mono hB3.out.size)⟩
end Go.Proofs.Ytkdbgkjckoklcaa
