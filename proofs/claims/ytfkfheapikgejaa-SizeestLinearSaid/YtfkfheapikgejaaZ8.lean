/- RepetitiveBytes, walked: whatever its argument, at most 24 bytes for each of its numbers. -/
import Derived.WalkKit
import Derived.KernelRfl
import Derived.RowKit3
import Derived.Deep.LoopGhost
import Derived.Deep.QuietTactic
import Derived.BigQuiet
import Derived.WideLaws
import Derived.Laws.Rows
import Derived.Below
import Derived.Deep.Draws
import Derived.Outline
import Derived.LoopN
import Derived.Handy
import Derived.Laws.Externs
import Derived.Laws.BitsAllLaws
import Derived.Laws.BitsLemmas
import Derived.Deep.DeepCutAuto
import Derived.Deep.CutBlock
import Derived.Deep.RegionHeld3
import Derived.Test.YtfkfheapikgejaaZ7
import Derived.Test.YtfkfheapikgejaaMD
import Derived.Maps.AppendAt
import Derived.Deep.AppendLies
import Derived.OwnWalk
import Derived.IntWalk
import Derived.Laws.ShiftsVarLaws
namespace Go.Proofs.Ytfkfheapikgejaa
open Go.RowKit
set_option linter.unusedVariables false
set_option linter.unusedSimpArgs false
/-- The cells at this address hold numbers. -/
def NRow (w : World) (ad : Option Addr) (n : Nat) : Prop := 0 < n → ∃ b o, ad = some ⟨b, o, none⟩ ∧ ∀ i, i < n → ∃ x : Int, w.cell? ⟨b, o + i, none⟩ = some (.int .i64 x)
theorem NRow.below {w w' : World} {ad : Option Addr} {n : Nat} {B : Nat} (h : NRow w ad n) (hb : Below B w w') (hB : w.heap.size ≤ B) : NRow w' ad n := by
  intro hl
  obtain ⟨b, o, rfl, hc⟩ := h hl
  refine ⟨b, o, rfl, fun i hi => ?_⟩
  obtain ⟨x, hx⟩ := hc i hi
  have hbl : b < w.heap.size := World.block_lt_of_cell? w _ hx
  exact ⟨x, (hb.cell (p := ⟨b, o + i, none⟩) (by show b < B; omega)).trans hx⟩
theorem owns_any {w2 : World} {B : Nat} {v : Value} {O : List UInt8} {x : Int} (h0 : 0 ≤ x ∧ x < 256) (h : w2.ownsRow B 5 1 v (O.length + 1) (O.map bv ++ [.int .u8 x])) : ∃ O', O'.length = O.length + 1 ∧ Owns w2 B v O' := by
  refine ⟨O ++ [UInt8.ofNat x.toNat], by simp, owns_some (r := [UInt8.ofNat x.toNat]) rfl ?_ h⟩
  rw [List.map_cons, bv, toNat_of (by omega), Int.toNat_of_nonneg h0.1]
  rfl
theorem u8_in (x : Int) : 0 ≤ IntKind.u8.wrap x ∧ IntKind.u8.wrap x < 256 := by rw [IntKind.wrap_u8]; omega
theorem u8_mod (x : Int) : 0 ≤ x % 256 ∧ x % 256 < 256 := by omega
set_option maxRecDepth 20000 in
set_option maxHeartbeats 16000000 in
theorem rep_c (ad : Option Addr) (n c : Nat) (hlen : n ≤ 1000) (w : World) (hrow : Hid (NRow w ad n)) :
    Calls Try.prog 11 #[.slice ad n c] w fun e w' => ∃ (l : List UInt8) (v : Value), e = .returned v ∧ l.length ≤ 24 * n ∧ Hid (Owns w' w.heap.size v l) ∧ Below w.heap.size w w' := by
  obtain ⟨B, hB⟩ : ∃ B, w.heap.size = B := ⟨_, rfl⟩
  have hBw : B ≤ w.heap.size := by omega
  have hBw' : w.heap.size ≤ B := by omega
  rw [hB]
  clear hB
  obtain ⟨i0, hi, hz0, hz1, hz2⟩ := info_parts infoB
  go_enter Try.func11, Try.ntmps11
  go_wp2
  go_loopw [3, 4] (fun v3 v4 wr => ∃ (m : Nat) (o : List UInt8), v4 = .int .i64 m ∧ m ≤ n ∧ o.length ≤ 24 * m ∧ Hid (Owns wr B v3 o) ∧ Hid (Below B w wr)) (fun _ v4 _ => n - (intOf v4).toNat)
  case atStart => exact ⟨0, [], rfl, by omega, by simp, hide (World.ownsRow_nil _ _ _ _), hide (Below.refl _ _)⟩
  case round =>
    obtain ⟨m, o, rfl, hm, hol, HO, HB⟩ := hrel
    have hbs := HB.out.size
    by_cases hlt : m < n
    · obtain ⟨b, off, rfl, hcell⟩ := (hrow.out.below HB.out hBw') (by omega)
      obtain ⟨x, hx⟩ := hcell m hlt
      clear hcell
      have HM := hide (fun w => mod_c (x := x) (n := 1048576) (by omega) (by omega) w)
      have hk := modV_lt x (n := 1048576) (by omega)
      obtain ⟨k, hkk⟩ : ∃ k, modV x 1048576 = k := ⟨_, rfl⟩
      rw [hkk] at HM hk
      clear hkk
      obtain ⟨hk0, hk1⟩ := hk
      obtain ⟨N, hN⟩ : ∃ N : Nat, 1 + k / 8 % 24 = (N : Int) := ⟨(1 + k / 8 % 24).toNat, by omega⟩
      have hN1 : N ≤ 24 := by omega
      obtain ⟨r, hr8⟩ : ∃ r, k % 8 = r := ⟨_, rfl⟩
      have hr : ((r == 0) = true) ∨ ((r == 0) = false ∧ (r == 1) = true) ∨ ((r == 0) = false ∧ (r == 1) = false ∧ (r == 2) = true) ∨ ((r == 0) = false ∧ (r == 1) = false ∧ (r == 2) = false ∧ (r == 3) = true) ∨ ((r == 0) = false ∧ (r == 1) = false ∧ (r == 2) = false ∧ (r == 3) = false ∧ (r == 4) = true) ∨ ((r == 0) = false ∧ (r == 1) = false ∧ (r == 2) = false ∧ (r == 3) = false ∧ (r == 4) = false) := by
        simp only [beq_iff_eq, beq_eq_false_iff_ne]; omega
      have hrt : k.tmod 8 = r := (Int.tmod_eq_emod_of_nonneg hk0).trans hr8
      clear hr8
      go_wp2_with fail
      refine (HM.out _).mono ?_
      rintro e w1 ⟨rfl, rfl⟩
      rcases hr with s0 | ⟨s0, s1⟩ | ⟨s0, s1, s2⟩ | ⟨s0, s1, s2, s3⟩ | ⟨s0, s1, s2, s3, s4⟩ | ⟨s0, s1, s2, s3, s4⟩
      · go_wp2
        go_loopw [3, 7] (fun v3 v7 wi => ∃ (j : Nat) (o : List UInt8), v7 = .int .i64 j ∧ j ≤ N ∧ o.length ≤ 24 * m + j ∧ Hid (Owns wi B v3 o) ∧ Hid (Below B w wi)) (fun _ v7 _ => N - (intOf v7).toNat)
        case atStart => exact ⟨0, o, rfl, by omega, by omega, HO, HB⟩
        case round =>
          obtain ⟨j, o, rfl, hj, hol, HO, HB⟩ := hrel
          have hbs := HB.out.size
          by_cases hjN : j < N
          · skip
            go_wp2_with (at_builtin; refine wpList_append_lies _ rfl (.tmp 54) (.tmp 60) 22 rfl B 5 i0 (.int .u8 0) 1 1 Try.underlying22 hi hz0 hz1 hz2 rfl (by omega) _ _ _ rfl (HO.out.alloc _) ⟨wr.heap.size, 0, none⟩ 1 1 [_] rfl rfl (news_one _ _ _) (by intro u hu; simp at hu; subst hu; rfl) (by omega) (by unfold maxLen; omega) (by omega) (by simp; omega) _ rfl ?_; intro g cap w1 hown1 hgrow1 hat1 hlt1; replace hat1 := hide hat1)
            go_roundw
            case rel =>
              obtain ⟨O', hO1, hO2⟩ := owns_any (by first | exact u8_in _ | exact u8_mod _ | omega) hown1
              exact ⟨j + 1, O', by go_num, by omega, by omega, hide hO2, hide (below_one hBw HB.out HO.out hgrow1)⟩
            case measure => simp [intOf]; omega
          · obtain rfl : j = N := by omega
            go_wp2
            go_roundw
            case rel => exact ⟨m + 1, o, by go_num, by omega, by omega, HO, HB⟩
            case measure => simp [intOf]; omega
      · go_wp2
        go_loopw [3, 7] (fun v3 v7 wi => ∃ (j : Nat) (o : List UInt8), v7 = .int .i64 j ∧ j ≤ N ∧ o.length ≤ 24 * m + j ∧ Hid (Owns wi B v3 o) ∧ Hid (Below B w wi)) (fun _ v7 _ => N - (intOf v7).toNat)
        case atStart => exact ⟨0, o, rfl, by omega, by omega, HO, HB⟩
        case round =>
          obtain ⟨j, o, rfl, hj, hol, HO, HB⟩ := hrel
          have hbs := HB.out.size
          by_cases hjN : j < N
          · skip
            go_wp2_with (at_builtin; refine wpList_append_lies _ rfl (.tmp 54) (.tmp 60) 22 rfl B 5 i0 (.int .u8 0) 1 1 Try.underlying22 hi hz0 hz1 hz2 rfl (by omega) _ _ _ rfl (HO.out.alloc _) ⟨wr.heap.size, 0, none⟩ 1 1 [_] rfl rfl (news_one _ _ _) (by intro u hu; simp at hu; subst hu; rfl) (by omega) (by unfold maxLen; omega) (by omega) (by simp; omega) _ rfl ?_; intro g cap w1 hown1 hgrow1 hat1 hlt1; replace hat1 := hide hat1)
            go_roundw
            case rel =>
              obtain ⟨O', hO1, hO2⟩ := owns_any (by first | exact u8_in _ | exact u8_mod _ | omega) hown1
              exact ⟨j + 1, O', by go_num, by omega, by omega, hide hO2, hide (below_one hBw HB.out HO.out hgrow1)⟩
            case measure => simp [intOf]; omega
          · obtain rfl : j = N := by omega
            go_wp2
            go_roundw
            case rel => exact ⟨m + 1, o, by go_num, by omega, by omega, HO, HB⟩
            case measure => simp [intOf]; omega
      · obtain ⟨A, co, hv3, hco, _⟩ := Owns.shape HO.out
        subst hv3
        obtain ⟨p, HP⟩ : ∃ p, Hid (p = o.length) := ⟨_, hide rfl⟩
        have hpo := HP.out
        rw [← hpo] at hco hol HO ⊢
        clear hpo
        have hk64 : k / 64 ≤ 1048576 := by omega
        have hk640 : 0 ≤ k / 64 := by omega
        have hcase : p = 0 ∨ 0 < p := by omega
        rcases hcase with hp0 | hp0
        · subst hp0
          go_wp2
          go_loopw [3, 9] (fun v3 v9 wi => ∃ (j q cq : Nat) (A : Option Addr) (o : List UInt8), v3 = .slice A q cq ∧ v9 = .int .i64 j ∧ j ≤ N ∧ q ≤ 24 * m + j ∧ q ≤ cq ∧ Hid (q = o.length) ∧ Hid (Owns wi B (.slice A q cq) o) ∧ Hid (Below B w wi)) (fun _ v9 _ => N - (intOf v9).toNat)
          case atStart => exact ⟨0, 0, co, A, o, rfl, rfl, by omega, by omega, by omega, HP, HO, HB⟩
          case round =>
            obtain ⟨j, q, cq, A', o', rfl, rfl, hj, hq, hqc, HQ, HO, HB⟩ := hrel
            have hbs := HB.out.size
            by_cases hgo : j < N ∧ j < q
            · obtain ⟨g1, g2⟩ := hgo
              obtain ⟨g0, cq', hv, hg0, _⟩ := World.ownsRow.form HO.out (by have := HQ.out; omega)
              injection hv with hv1 hv2 hv3
              subst hv1
              clear hv2 hv3 hg0
              have hxc := own_cell HO.out HQ.out (i := j) g2
              obtain ⟨z, hz⟩ : ∃ z, (gb o' (j)).toNat = z := ⟨_, rfl⟩
              have hz256 : z < 256 := by rw [← hz]; exact UInt8.toNat_lt _
              rw [hz] at hxc
              clear hz
              have i0' : 0 ≤ (j : Int) := by omega
              have i1 : (j : Int) < (q : Int) := by omega
              have i2 : ((j : Int)).toNat = j := by omega
              go_wp2_with (at_builtin; refine wpList_append_lies _ rfl (.tmp 87) (.tmp 94) 22 rfl B 5 i0 (.int .u8 0) 1 1 Try.underlying22 hi hz0 hz1 hz2 rfl (by omega) _ _ _ rfl (HO.out.alloc _) ⟨wr.heap.size, 0, none⟩ 1 1 [_] rfl rfl (news_one _ _ _) (by intro u hu; simp at hu; subst hu; rfl) (by omega) (by have := HQ.out; unfold maxLen; omega) (by have := HQ.out; omega) (by simp; omega) _ rfl ?_; intro g cap w1 hown1 hgrow1 hat1 hlt1; replace hat1 := hide hat1)
              go_roundw
              case rel =>
                have hqo := HQ.out
                obtain ⟨O', hO1, hO2⟩ := owns_any (by omega) hown1
                exact ⟨j + 1, _, cap, some ⟨g, 0, none⟩, O', rfl, by go_num, by omega, by omega, hown1.form_le (by omega), hide hO1.symm, hide hO2, hide (below_one hBw HB.out HO.out hgrow1)⟩
              case measure => simp [intOf]; omega
            · have hqo := HQ.out
              have HQ' := hide hqo
              clear hqo
              by_cases g1 : j < N
              · have g2 : (q : Int) ≤ (j : Int) := by have : ¬ j < q := fun h => hgo ⟨g1, h⟩; omega
                clear hgo
                go_wp2
                go_roundw
                case rel => exact ⟨m + 1, o', by go_num, by omega, by have := HQ.out; omega, HO, HB⟩
                case measure => simp [intOf]; omega
              · clear hgo
                go_wp2
                go_roundw
                case rel => exact ⟨m + 1, o', by go_num, by omega, by have := HQ.out; omega, HO, HB⟩
                case measure => simp [intOf]; omega
        · obtain ⟨fr, hfr⟩ : ∃ fr : Nat, k / 64 % (p : Int) = (fr : Int) := ⟨(k / 64 % (p : Int)).toNat, by have := Int.emod_nonneg (k / 64) (show (p : Int) ≠ 0 by omega); omega⟩
          have hfrp : fr < p := by have := Int.emod_lt_of_pos (k / 64) (show (0 : Int) < (p : Int) by omega); omega
          have hft : (k / 64).tmod (p : Int) = (fr : Int) := (Int.tmod_eq_emod_of_nonneg hk640).trans hfr
          clear hfr
          have hpz : ((p : Int) == 0) = false := beq_eq_false_iff_ne.2 (by omega)
          have hpz' : ¬ (p : Int) = 0 := by omega
          go_wp2
          go_loopw [3, 9] (fun v3 v9 wi => ∃ (j q cq : Nat) (A : Option Addr) (o : List UInt8), v3 = .slice A q cq ∧ v9 = .int .i64 j ∧ j ≤ N ∧ q ≤ 24 * m + j ∧ q ≤ cq ∧ Hid (q = o.length) ∧ Hid (Owns wi B (.slice A q cq) o) ∧ Hid (Below B w wi)) (fun _ v9 _ => N - (intOf v9).toNat)
          case atStart => exact ⟨0, p, co, A, o, rfl, rfl, by omega, by omega, by omega, HP, HO, HB⟩
          case round =>
            obtain ⟨j, q, cq, A', o', rfl, rfl, hj, hq, hqc, HQ, HO, HB⟩ := hrel
            have hbs := HB.out.size
            by_cases hgo : j < N ∧ fr + j < q
            · obtain ⟨g1, g2⟩ := hgo
              obtain ⟨g0, cq', hv, hg0, _⟩ := World.ownsRow.form HO.out (by have := HQ.out; omega)
              injection hv with hv1 hv2 hv3
              subst hv1
              clear hv2 hv3 hg0
              have hxc := own_cell HO.out HQ.out (i := fr + j) g2
              obtain ⟨z, hz⟩ : ∃ z, (gb o' (fr + j)).toNat = z := ⟨_, rfl⟩
              have hz256 : z < 256 := by rw [← hz]; exact UInt8.toNat_lt _
              rw [hz] at hxc
              clear hz
              have i0' : 0 ≤ ((fr : Int) + (j : Int)) := by omega
              have i1 : ((fr : Int) + (j : Int)) < (q : Int) := by omega
              have i2 : (((fr : Int) + (j : Int))).toNat = fr + j := by omega
              go_wp2_with (at_builtin; refine wpList_append_lies _ rfl (.tmp 87) (.tmp 94) 22 rfl B 5 i0 (.int .u8 0) 1 1 Try.underlying22 hi hz0 hz1 hz2 rfl (by omega) _ _ _ rfl (HO.out.alloc _) ⟨wr.heap.size, 0, none⟩ 1 1 [_] rfl rfl (news_one _ _ _) (by intro u hu; simp at hu; subst hu; rfl) (by omega) (by have := HQ.out; unfold maxLen; omega) (by have := HQ.out; omega) (by simp; omega) _ rfl ?_; intro g cap w1 hown1 hgrow1 hat1 hlt1; replace hat1 := hide hat1)
              go_roundw
              case rel =>
                have hqo := HQ.out
                obtain ⟨O', hO1, hO2⟩ := owns_any (by omega) hown1
                exact ⟨j + 1, _, cap, some ⟨g, 0, none⟩, O', rfl, by go_num, by omega, by omega, hown1.form_le (by omega), hide hO1.symm, hide hO2, hide (below_one hBw HB.out HO.out hgrow1)⟩
              case measure => simp [intOf]; omega
            · have hqo := HQ.out
              have HQ' := hide hqo
              clear hqo
              by_cases g1 : j < N
              · have g2 : (q : Int) ≤ ((fr : Int) + (j : Int)) := by have : ¬ fr + j < q := fun h => hgo ⟨g1, h⟩; omega
                clear hgo
                go_wp2
                go_roundw
                case rel => exact ⟨m + 1, o', by go_num, by omega, by have := HQ.out; omega, HO, HB⟩
                case measure => simp [intOf]; omega
              · clear hgo
                go_wp2
                go_roundw
                case rel => exact ⟨m + 1, o', by go_num, by omega, by have := HQ.out; omega, HO, HB⟩
                case measure => simp [intOf]; omega
      · obtain ⟨A, co, hv3, hco, _⟩ := Owns.shape HO.out
        subst hv3
        obtain ⟨p, HP⟩ : ∃ p, Hid (p = o.length) := ⟨_, hide rfl⟩
        have hpo := HP.out
        rw [← hpo] at hco hol HO ⊢
        clear hpo
        have hk64 : k / 64 ≤ 1048576 := by omega
        have hk640 : 0 ≤ k / 64 := by omega
        have hcase : p = 0 ∨ 0 < p := by omega
        rcases hcase with hp0 | hp0
        · subst hp0
          go_wp2
          go_loopw [3, 9] (fun v3 v9 wi => ∃ (j q cq : Nat) (A : Option Addr) (o : List UInt8), v3 = .slice A q cq ∧ v9 = .int .i64 j ∧ j ≤ N ∧ q ≤ 24 * m + j ∧ q ≤ cq ∧ Hid (q = o.length) ∧ Hid (Owns wi B (.slice A q cq) o) ∧ Hid (Below B w wi)) (fun _ v9 _ => N - (intOf v9).toNat)
          case atStart => exact ⟨0, 0, co, A, o, rfl, rfl, by omega, by omega, by omega, HP, HO, HB⟩
          case round =>
            obtain ⟨j, q, cq, A', o', rfl, rfl, hj, hq, hqc, HQ, HO, HB⟩ := hrel
            have hbs := HB.out.size
            by_cases hgo : j < N ∧ j < q
            · obtain ⟨g1, g2⟩ := hgo
              obtain ⟨g0, cq', hv, hg0, _⟩ := World.ownsRow.form HO.out (by have := HQ.out; omega)
              injection hv with hv1 hv2 hv3
              subst hv1
              clear hv2 hv3 hg0
              have hxc := own_cell HO.out HQ.out (i := j) g2
              obtain ⟨z, hz⟩ : ∃ z, (gb o' (j)).toNat = z := ⟨_, rfl⟩
              have hz256 : z < 256 := by rw [← hz]; exact UInt8.toNat_lt _
              rw [hz] at hxc
              clear hz
              have i0' : 0 ≤ (j : Int) := by omega
              have i1 : (j : Int) < (q : Int) := by omega
              have i2 : ((j : Int)).toNat = j := by omega
              go_wp2_with (at_builtin; refine wpList_append_lies _ rfl (.tmp 87) (.tmp 94) 22 rfl B 5 i0 (.int .u8 0) 1 1 Try.underlying22 hi hz0 hz1 hz2 rfl (by omega) _ _ _ rfl (HO.out.alloc _) ⟨wr.heap.size, 0, none⟩ 1 1 [_] rfl rfl (news_one _ _ _) (by intro u hu; simp at hu; subst hu; rfl) (by omega) (by have := HQ.out; unfold maxLen; omega) (by have := HQ.out; omega) (by simp; omega) _ rfl ?_; intro g cap w1 hown1 hgrow1 hat1 hlt1; replace hat1 := hide hat1)
              go_roundw
              case rel =>
                have hqo := HQ.out
                obtain ⟨O', hO1, hO2⟩ := owns_any (by omega) hown1
                exact ⟨j + 1, _, cap, some ⟨g, 0, none⟩, O', rfl, by go_num, by omega, by omega, hown1.form_le (by omega), hide hO1.symm, hide hO2, hide (below_one hBw HB.out HO.out hgrow1)⟩
              case measure => simp [intOf]; omega
            · have hqo := HQ.out
              have HQ' := hide hqo
              clear hqo
              by_cases g1 : j < N
              · have g2 : (q : Int) ≤ (j : Int) := by have : ¬ j < q := fun h => hgo ⟨g1, h⟩; omega
                clear hgo
                go_wp2
                go_roundw
                case rel => exact ⟨m + 1, o', by go_num, by omega, by have := HQ.out; omega, HO, HB⟩
                case measure => simp [intOf]; omega
              · clear hgo
                go_wp2
                go_roundw
                case rel => exact ⟨m + 1, o', by go_num, by omega, by have := HQ.out; omega, HO, HB⟩
                case measure => simp [intOf]; omega
        · obtain ⟨fr, hfr⟩ : ∃ fr : Nat, k / 64 % (p : Int) = (fr : Int) := ⟨(k / 64 % (p : Int)).toNat, by have := Int.emod_nonneg (k / 64) (show (p : Int) ≠ 0 by omega); omega⟩
          have hfrp : fr < p := by have := Int.emod_lt_of_pos (k / 64) (show (0 : Int) < (p : Int) by omega); omega
          have hft : (k / 64).tmod (p : Int) = (fr : Int) := (Int.tmod_eq_emod_of_nonneg hk640).trans hfr
          clear hfr
          have hpz : ((p : Int) == 0) = false := beq_eq_false_iff_ne.2 (by omega)
          have hpz' : ¬ (p : Int) = 0 := by omega
          go_wp2
          go_loopw [3, 9] (fun v3 v9 wi => ∃ (j q cq : Nat) (A : Option Addr) (o : List UInt8), v3 = .slice A q cq ∧ v9 = .int .i64 j ∧ j ≤ N ∧ q ≤ 24 * m + j ∧ q ≤ cq ∧ Hid (q = o.length) ∧ Hid (Owns wi B (.slice A q cq) o) ∧ Hid (Below B w wi)) (fun _ v9 _ => N - (intOf v9).toNat)
          case atStart => exact ⟨0, p, co, A, o, rfl, rfl, by omega, by omega, by omega, HP, HO, HB⟩
          case round =>
            obtain ⟨j, q, cq, A', o', rfl, rfl, hj, hq, hqc, HQ, HO, HB⟩ := hrel
            have hbs := HB.out.size
            by_cases hgo : j < N ∧ fr + j < q
            · obtain ⟨g1, g2⟩ := hgo
              obtain ⟨g0, cq', hv, hg0, _⟩ := World.ownsRow.form HO.out (by have := HQ.out; omega)
              injection hv with hv1 hv2 hv3
              subst hv1
              clear hv2 hv3 hg0
              have hxc := own_cell HO.out HQ.out (i := fr + j) g2
              obtain ⟨z, hz⟩ : ∃ z, (gb o' (fr + j)).toNat = z := ⟨_, rfl⟩
              have hz256 : z < 256 := by rw [← hz]; exact UInt8.toNat_lt _
              rw [hz] at hxc
              clear hz
              have i0' : 0 ≤ ((fr : Int) + (j : Int)) := by omega
              have i1 : ((fr : Int) + (j : Int)) < (q : Int) := by omega
              have i2 : (((fr : Int) + (j : Int))).toNat = fr + j := by omega
              go_wp2_with (at_builtin; refine wpList_append_lies _ rfl (.tmp 87) (.tmp 94) 22 rfl B 5 i0 (.int .u8 0) 1 1 Try.underlying22 hi hz0 hz1 hz2 rfl (by omega) _ _ _ rfl (HO.out.alloc _) ⟨wr.heap.size, 0, none⟩ 1 1 [_] rfl rfl (news_one _ _ _) (by intro u hu; simp at hu; subst hu; rfl) (by omega) (by have := HQ.out; unfold maxLen; omega) (by have := HQ.out; omega) (by simp; omega) _ rfl ?_; intro g cap w1 hown1 hgrow1 hat1 hlt1; replace hat1 := hide hat1)
              go_roundw
              case rel =>
                have hqo := HQ.out
                obtain ⟨O', hO1, hO2⟩ := owns_any (by omega) hown1
                exact ⟨j + 1, _, cap, some ⟨g, 0, none⟩, O', rfl, by go_num, by omega, by omega, hown1.form_le (by omega), hide hO1.symm, hide hO2, hide (below_one hBw HB.out HO.out hgrow1)⟩
              case measure => simp [intOf]; omega
            · have hqo := HQ.out
              have HQ' := hide hqo
              clear hqo
              by_cases g1 : j < N
              · have g2 : (q : Int) ≤ ((fr : Int) + (j : Int)) := by have : ¬ fr + j < q := fun h => hgo ⟨g1, h⟩; omega
                clear hgo
                go_wp2
                go_roundw
                case rel => exact ⟨m + 1, o', by go_num, by omega, by have := HQ.out; omega, HO, HB⟩
                case measure => simp [intOf]; omega
              · clear hgo
                go_wp2
                go_roundw
                case rel => exact ⟨m + 1, o', by go_num, by omega, by have := HQ.out; omega, HO, HB⟩
                case measure => simp [intOf]; omega
      · obtain ⟨A, co, hv3, hco, _⟩ := Owns.shape HO.out
        subst hv3
        obtain ⟨p, HP⟩ : ∃ p, Hid (p = o.length) := ⟨_, hide rfl⟩
        have hpo := HP.out
        rw [← hpo] at hco hol HO ⊢
        clear hpo
        have hk64 : k / 64 ≤ 1048576 := by omega
        have hk640 : 0 ≤ k / 64 := by omega
        have hcase : p = 0 ∨ 0 < p := by omega
        rcases hcase with hp0 | hp0
        · subst hp0
          go_wp2
          go_loopw [3, 9] (fun v3 v9 wi => ∃ (j q cq : Nat) (A : Option Addr) (o : List UInt8), v3 = .slice A q cq ∧ v9 = .int .i64 j ∧ j ≤ N ∧ q ≤ 24 * m + j ∧ q ≤ cq ∧ Hid (q = o.length) ∧ Hid (Owns wi B (.slice A q cq) o) ∧ Hid (Below B w wi)) (fun _ v9 _ => N - (intOf v9).toNat)
          case atStart => exact ⟨0, 0, co, A, o, rfl, rfl, by omega, by omega, by omega, HP, HO, HB⟩
          case round =>
            obtain ⟨j, q, cq, A', o', rfl, rfl, hj, hq, hqc, HQ, HO, HB⟩ := hrel
            have hbs := HB.out.size
            by_cases hgo : j < N ∧ j < q
            · obtain ⟨g1, g2⟩ := hgo
              obtain ⟨g0, cq', hv, hg0, _⟩ := World.ownsRow.form HO.out (by have := HQ.out; omega)
              injection hv with hv1 hv2 hv3
              subst hv1
              clear hv2 hv3 hg0
              have hxc := own_cell HO.out HQ.out (i := j) g2
              obtain ⟨z, hz⟩ : ∃ z, (gb o' (j)).toNat = z := ⟨_, rfl⟩
              have hz256 : z < 256 := by rw [← hz]; exact UInt8.toNat_lt _
              rw [hz] at hxc
              clear hz
              have i0' : 0 ≤ (j : Int) := by omega
              have i1 : (j : Int) < (q : Int) := by omega
              have i2 : ((j : Int)).toNat = j := by omega
              go_wp2_with (at_builtin; refine wpList_append_lies _ rfl (.tmp 87) (.tmp 94) 22 rfl B 5 i0 (.int .u8 0) 1 1 Try.underlying22 hi hz0 hz1 hz2 rfl (by omega) _ _ _ rfl (HO.out.alloc _) ⟨wr.heap.size, 0, none⟩ 1 1 [_] rfl rfl (news_one _ _ _) (by intro u hu; simp at hu; subst hu; rfl) (by omega) (by have := HQ.out; unfold maxLen; omega) (by have := HQ.out; omega) (by simp; omega) _ rfl ?_; intro g cap w1 hown1 hgrow1 hat1 hlt1; replace hat1 := hide hat1)
              go_roundw
              case rel =>
                have hqo := HQ.out
                obtain ⟨O', hO1, hO2⟩ := owns_any (by omega) hown1
                exact ⟨j + 1, _, cap, some ⟨g, 0, none⟩, O', rfl, by go_num, by omega, by omega, hown1.form_le (by omega), hide hO1.symm, hide hO2, hide (below_one hBw HB.out HO.out hgrow1)⟩
              case measure => simp [intOf]; omega
            · have hqo := HQ.out
              have HQ' := hide hqo
              clear hqo
              by_cases g1 : j < N
              · have g2 : (q : Int) ≤ (j : Int) := by have : ¬ j < q := fun h => hgo ⟨g1, h⟩; omega
                clear hgo
                go_wp2
                go_roundw
                case rel => exact ⟨m + 1, o', by go_num, by omega, by have := HQ.out; omega, HO, HB⟩
                case measure => simp [intOf]; omega
              · clear hgo
                go_wp2
                go_roundw
                case rel => exact ⟨m + 1, o', by go_num, by omega, by have := HQ.out; omega, HO, HB⟩
                case measure => simp [intOf]; omega
        · obtain ⟨fr, hfr⟩ : ∃ fr : Nat, k / 64 % (p : Int) = (fr : Int) := ⟨(k / 64 % (p : Int)).toNat, by have := Int.emod_nonneg (k / 64) (show (p : Int) ≠ 0 by omega); omega⟩
          have hfrp : fr < p := by have := Int.emod_lt_of_pos (k / 64) (show (0 : Int) < (p : Int) by omega); omega
          have hft : (k / 64).tmod (p : Int) = (fr : Int) := (Int.tmod_eq_emod_of_nonneg hk640).trans hfr
          clear hfr
          have hpz : ((p : Int) == 0) = false := beq_eq_false_iff_ne.2 (by omega)
          have hpz' : ¬ (p : Int) = 0 := by omega
          go_wp2
          go_loopw [3, 9] (fun v3 v9 wi => ∃ (j q cq : Nat) (A : Option Addr) (o : List UInt8), v3 = .slice A q cq ∧ v9 = .int .i64 j ∧ j ≤ N ∧ q ≤ 24 * m + j ∧ q ≤ cq ∧ Hid (q = o.length) ∧ Hid (Owns wi B (.slice A q cq) o) ∧ Hid (Below B w wi)) (fun _ v9 _ => N - (intOf v9).toNat)
          case atStart => exact ⟨0, p, co, A, o, rfl, rfl, by omega, by omega, by omega, HP, HO, HB⟩
          case round =>
            obtain ⟨j, q, cq, A', o', rfl, rfl, hj, hq, hqc, HQ, HO, HB⟩ := hrel
            have hbs := HB.out.size
            by_cases hgo : j < N ∧ fr + j < q
            · obtain ⟨g1, g2⟩ := hgo
              obtain ⟨g0, cq', hv, hg0, _⟩ := World.ownsRow.form HO.out (by have := HQ.out; omega)
              injection hv with hv1 hv2 hv3
              subst hv1
              clear hv2 hv3 hg0
              have hxc := own_cell HO.out HQ.out (i := fr + j) g2
              obtain ⟨z, hz⟩ : ∃ z, (gb o' (fr + j)).toNat = z := ⟨_, rfl⟩
              have hz256 : z < 256 := by rw [← hz]; exact UInt8.toNat_lt _
              rw [hz] at hxc
              clear hz
              have i0' : 0 ≤ ((fr : Int) + (j : Int)) := by omega
              have i1 : ((fr : Int) + (j : Int)) < (q : Int) := by omega
              have i2 : (((fr : Int) + (j : Int))).toNat = fr + j := by omega
              go_wp2_with (at_builtin; refine wpList_append_lies _ rfl (.tmp 87) (.tmp 94) 22 rfl B 5 i0 (.int .u8 0) 1 1 Try.underlying22 hi hz0 hz1 hz2 rfl (by omega) _ _ _ rfl (HO.out.alloc _) ⟨wr.heap.size, 0, none⟩ 1 1 [_] rfl rfl (news_one _ _ _) (by intro u hu; simp at hu; subst hu; rfl) (by omega) (by have := HQ.out; unfold maxLen; omega) (by have := HQ.out; omega) (by simp; omega) _ rfl ?_; intro g cap w1 hown1 hgrow1 hat1 hlt1; replace hat1 := hide hat1)
              go_roundw
              case rel =>
                have hqo := HQ.out
                obtain ⟨O', hO1, hO2⟩ := owns_any (by omega) hown1
                exact ⟨j + 1, _, cap, some ⟨g, 0, none⟩, O', rfl, by go_num, by omega, by omega, hown1.form_le (by omega), hide hO1.symm, hide hO2, hide (below_one hBw HB.out HO.out hgrow1)⟩
              case measure => simp [intOf]; omega
            · have hqo := HQ.out
              have HQ' := hide hqo
              clear hqo
              by_cases g1 : j < N
              · have g2 : (q : Int) ≤ ((fr : Int) + (j : Int)) := by have : ¬ fr + j < q := fun h => hgo ⟨g1, h⟩; omega
                clear hgo
                go_wp2
                go_roundw
                case rel => exact ⟨m + 1, o', by go_num, by omega, by have := HQ.out; omega, HO, HB⟩
                case measure => simp [intOf]; omega
              · clear hgo
                go_wp2
                go_roundw
                case rel => exact ⟨m + 1, o', by go_num, by omega, by have := HQ.out; omega, HO, HB⟩
                case measure => simp [intOf]; omega
      · go_wp2
        go_loopw [3, 10] (fun v3 v7 wi => ∃ (j : Nat) (o : List UInt8), v7 = .int .i64 j ∧ j ≤ N ∧ o.length ≤ 24 * m + j ∧ Hid (Owns wi B v3 o) ∧ Hid (Below B w wi)) (fun _ v7 _ => N - (intOf v7).toNat)
        case atStart => exact ⟨0, o, rfl, by omega, by omega, HO, HB⟩
        case round =>
          obtain ⟨j, o, rfl, hj, hol, HO, HB⟩ := hrel
          have hbs := HB.out.size
          by_cases hjN : j < N
          · have sh0 : (0 : Int) ≤ (j : Int) % 12 := by omega
            go_wp2_with (at_builtin; refine wpList_append_lies _ rfl (.tmp 33) (.tmp 44) 22 rfl B 5 i0 (.int .u8 0) 1 1 Try.underlying22 hi hz0 hz1 hz2 rfl (by omega) _ _ _ rfl (HO.out.alloc _) ⟨wr.heap.size, 0, none⟩ 1 1 [_] rfl rfl (news_one _ _ _) (by intro u hu; simp at hu; subst hu; rfl) (by omega) (by unfold maxLen; omega) (by omega) (by simp; omega) _ rfl ?_; intro g cap w1 hown1 hgrow1 hat1 hlt1; replace hat1 := hide hat1)
            go_roundw
            case rel =>
              obtain ⟨O', hO1, hO2⟩ := owns_any (by first | exact u8_in _ | exact u8_mod _ | omega) hown1
              exact ⟨j + 1, O', by go_num, by omega, by omega, hide hO2, hide (below_one hBw HB.out HO.out hgrow1)⟩
            case measure => simp [intOf]; omega
          · obtain rfl : j = N := by omega
            go_wp2
            go_roundw
            case rel => exact ⟨m + 1, o, by go_num, by omega, by omega, HO, HB⟩
            case measure => simp [intOf]; omega
    · obtain rfl : m = n := by omega
      go_wp2
      go_ret
      exact ⟨o, _, rfl, hol, HO, HB.out⟩
end Go.Proofs.Ytfkfheapikgejaa
