/- lz, walked: Compress and its reference. -/
import Derived.WalkKit
import Derived.KernelRfl
import Derived.RowKit3
import Derived.Deep.LoopGhost
import Derived.Deep.QuietTactic
import Derived.BigQuiet
import Derived.WideLaws
import Derived.Laws.Rows
import Derived.Below
import Derived.Deep.Draws
import Derived.Outline
import Derived.LoopN
import Derived.Handy
import Derived.Laws.Externs
import Derived.Laws.BitsAllLaws
import Derived.Laws.BitsLemmas
import Derived.Deep.DeepCutAuto
import Derived.Deep.CutBlock
import Derived.Deep.RegionHeld3
import Derived.Test.YtfkfheapikgejaaZ4
import Derived.Maps.AppendAt
import Derived.Deep.AppendLies
import Derived.OwnWalk
import Derived.IntWalk
namespace Go.Proofs.Ytfkfheapikgejaa
open Go.RowKit
set_option linter.unusedVariables false
set_option linter.unusedSimpArgs false
theorem BRl.cut' {B : Nat} {w : World} {b off : Nat} {l : List UInt8} (h : BRl B w (some ⟨b, off, none⟩) l) {k c : Nat} (hk : k ≤ l.length) (hc : l.length ≤ c) : BRl B w (if c = k then some ⟨b, off, none⟩ else some ⟨b, off + k, none⟩) (l.drop k) := by
  intro hl
  have hlt : k < l.length := by
    rcases Nat.lt_or_ge k l.length with h1 | h1
    · exact h1
    · exact absurd (List.drop_eq_nil_of_le h1) hl
  obtain ⟨b', o', e, hB, hx⟩ := h (fun e => by rw [e] at hlt; simp at hlt)
  injection e with e
  injection e with e1 e2
  subst e1
  subst e2
  refine ⟨b, off + k, by rw [if_neg (by omega)], hB, fun i hi => ?_⟩
  rw [List.length_drop] at hi
  rw [gb_drop, Nat.add_assoc]
  exact hx (k + i) (by omega)
theorem BRl.mid {B : Nat} {w : World} {b off : Nat} {l : List UInt8} (h : BRl B w (some ⟨b, off, none⟩) l) (f a : Nat) (ha : a ≤ l.length) : BRl B w (some ⟨b, off + f, none⟩) ((l.take a).drop f) := by
  intro hl
  have hlen : ((l.take a).drop f).length = a - f := by rw [List.length_drop, List.length_take]; omega
  have hpos := List.length_pos_iff.2 hl
  obtain ⟨b', o', e, hB, hx⟩ := h (fun e => by subst e; simp at hl)
  injection e with e
  injection e with e1 e2
  subst e1
  subst e2
  refine ⟨b, off + f, rfl, hB, fun i hi => ?_⟩
  rw [hlen] at hi
  rw [gb_drop, gb_take (by omega), Nat.add_assoc]
  exact hx (f + i) (by omega)
theorem BRl.take {B : Nat} {w : World} {ad : Option Addr} {l : List UInt8} (h : BRl B w ad l) (n : Nat) : BRl B w ad (l.take n) := by
  intro hl
  obtain ⟨b, o, rfl, hB, hc⟩ := h (fun e => hl (by rw [e]; simp))
  refine ⟨b, o, rfl, hB, fun i hi => ?_⟩
  simp only [List.length_take] at hi
  rw [hc i (by omega), gb_take (by omega)]
theorem news_three (w : World) (x y z : Value) (e : TypeId) : ∀ j u, [x, y, z][j]? = some u → (w.alloc (.cells #[x, y, z] e)).cell? ((⟨w.heap.size, 0, none⟩ : Addr).add j) = some u :=
  World.news_of_block (heap_alloc_new w _)
theorem owns_some {w2 : World} {B m : Nat} {v : Value} {O r : List UInt8} {xs : List Value} (hm : m = r.length) (hx : xs = r.map bv) (h : w2.ownsRow B 5 1 v (O.length + m) (O.map bv ++ xs)) : Owns w2 B v (O ++ r) := by
  unfold Owns
  rw [List.length_append, List.map_append, ← hm, ← hx]
  exact h
theorem bv_of {n : Nat} {x : Int} (h : n < 256) (hx : x = (n : Int)) : Value.int .u8 x = bv (UInt8.ofNat n) := by
  rw [bv, toNat_of h, hx]
theorem below_one {w wr w1 : World} {B : Nat} {O : List UInt8} {v : Value} {ob : Obj} (hw : B ≤ w.heap.size) (hb : Below B w wr) (ho : Owns wr B v O) (hg1 : (wr.alloc ob).grownBy w1 v.ownBlock) : Below B w w1 := by
  have hs := hb.size
  exact (hb.alloc (by omega) ob).grown hg1 (by rw [World.size_alloc]; omega) (fun k hk => (ho.lt k hk).1)
theorem Owns.keep {w w' : World} {B : Nat} {v : Value} {o : List UInt8} (h : Owns w B v o) (hb : Below w.heap.size w w') : Owns w' B v o :=
  World.ownsRow.kept h (row := none) ⟨hb.os, hb.tape, hb.output, hb.size, fun k hk _ => hb.block k hk⟩ (by
    rcases Option.eq_none_or_eq_some v.ownBlock with e | ⟨x, e⟩
    · exact .inl e
    · exact .inr (by rw [e]; simp))
theorem comp_next {l o : List UInt8} {f a N D : Nat} (hb : best l a = (N, D)) (ha : a < l.length) (hn : ¬ N < 4) (h : comp l 0 0 = o ++ comp l f a) :
    comp l 0 0 = (o ++ lits ((l.take a).drop f)) ++ ([UInt8.ofNat (N + 124), UInt8.ofNat ((D - 1) / 256), UInt8.ofNat ((D - 1) % 256)] ++ comp l (a + N) (a + N)) := by
  rw [h, comp_hit ha (by rw [hb]; exact hn), hb, List.append_assoc]
theorem out_len {l o r : List UInt8} (hl : l.length ≤ 100000) (h : comp l 0 0 = o ++ r) : o.length ≤ 300000 := by
  have h1 := comp_bound l
  have h2 := congrArg List.length h
  rw [List.length_append] at h2
  omega
set_option maxRecDepth 20000 in
set_option maxHeartbeats 4000000 in
theorem comp_c {l : List UInt8} (ad : Option Addr) (n c : Nat) (hn : Hid (n = l.length)) (hc : n ≤ c) (hlen : n ≤ 100000) (w : World) (hrow : Hid (BRow w ad l)) :
    Calls Try.prog 12 #[.slice ad n c] w fun e w' => ∃ v, e = .returned v ∧ Hid (Owns w' w.heap.size v (comp l 0 0)) ∧ Below w.heap.size w w' := by
  have HR := hide (hrow.out.low (Nat.le_refl _))
  obtain ⟨B, hB⟩ : ∃ B, w.heap.size = B := ⟨_, rfl⟩
  rw [hB] at HR
  have hBw : B ≤ w.heap.size := by omega
  rw [hB]
  clear hB
  obtain ⟨i0, hi, hz0, hz1, hz2⟩ := info_parts infoB
  go_enter Try.func12, Try.ntmps12
  go_wp2
  go_loopw [3, 4, 5] (fun v3 v4 v5 wr => ∃ (f a : Nat) (o : List UInt8), v4 = .int .i64 f ∧ v5 = .int .i64 a ∧ f ≤ a ∧ a ≤ n ∧ Hid (comp l 0 0 = o ++ comp l f a) ∧ Hid (Owns wr B v3 o) ∧ Hid (Below B w wr)) (fun _ _ v5 _ => n - (intOf v5).toNat)
  case atStart => exact ⟨0, 0, [], rfl, rfl, by omega, by omega, hide rfl, hide (World.ownsRow_nil _ _ _ _), hide (Below.refl _ _)⟩
  case round =>
    obtain ⟨f, a, o, rfl, rfl, hfa, han, HC, HO, HB⟩ := hrel
    have hbs := HB.out.size
    have hlo := out_len (by rw [← hn.out]; exact hlen) HC.out
    by_cases hlt : a < n
    · have hla : a < l.length := by have := hn.out; omega
      obtain ⟨b, off, rfl, _⟩ := HR.out (by intro e; subst e; simp at hla)
      obtain ⟨N, D, hND⟩ : ∃ N D, best l a = (N, D) := ⟨_, _, rfl⟩
      have hbn := best_n l a
      have hbd := best_d_le l a
      have hbd1 := best_d l a
      rw [hND] at hbn hbd hbd1
      have hN1 : N ≤ 131 := hbn.1
      have hN2 : a + N ≤ n := by have h1 : N ≤ l.length - a := hbn.2; have := hn.out; omega
      have hD1 : D ≤ 1024 := hbd.1
      have hD2 : 0 < N → 1 ≤ D := fun h => (hbd1 h).1
      have HM := lm_c (some ⟨b, off, none⟩) n c a hn hlt (by omega) wr (hide ((HR.out.below HB.out).row))
      rw [hND] at HM
      replace HM := hide HM
      replace hla := hide hla
      replace hND := hide hND
      clear hbn hbd hbd1
      by_cases h4 : N < 4
      · clear hD2
        go_wp2_with fail
        refine HM.out.mono ?_
        rintro e w1 ⟨rfl, hb1⟩
        go_wp2
        go_roundw
        case rel =>
          have hb := HB.out
          have hb1' : Below B w w1 := hb.trans (hb1.mono (by omega))
          refine ⟨f, a + 1, o, rfl, by go_num, by omega, by omega, hide ?_, hide ?_, hide hb1'⟩
          · rw [HC.out, comp_skip hla.out (by rw [hND.out]; exact h4)]
          · exact HO.out.keep hb1
        case measure => simp [intOf]; omega
      · have hD3 := hD2 (by omega)
        clear hD2
        have HX := hide (comp_next hND.out hla.out h4 HC.out)
        have g1 : (f : Int) ≤ (a : Int) := by omega
        have g2 : (a : Int) ≤ (c : Int) := by omega
        have g3 : (f : Int) < (c : Int) := by omega
        have hlq : ((l.take a).drop f).length = a - f := by rw [List.length_drop, List.length_take]; have := hla.out; omega
        obtain ⟨O, hO⟩ : ∃ O, o ++ lits ((l.take a).drop f) = O := ⟨_, rfl⟩
        have hOl : O.length ≤ 300000 := by have := HX.out; rw [hO] at this; exact out_len (by rw [← hn.out]; exact hlen) this
        replace hO := hide hO
        replace hlq := hide hlq.symm
        have b1 : IntKind.u8.wrap ((N : Int) + 124) = ((N + 124 : Nat) : Int) := by rw [IntKind.wrap_u8]; omega
        have b2 : IntKind.u8.wrap (((D : Int) - 1) / 256) = (((D - 1) / 256 : Nat) : Int) := by rw [IntKind.wrap_u8]; omega
        have b3 : IntKind.u8.wrap ((D : Int) - 1) = (((D - 1) % 256 : Nat) : Int) := by rw [IntKind.wrap_u8]; omega
        go_wp2_with fail
        refine HM.out.mono ?_
        rintro e w1 ⟨rfl, hb1⟩
        have hs1 := hb1.size
        have HB1 := hide (HB.out.trans (hb1.mono (by omega)))
        have HO1 : Hid (Owns w1 B u3 o) := hide (HO.out.keep hb1)
        go_wp2_with fail
        refine (lits_c B (some ⟨b, off + f, none⟩) (a - f) (c - f) _ hlq (by omega) (by omega) (hide (show o.length ≤ 10000000 by omega)) w1 (by omega) (hide ((HR.out.below HB1.out).mid f a (by have := hla.out; omega))) HO1).mono ?_
        rintro e w2 ⟨v2, rfl, HO2, hb2⟩
        have hs2 := hb2.size
        have HB2 := hide (HB1.out.trans hb2)
        rw [hO.out] at HO2
        go_wp2_with (at_builtin; refine wpList_append_lies _ rfl (.tmp 28) (.tmp 39) 22 rfl B 5 i0 (.int .u8 0) 1 1 Try.underlying22 hi hz0 hz1 hz2 rfl (by omega) _ _ _ rfl (HO2.out.alloc _) ⟨w2.heap.size, 0, none⟩ 3 3 [.int .u8 ((N + 124 : Nat) : Int), .int .u8 (((D - 1) / 256 : Nat) : Int), .int .u8 (((D - 1) % 256 : Nat) : Int)] rfl rfl (news_three _ _ _ _ _) (by intro u hu; simp at hu; rcases hu with rfl | rfl | rfl <;> rfl) (by omega) (by unfold maxLen; omega) (by omega) (by simp; omega) _ rfl ?_; intro g cap w3 hown3 hgrow3 hat3 hlt3; replace hat3 := hide hat3)
        go_roundw
        case rel =>
          refine ⟨a + N, a + N, O ++ [UInt8.ofNat (N + 124), UInt8.ofNat ((D - 1) / 256), UInt8.ofNat ((D - 1) % 256)], by go_num, by go_num, by omega, by omega, hide ?_, hide ?_, hide ?_⟩
          · have := HX.out
            rw [hO.out, ← List.append_assoc] at this
            exact this
          · exact owns_some rfl (by rw [bv_of (n := N + 124) (by omega) rfl, bv_of (n := (D - 1) / 256) (by omega) rfl, bv_of (n := (D - 1) % 256) (by omega) rfl]; rfl) hown3
          · exact below_one hBw HB2.out HO2.out hgrow3
        case measure => simp [intOf]; omega
    · obtain rfl : a = n := by omega
      have hce := HC.out
      rw [comp_end (f := f) (a := a) (by rw [← hn.out]; omega)] at hce
      have g1 : (f : Int) ≤ (a : Int) := by omega
      have g2 : (a : Int) ≤ (c : Int) := by omega
      have g3 : (f : Int) ≤ (c : Int) := by omega
      by_cases h0 : a = 0
      · subst h0
        obtain rfl : l = [] := List.eq_nil_of_length_eq_zero (by have := hn.out; omega)
        obtain rfl : f = 0 := by omega
        replace hce := hide hce
        clear g1 g2 g3 hfa han hlt
        go_wp2_with fail
        refine (lits_c (l := []) B _ 0 _ _ (hide rfl) (by omega) (by omega) (hide (show o.length ≤ 10000000 by omega)) wr (by omega) (hide (fun h => absurd rfl h)) HO).mono ?_
        rintro e w2 ⟨v2, rfl, HO2, hb2⟩
        go_wp2
        go_ret
        have hb := HB.out
        refine ⟨_, rfl, hide ?_, hb.trans hb2⟩
        have h2 := HO2.out
        have h3 := hce.out
        rw [List.drop_nil] at h3
        rw [h3]
        exact h2
      · have hla : 0 < l.length := by have := hn.out; omega
        obtain ⟨b, off, rfl, _⟩ := HR.out (by intro e; subst e; simp at hla)
        replace hce := hide hce
        have hll := hn.out
        replace hla := hide hla
        have hdl : Hid (a - f = (l.drop f).length) := hide (by rw [List.length_drop]; omega)
        clear hlt han
        by_cases hfc : c = f
        · have hac : a = c := by omega
          have hfa' : f = a := by omega
          subst hac
          subst hfa'
          clear hfa g1 g2 g3 hc hll hfc
          have hdn : l.drop f = [] := List.drop_eq_nil_of_le (by have := hn.out; omega)
          rw [hdn] at hce
          replace hdn := hide hdn
          go_wp2_with fail
          refine (lits_c (l := []) B _ 0 _ _ (hide rfl) (by omega) (by omega) (hide (show o.length ≤ 10000000 by omega)) wr (by omega) (hide (fun h => absurd rfl h)) HO).mono ?_
          rintro e w2 ⟨v2, rfl, HO2, hb2⟩
          go_wp2
          go_ret
          have hb := HB.out
          exact ⟨_, rfl, hide (by rw [hce.out]; exact HO2.out), hb.trans hb2⟩
        · have g4 : (f : Int) < (c : Int) := by omega
          have hcut := (HR.out.below HB.out).cut' (k := f) (c := c) (by omega) (by omega)
          rw [if_neg hfc] at hcut
          replace hcut := hide hcut
          clear hll hfc g3
          go_wp2_with fail
          refine (lits_c (l := l.drop f) B _ (a - f) (c - f) _ hdl (by omega) (by omega) (hide (show o.length ≤ 10000000 by omega)) wr (by omega) hcut HO).mono ?_
          rintro e w2 ⟨v2, rfl, HO2, hb2⟩
          go_wp2
          go_ret
          have hb := HB.out
          exact ⟨_, rfl, hide (by rw [hce.out]; exact HO2.out), hb.trans hb2⟩
set_option maxRecDepth 20000 in
set_option maxHeartbeats 4000000 in
theorem rcomp_c {l : List UInt8} (ad : Option Addr) (n c : Nat) (hn : Hid (n = l.length)) (hc : n ≤ c) (hlen : n ≤ 100000) (w : World) (hrow : Hid (BRow w ad l)) :
    Calls Try.prog 17 #[.slice ad n c] w fun e w' => ∃ v, e = .returned v ∧ Hid (Owns w' w.heap.size v (comp l 0 0)) ∧ Below w.heap.size w w' := by
  have HR := hide (hrow.out.low (Nat.le_refl _))
  obtain ⟨B, hB⟩ : ∃ B, w.heap.size = B := ⟨_, rfl⟩
  rw [hB] at HR
  have hBw : B ≤ w.heap.size := by omega
  rw [hB]
  clear hB
  obtain ⟨i0, hi, hz0, hz1, hz2⟩ := info_parts infoB
  go_enter Try.func17, Try.ntmps17
  go_wp2
  go_loopw [3, 4, 5] (fun v3 v4 v5 wr => ∃ (f a : Nat) (o : List UInt8), v4 = .int .i64 f ∧ v5 = .int .i64 a ∧ f ≤ a ∧ a ≤ n ∧ Hid (comp l 0 0 = o ++ comp l f a) ∧ Hid (Owns wr B v3 o) ∧ Hid (Below B w wr)) (fun _ _ v5 _ => n - (intOf v5).toNat)
  case atStart => exact ⟨0, 0, [], rfl, rfl, by omega, by omega, hide rfl, hide (World.ownsRow_nil _ _ _ _), hide (Below.refl _ _)⟩
  case round =>
    obtain ⟨f, a, o, rfl, rfl, hfa, han, HC, HO, HB⟩ := hrel
    have hbs := HB.out.size
    have hlo := out_len (by rw [← hn.out]; exact hlen) HC.out
    by_cases hlt : a < n
    · have hla : a < l.length := by have := hn.out; omega
      obtain ⟨b, off, rfl, _⟩ := HR.out (by intro e; subst e; simp at hla)
      obtain ⟨N, D, hND⟩ : ∃ N D, best l a = (N, D) := ⟨_, _, rfl⟩
      have hbn := best_n l a
      have hbd := best_d_le l a
      have hbd1 := best_d l a
      rw [hND] at hbn hbd hbd1
      have hN1 : N ≤ 131 := hbn.1
      have hN2 : a + N ≤ n := by have h1 : N ≤ l.length - a := hbn.2; have := hn.out; omega
      have hD1 : D ≤ 1024 := hbd.1
      have hD2 : 0 < N → 1 ≤ D := fun h => (hbd1 h).1
      have HM := best_c (some ⟨b, off, none⟩) n c a hn hlt (by omega) wr (hide ((HR.out.below HB.out).row))
      rw [hND] at HM
      replace HM := hide HM
      replace hla := hide hla
      replace hND := hide hND
      clear hbn hbd hbd1
      by_cases h4 : N < 4
      · clear hD2
        go_wp2_with fail
        refine HM.out.mono ?_
        rintro e w1 ⟨rfl, hb1⟩
        go_wp2
        go_roundw
        case rel =>
          have hb := HB.out
          have hb1' : Below B w w1 := hb.trans (hb1.mono (by omega))
          refine ⟨f, a + 1, o, rfl, by go_num, by omega, by omega, hide ?_, hide ?_, hide hb1'⟩
          · rw [HC.out, comp_skip hla.out (by rw [hND.out]; exact h4)]
          · exact HO.out.keep hb1
        case measure => simp [intOf]; omega
      · have hD3 := hD2 (by omega)
        clear hD2
        have HX := hide (comp_next hND.out hla.out h4 HC.out)
        have g1 : (f : Int) ≤ (a : Int) := by omega
        have g2 : (a : Int) ≤ (c : Int) := by omega
        have g3 : (f : Int) < (c : Int) := by omega
        have hlq : ((l.take a).drop f).length = a - f := by rw [List.length_drop, List.length_take]; have := hla.out; omega
        obtain ⟨O, hO⟩ : ∃ O, o ++ lits ((l.take a).drop f) = O := ⟨_, rfl⟩
        have hOl : O.length ≤ 300000 := by have := HX.out; rw [hO] at this; exact out_len (by rw [← hn.out]; exact hlen) this
        replace hO := hide hO
        replace hlq := hide hlq.symm
        have b1 : IntKind.u8.wrap ((N : Int) + 124) = ((N + 124 : Nat) : Int) := by rw [IntKind.wrap_u8]; omega
        have b2 : IntKind.u8.wrap (((D : Int) - 1) / 256) = (((D - 1) / 256 : Nat) : Int) := by rw [IntKind.wrap_u8]; omega
        have b3 : IntKind.u8.wrap (((D : Int) - 1) % 256) = (((D - 1) % 256 : Nat) : Int) := by rw [IntKind.wrap_u8]; omega
        go_wp2_with fail
        refine HM.out.mono ?_
        rintro e w1 ⟨rfl, hb1⟩
        have hs1 := hb1.size
        have HB1 := hide (HB.out.trans (hb1.mono (by omega)))
        have HO1 : Hid (Owns w1 B u3 o) := hide (HO.out.keep hb1)
        go_wp2_with fail
        refine (rlits_c B (some ⟨b, off + f, none⟩) (a - f) (c - f) _ hlq (by omega) (by omega) (hide (show o.length ≤ 10000000 by omega)) w1 (by omega) (hide ((HR.out.below HB1.out).mid f a (by have := hla.out; omega))) HO1).mono ?_
        rintro e w2 ⟨v2, rfl, HO2, hb2⟩
        have hs2 := hb2.size
        have HB2 := hide (HB1.out.trans hb2)
        rw [hO.out] at HO2
        go_wp2_with (at_builtin; refine wpList_append_lies _ rfl (.tmp 28) (.tmp 40) 22 rfl B 5 i0 (.int .u8 0) 1 1 Try.underlying22 hi hz0 hz1 hz2 rfl (by omega) _ _ _ rfl (HO2.out.alloc _) ⟨w2.heap.size, 0, none⟩ 3 3 [.int .u8 ((N + 124 : Nat) : Int), .int .u8 (((D - 1) / 256 : Nat) : Int), .int .u8 (((D - 1) % 256 : Nat) : Int)] rfl rfl (news_three _ _ _ _ _) (by intro u hu; simp at hu; rcases hu with rfl | rfl | rfl <;> rfl) (by omega) (by unfold maxLen; omega) (by omega) (by simp; omega) _ rfl ?_; intro g cap w3 hown3 hgrow3 hat3 hlt3; replace hat3 := hide hat3)
        go_roundw
        case rel =>
          refine ⟨a + N, a + N, O ++ [UInt8.ofNat (N + 124), UInt8.ofNat ((D - 1) / 256), UInt8.ofNat ((D - 1) % 256)], by go_num, by go_num, by omega, by omega, hide ?_, hide ?_, hide ?_⟩
          · have := HX.out
            rw [hO.out, ← List.append_assoc] at this
            exact this
          · exact owns_some rfl (by rw [bv_of (n := N + 124) (by omega) rfl, bv_of (n := (D - 1) / 256) (by omega) rfl, bv_of (n := (D - 1) % 256) (by omega) rfl]; rfl) hown3
          · exact below_one hBw HB2.out HO2.out hgrow3
        case measure => simp [intOf]; omega
    · obtain rfl : a = n := by omega
      have hce := HC.out
      rw [comp_end (f := f) (a := a) (by rw [← hn.out]; omega)] at hce
      have g1 : (f : Int) ≤ (a : Int) := by omega
      have g2 : (a : Int) ≤ (c : Int) := by omega
      have g3 : (f : Int) ≤ (c : Int) := by omega
      by_cases h0 : a = 0
      · subst h0
        obtain rfl : l = [] := List.eq_nil_of_length_eq_zero (by have := hn.out; omega)
        obtain rfl : f = 0 := by omega
        replace hce := hide hce
        clear g1 g2 g3 hfa han hlt
        go_wp2_with fail
        refine (rlits_c (l := []) B _ 0 _ _ (hide rfl) (by omega) (by omega) (hide (show o.length ≤ 10000000 by omega)) wr (by omega) (hide (fun h => absurd rfl h)) HO).mono ?_
        rintro e w2 ⟨v2, rfl, HO2, hb2⟩
        go_wp2
        go_ret
        have hb := HB.out
        refine ⟨_, rfl, hide ?_, hb.trans hb2⟩
        have h2 := HO2.out
        have h3 := hce.out
        rw [List.drop_nil] at h3
        rw [h3]
        exact h2
      · have hla : 0 < l.length := by have := hn.out; omega
        obtain ⟨b, off, rfl, _⟩ := HR.out (by intro e; subst e; simp at hla)
        replace hce := hide hce
        have hll := hn.out
        replace hla := hide hla
        have hdl : Hid (a - f = (l.drop f).length) := hide (by rw [List.length_drop]; omega)
        clear hlt han
        by_cases hfc : c = f
        · have hac : a = c := by omega
          have hfa' : f = a := by omega
          subst hac
          subst hfa'
          clear hfa g1 g2 g3 hc hll hfc
          have hdn : l.drop f = [] := List.drop_eq_nil_of_le (by have := hn.out; omega)
          rw [hdn] at hce
          replace hdn := hide hdn
          go_wp2_with fail
          refine (rlits_c (l := []) B _ 0 _ _ (hide rfl) (by omega) (by omega) (hide (show o.length ≤ 10000000 by omega)) wr (by omega) (hide (fun h => absurd rfl h)) HO).mono ?_
          rintro e w2 ⟨v2, rfl, HO2, hb2⟩
          go_wp2
          go_ret
          have hb := HB.out
          exact ⟨_, rfl, hide (by rw [hce.out]; exact HO2.out), hb.trans hb2⟩
        · have g4 : (f : Int) < (c : Int) := by omega
          have hcut := (HR.out.below HB.out).cut' (k := f) (c := c) (by omega) (by omega)
          rw [if_neg hfc] at hcut
          replace hcut := hide hcut
          clear hll hfc g3
          go_wp2_with fail
          refine (rlits_c (l := l.drop f) B _ (a - f) (c - f) _ hdl (by omega) (by omega) (hide (show o.length ≤ 10000000 by omega)) wr (by omega) hcut HO).mono ?_
          rintro e w2 ⟨v2, rfl, HO2, hb2⟩
          go_wp2
          go_ret
          have hb := HB.out
          exact ⟨_, rfl, hide (by rw [hce.out]; exact HO2.out), hb.trans hb2⟩
end Go.Proofs.Ytfkfheapikgejaa
