/- lz, walked: appendLiterals, literals. -/
import Derived.WalkKit
import Derived.KernelRfl
import Derived.RowKit3
import Derived.Deep.LoopGhost
import Derived.Deep.QuietTactic
import Derived.BigQuiet
import Derived.WideLaws
import Derived.Laws.Rows
import Derived.Below
import Derived.Deep.Draws
import Derived.Outline
import Derived.LoopN
import Derived.Handy
import Derived.Laws.Externs
import Derived.Laws.BitsAllLaws
import Derived.Laws.BitsLemmas
import Derived.Deep.DeepCutAuto
import Derived.Deep.CutBlock
import Derived.Deep.RegionHeld3
import Derived.Test.YtfkfheapikgejaaZ3
import Derived.Maps.AppendAt
import Derived.Deep.AppendLies
import Derived.RegionTactic
import Derived.OwnWalk
import Derived.Deep.RegionLaw
import Derived.IntWalk
namespace Go.Proofs.Ytfkfheapikgejaa
open Go.RowKit
set_option linter.unusedVariables false
set_option linter.unusedSimpArgs false
theorem infoB : (Try.prog.info? 5).map (fun i => (i.zero, i.size, i.bytes)) = some (some (.int .u8 0), 1, 1) := by kernel_rfl
/-- The cells at this address, below block B, hold these bytes. -/
def BRl (B : Nat) (w : World) (ad : Option Addr) (l : List UInt8) : Prop := l ≠ [] → ∃ b o, ad = some ⟨b, o, none⟩ ∧ b < B ∧ ∀ i, i < l.length → w.cell? ⟨b, o + i, none⟩ = some (.int .u8 ((gb l i).toNat : Int))
theorem BRl.row {B : Nat} {w : World} {ad : Option Addr} {l : List UInt8} (h : BRl B w ad l) : BRow w ad l := fun hl => by
  obtain ⟨b, o, e, _, hc⟩ := h hl
  exact ⟨b, o, e, hc⟩
theorem BRl.below {B : Nat} {w w' : World} {ad : Option Addr} {l : List UInt8} (h : BRl B w ad l) (hb : Below B w w') : BRl B w' ad l := by
  intro hl
  obtain ⟨b, o, rfl, hB, hc⟩ := h hl
  exact ⟨b, o, rfl, hB, fun i hi => (hb.cell (p := ⟨b, o + i, none⟩) hB).trans (hc i hi)⟩
theorem BRow.low {w : World} {ad : Option Addr} {l : List UInt8} {B : Nat} (h : BRow w ad l) (hB : w.heap.size ≤ B) : BRl B w ad l := by
  intro hl
  obtain ⟨b, o, rfl, hc⟩ := h hl
  refine ⟨b, o, rfl, ?_, hc⟩
  have := World.block_lt_of_cell? w _ (hc 0 (List.length_pos_iff.2 hl))
  show b < B
  have h2 : b < w.heap.size := this
  omega
theorem BRl.cut {B : Nat} {w : World} {ad : Option Addr} {l : List UInt8} (h : BRl B w ad l) {k c : Nat} (hk : k ≤ l.length) (hc : l.length ≤ c) : BRl B w (if c = k then ad else ad.map (·.add k)) (l.drop k) := by
  intro hl
  have hlt : k < l.length := by
    rcases Nat.lt_or_ge k l.length with h1 | h1
    · exact h1
    · exact absurd (List.drop_eq_nil_of_le h1) hl
  obtain ⟨b, o, rfl, hB, hx⟩ := h (fun e => by rw [e] at hlt; simp at hlt)
  refine ⟨b, o + k, ?_, hB, fun i hi => ?_⟩
  · rw [if_neg (by omega)]
    by_cases h0 : k = 0
    · subst h0; rfl
    · simp [Addr.add, h0]
  · rw [List.length_drop] at hi
    rw [gb_drop, Nat.add_assoc]
    exact hx (k + i) (by omega)
/-- v owns these bytes -/
def Owns (w : World) (B : Nat) (v : Value) (l : List UInt8) : Prop := w.ownsRow B 5 1 v l.length (l.map bv)
theorem news_one (w : World) (v : Value) (e : TypeId) : ∀ j u, [v][j]? = some u → (w.alloc (.cells #[v] e)).cell? ((⟨w.heap.size, 0, none⟩ : Addr).add j) = some u := by
  intro j u hj
  match j, hj with
  | 0, hj => simp at hj; subst hj; simp [Addr.add, go_sem]
theorem news_row {w : World} {b o : Nat} {l : List UInt8} {m : Nat} (h : ∀ i, i < l.length → w.cell? ⟨b, o + i, none⟩ = some (.int .u8 ((gb l i).toNat : Int))) : ∀ j u, ((l.take m).map bv)[j]? = some u → w.cell? ((⟨b, o, none⟩ : Addr).add j) = some u := by
  intro j u hj
  have hadd : (⟨b, o, none⟩ : Addr).add j = ⟨b, o + j, none⟩ := by unfold Addr.add; split <;> simp_all
  rw [List.getElem?_map, List.getElem?_take] at hj
  split at hj
  · by_cases hlt : j < l.length
    · rw [List.getElem?_eq_getElem hlt] at hj
      rw [hadd, h j hlt]
      simp at hj
      rw [← hj]
      simp [gb, bv, List.getD, List.getElem?_eq_getElem hlt]
    · rw [List.getElem?_eq_none (by omega)] at hj
      cases hj
  · cases hj
theorem bv_one (l : List UInt8) : ∀ u ∈ l.map bv, u.oneCell' = true := by
  intro u hu
  obtain ⟨x, _, rfl⟩ := List.mem_map.1 hu
  rfl
theorem owns_two {w2 : World} {B m : Nat} {v : Value} {O r : List UInt8} {x : Int} (hm : m ≤ r.length) (hx : x = (m : Int)) (h256 : m < 256) (h : w2.ownsRow B 5 1 v (O.length + 1 + m) (O.map bv ++ [.int .u8 x] ++ (r.take m).map bv)) : Owns w2 B v (O ++ (UInt8.ofNat m :: r.take m)) := by
  unfold Owns
  have e1 : (O ++ (UInt8.ofNat m :: r.take m)).length = O.length + 1 + m := by
    rw [List.length_append, List.length_cons, List.length_take]; omega
  have e2 : (O ++ (UInt8.ofNat m :: r.take m)).map bv = O.map bv ++ [.int .u8 x] ++ (r.take m).map bv := by
    rw [List.map_append, List.map_cons, List.append_assoc]
    have : bv (UInt8.ofNat m) = .int .u8 x := by rw [bv, toNat_of h256, hx]
    rw [this]
    rfl
  rw [e1, e2]
  exact h
theorem below_two {w wr w1 w2 : World} {B n1 : Nat} {O : List UInt8} {v v1 : Value} {xs : List Value} {ob : Obj} (hw : B ≤ w.heap.size) (hb : Below B w wr) (ho : Owns wr B v O) (hg1 : (wr.alloc ob).drew.grownBy w1 v.ownBlock) (h1 : w1.ownsRow B 5 1 v1 n1 xs) (hg2 : w1.grownBy w2 v1.ownBlock) : Below B w w2 := by
  have hs := hb.size
  have hs1 := hg1.size
  have hs1' : (wr.alloc ob).heap.size ≤ w1.heap.size := hs1
  rw [World.size_alloc] at hs1'
  have b1 : Below B w (wr.alloc ob).drew := (hb.alloc (by omega) ob).drew
  have b2 : Below B w w1 := b1.grown hg1 (by show B ≤ (wr.alloc ob).heap.size; rw [World.size_alloc]; omega) (fun k hk => (ho.lt k hk).1)
  exact b2.grown hg2 (by omega) (fun k hk => (h1.lt k hk).1)
theorem lits_next {l o t r O : List UInt8} {m : Nat} (hne : r ≠ []) (hm : m = min r.length 127) (hO : o ++ t = O) (h : lits l = t ++ lits r) : lits l = (t ++ (UInt8.ofNat m :: r.take m)) ++ lits (r.drop m) ∧ O ++ (UInt8.ofNat m :: r.take m) = o ++ (t ++ (UInt8.ofNat m :: r.take m)) := by
  refine ⟨?_, by rw [← hO, List.append_assoc]⟩
  have e1 : r.take 127 = r.take m := by
    rcases Nat.lt_or_ge r.length 127 with h1 | h1
    · rw [List.take_of_length_le (by omega), List.take_of_length_le (by omega)]
    · rw [hm, Nat.min_eq_right h1]
  have e2 : r.drop 127 = r.drop m := by
    rcases Nat.lt_or_ge r.length 127 with h1 | h1
    · rw [List.drop_of_length_le (by omega), List.drop_of_length_le (by omega)]
    · rw [hm, Nat.min_eq_right h1]
  rw [h, lits_step hne, ← hm, e1, e2, List.append_assoc]
  rfl
theorem lits_left {t r : List UInt8} {m : Nat} (hm : m ≤ r.length) (hne : r ≠ []) (hm2 : m = min r.length 127) (h : t.length + (lits r).length ≤ 2000000) : (t ++ (UInt8.ofNat m :: r.take m)).length + (lits (r.drop m)).length ≤ 2000000 := by
  have := (lits_next (l := r) (o := []) (t := []) (O := []) hne hm2 rfl rfl).1
  have h2 := congrArg List.length this
  simp only [List.nil_append, List.length_append] at h2
  rw [List.length_append]
  omega
set_option maxRecDepth 20000 in
set_option maxHeartbeats 4000000 in
theorem lits_c {l o : List UInt8} (B : Nat) (ad : Option Addr) (n c : Nat) (v : Value) (hn : Hid (n = l.length)) (hc : n ≤ c) (hlen : n ≤ 1000000) (ho : Hid (o.length ≤ 10000000)) (w : World) (hB : B ≤ w.heap.size) (hrow : Hid (BRl B w ad l)) (hown : Hid (Owns w B v o)) :
    Calls Try.prog 19 #[v, .slice ad n c] w fun e w' => ∃ v', e = .returned v' ∧ Hid (Owns w' B v' (o ++ lits l)) ∧ Below B w w' := by
  obtain ⟨i0, hi, hz0, hz1, hz2⟩ := info_parts infoB
  go_enter Try.func19, Try.ntmps19
  go_wp2
  go_loopw [0, 1] (fun v0 v1 wr => ∃ (A : Option Addr) (q c' : Nat) (r t : List UInt8), v1 = .slice A q c' ∧ q ≤ c' ∧ q ≤ 1000000 ∧ Hid (q = r.length) ∧ Hid (BRl B w A r) ∧ Hid (lits l = t ++ lits r) ∧ Hid (t.length + (lits r).length ≤ 2000000) ∧ Hid (Owns wr B v0 (o ++ t)) ∧ Hid (Below B w wr)) (fun _ v1 _ => match v1 with | .slice _ q _ => q | _ => 0)
  case atStart => exact ⟨ad, n, c, l, [], rfl, hc, hlen, hn, hrow, hide rfl, hide (by have := hn.out; have := lits_len _ l (Nat.le_refl _); simp; omega), hide (by simpa using hown.out), hide (Below.refl _ _)⟩
  case round =>
    obtain ⟨A, q, c', r, t, rfl, hq, hq6, HQ, HR, HL, HT, HO, HB⟩ := hrel
    have hbs := HB.out.size
    by_cases h0 : 0 < q
    · have hqr := HQ.out
      have hne : r ≠ [] := by intro e; subst e; simp at hqr; omega
      obtain ⟨b, off, rfl, hbB, hcell⟩ := HR.out hne
      have hcw : ∀ i, i < r.length → wr.cell? ⟨b, off + i, none⟩ = some (.int .u8 ((gb r i).toNat : Int)) := fun i hi => (HB.out.cell (p := ⟨b, off + i, none⟩) hbB).trans (hcell i hi)
      replace hcw := hide hcw
      replace hne := hide hne
      have HLN := hide (show (o ++ t).length ≤ 12000000 by have := HT.out; have := ho.out; simp; omega)
      clear hcell hqr
      obtain ⟨O, hO⟩ : ∃ O, o ++ t = O := ⟨_, rfl⟩
      rw [hO] at HO HLN
      replace hO := hide hO
      by_cases h127 : 127 < q
      · have g1 : (127 : Int) ≤ (c' : Int) := by omega
        have g2 : (127 : Int) ≤ (q : Int) := by omega
        have g3 : (127 : Int) < (q : Int) := by omega
        have wv : IntKind.u8.wrap 127 = 127 := by rw [IntKind.wrap_u8]; rfl
        go_wp2_with fail
        go_region_law (first
          | (refine step_append_lies _ rfl (.tmp 12) (.tmp 15) _ rfl B 5 i0 (.int .u8 0) 1 1 Try.underlying22 hi hz0 hz1 hz2 rfl (by omega) _ _ _ rfl (HO.out.alloc _) ⟨wr.heap.size, 0, none⟩ 1 1 [.int .u8 127] rfl rfl (news_one _ _ _) (by intro u hu; simp at hu; subst hu; rfl) (by omega) (by have := HLN.out; unfold maxLen; omega) (by have := HLN.out; omega) (by simp; omega) _ rfl ?_; intro g cap w1 hown1 hgrow1 hat1 hlt1; replace hat1 := hide hat1)
          | (refine step_append_lies _ rfl (.tmp 16) (.tmp 19) _ rfl B 5 i0 (.int .u8 0) 1 1 Try.underlying22 hi hz0 hz1 hz2 rfl (by omega) _ _ _ rfl hown1 ⟨b, off, none⟩ 127 c' ((r.take 127).map bv) rfl (by have := HQ.out; simp; omega) (news_row (fun i hi => (hgrow1.cell_far ⟨b, off + i, none⟩ (by simp; omega) (fun e => by have := (HO.out.lt b e.symm).1; omega)).trans ((World.cell?_alloc_past _ _ _ (by omega)).trans (hcw.out i hi)))) (bv_one _) (by omega) (by have := HLN.out; unfold maxLen; omega) (by have := HLN.out; omega) (by have := hgrow1.size; simp at this; omega) _ rfl ?_; intro g' cap' w2 hown2 hgrow2 hat2 hlt2; replace hat2 := hide hat2)
          | fail)
        all_goals
          have hm := hide (show 127 ≤ r.length by have := HQ.out; omega)
          have hm2 := hide (show 127 = min r.length 127 by have := HQ.out; omega)
          have HN := hide (lits_next hne.out hm2.out hO.out HL.out)
          have HN2 := hide (lits_left hm.out hne.out hm2.out HT.out)
          have HO2 := hide (owns_two (m := 127) hm.out (by simp) (by omega) hown2)
          have HB2 := hide (below_two hB HB.out HO.out hgrow1 hown1 hgrow2)
          clear hown1 hgrow1 hat1 hlt1 hown2 hgrow2 hat2 hlt2
          go_wp2
          go_roundw
          case rel =>
            have hrc := HR.out.cut hm.out (show r.length ≤ c' by have := HQ.out; omega)
            refine ⟨_, _, _, r.drop 127, t ++ (UInt8.ofNat 127 :: r.take 127), rfl, by omega, by omega, hide (by have := HQ.out; rw [List.length_drop]; omega), hide ?_, hide HN.out.1, hide HN2.out, hide ?_, hide HB2.out⟩
            · first | (rw [if_neg (by omega)] at hrc; exact hrc) | exact hrc
            · rw [← HN.out.2]
              exact HO2.out
          case measure => simp; omega
      · have g1 : (q : Int) ≤ (c' : Int) := by omega
        have g2 : (q : Int) ≤ 127 := by omega
        have wv : IntKind.u8.wrap (q : Int) = (q : Int) := by rw [IntKind.wrap_u8]; omega
        go_wp2_with fail
        go_region_law (first
          | (refine step_append_lies _ rfl (.tmp 12) (.tmp 15) _ rfl B 5 i0 (.int .u8 0) 1 1 Try.underlying22 hi hz0 hz1 hz2 rfl (by omega) _ _ _ rfl (HO.out.alloc _) ⟨wr.heap.size, 0, none⟩ 1 1 [.int .u8 (q : Int)] rfl rfl (news_one _ _ _) (by intro u hu; simp at hu; subst hu; rfl) (by omega) (by have := HLN.out; unfold maxLen; omega) (by have := HLN.out; omega) (by simp; omega) _ rfl ?_; intro g cap w1 hown1 hgrow1 hat1 hlt1; replace hat1 := hide hat1)
          | (refine step_append_lies _ rfl (.tmp 16) (.tmp 19) _ rfl B 5 i0 (.int .u8 0) 1 1 Try.underlying22 hi hz0 hz1 hz2 rfl (by omega) _ _ _ rfl hown1 ⟨b, off, none⟩ q c' ((r.take q).map bv) rfl (by have := HQ.out; simp; omega) (news_row (fun i hi => (hgrow1.cell_far ⟨b, off + i, none⟩ (by simp; omega) (fun e => by have := (HO.out.lt b e.symm).1; omega)).trans ((World.cell?_alloc_past _ _ _ (by omega)).trans (hcw.out i hi)))) (bv_one _) (by omega) (by have := HLN.out; unfold maxLen; omega) (by have := HLN.out; omega) (by have := hgrow1.size; simp at this; omega) _ rfl ?_; intro g' cap' w2 hown2 hgrow2 hat2 hlt2; replace hat2 := hide hat2)
          | fail)
        all_goals
          have hm := hide (show q ≤ r.length by have := HQ.out; omega)
          have hm2 := hide (show q = min r.length 127 by have := HQ.out; omega)
          have HN := hide (lits_next hne.out hm2.out hO.out HL.out)
          have HN2 := hide (lits_left hm.out hne.out hm2.out HT.out)
          have HO2 := hide (owns_two (m := q) hm.out (by simp) (by omega) hown2)
          have HB2 := hide (below_two hB HB.out HO.out hgrow1 hown1 hgrow2)
          clear hown1 hgrow1 hat1 hlt1 hown2 hgrow2 hat2 hlt2
          go_wp2
          go_roundw
          case rel =>
            have hrc := HR.out.cut hm.out (show r.length ≤ c' by have := HQ.out; omega)
            refine ⟨_, _, _, r.drop q, t ++ (UInt8.ofNat q :: r.take q), rfl, by omega, by omega, hide (by have := HQ.out; rw [List.length_drop]; omega), hide ?_, hide HN.out.1, hide HN2.out, hide ?_, hide HB2.out⟩
            · have := HQ.out; exact fun hne2 => absurd (List.drop_eq_nil_of_le (by omega)) hne2
            · rw [← HN.out.2]
              exact HO2.out
          case measure => simp; omega
    · have hqr := HQ.out
      obtain rfl : r = [] := List.eq_nil_of_length_eq_zero (by omega)
      obtain rfl : q = 0 := by omega
      clear hqr
      go_wp2
      go_ret
      have e := HL.out
      rw [lits_nil, List.append_nil] at e
      exact ⟨_, rfl, hide (by rw [e]; exact HO.out), HB.out⟩
set_option maxRecDepth 20000 in
set_option maxHeartbeats 4000000 in
theorem rlits_c {l o : List UInt8} (B : Nat) (ad : Option Addr) (n c : Nat) (v : Value) (hn : Hid (n = l.length)) (hc : n ≤ c) (hlen : n ≤ 1000000) (ho : Hid (o.length ≤ 10000000)) (w : World) (hB : B ≤ w.heap.size) (hrow : Hid (BRl B w ad l)) (hown : Hid (Owns w B v o)) :
    Calls Try.prog 25 #[v, .slice ad n c] w fun e w' => ∃ v', e = .returned v' ∧ Hid (Owns w' B v' (o ++ lits l)) ∧ Below B w w' := by
  obtain ⟨i0, hi, hz0, hz1, hz2⟩ := info_parts infoB
  go_enter Try.func25, Try.ntmps25
  go_wp2
  go_loopw [0, 1] (fun v0 v1 wr => ∃ (A : Option Addr) (q c' : Nat) (r t : List UInt8), v1 = .slice A q c' ∧ q ≤ c' ∧ q ≤ 1000000 ∧ Hid (q = r.length) ∧ Hid (BRl B w A r) ∧ Hid (lits l = t ++ lits r) ∧ Hid (t.length + (lits r).length ≤ 2000000) ∧ Hid (Owns wr B v0 (o ++ t)) ∧ Hid (Below B w wr)) (fun _ v1 _ => match v1 with | .slice _ q _ => q | _ => 0)
  case atStart => exact ⟨ad, n, c, l, [], rfl, hc, hlen, hn, hrow, hide rfl, hide (by have := hn.out; have := lits_len _ l (Nat.le_refl _); simp; omega), hide (by simpa using hown.out), hide (Below.refl _ _)⟩
  case round =>
    obtain ⟨A, q, c', r, t, rfl, hq, hq6, HQ, HR, HL, HT, HO, HB⟩ := hrel
    have hbs := HB.out.size
    by_cases h0 : 0 < q
    · have hqr := HQ.out
      have hne : r ≠ [] := by intro e; subst e; simp at hqr; omega
      obtain ⟨b, off, rfl, hbB, hcell⟩ := HR.out hne
      have hcw : ∀ i, i < r.length → wr.cell? ⟨b, off + i, none⟩ = some (.int .u8 ((gb r i).toNat : Int)) := fun i hi => (HB.out.cell (p := ⟨b, off + i, none⟩) hbB).trans (hcell i hi)
      replace hcw := hide hcw
      replace hne := hide hne
      have HLN := hide (show (o ++ t).length ≤ 12000000 by have := HT.out; have := ho.out; simp; omega)
      clear hcell hqr
      obtain ⟨O, hO⟩ : ∃ O, o ++ t = O := ⟨_, rfl⟩
      rw [hO] at HO HLN
      replace hO := hide hO
      by_cases h127 : 127 < q
      · have g1 : (127 : Int) ≤ (c' : Int) := by omega
        have g2 : (127 : Int) ≤ (q : Int) := by omega
        have g3 : (127 : Int) < (q : Int) := by omega
        have wv : IntKind.u8.wrap 127 = 127 := by rw [IntKind.wrap_u8]; rfl
        go_wp2_with fail
        go_region_law (first
          | (refine step_append_lies _ rfl (.tmp 13) (.tmp 16) _ rfl B 5 i0 (.int .u8 0) 1 1 Try.underlying22 hi hz0 hz1 hz2 rfl (by omega) _ _ _ rfl (HO.out.alloc _) ⟨wr.heap.size, 0, none⟩ 1 1 [.int .u8 127] rfl rfl (news_one _ _ _) (by intro u hu; simp at hu; subst hu; rfl) (by omega) (by have := HLN.out; unfold maxLen; omega) (by have := HLN.out; omega) (by simp; omega) _ rfl ?_; intro g cap w1 hown1 hgrow1 hat1 hlt1; replace hat1 := hide hat1)
          | (refine step_append_lies _ rfl (.tmp 17) (.tmp 20) _ rfl B 5 i0 (.int .u8 0) 1 1 Try.underlying22 hi hz0 hz1 hz2 rfl (by omega) _ _ _ rfl hown1 ⟨b, off, none⟩ 127 c' ((r.take 127).map bv) rfl (by have := HQ.out; simp; omega) (news_row (fun i hi => (hgrow1.cell_far ⟨b, off + i, none⟩ (by simp; omega) (fun e => by have := (HO.out.lt b e.symm).1; omega)).trans ((World.cell?_alloc_past _ _ _ (by omega)).trans (hcw.out i hi)))) (bv_one _) (by omega) (by have := HLN.out; unfold maxLen; omega) (by have := HLN.out; omega) (by have := hgrow1.size; simp at this; omega) _ rfl ?_; intro g' cap' w2 hown2 hgrow2 hat2 hlt2; replace hat2 := hide hat2)
          | fail)
        all_goals
          have hm := hide (show 127 ≤ r.length by have := HQ.out; omega)
          have hm2 := hide (show 127 = min r.length 127 by have := HQ.out; omega)
          have HN := hide (lits_next hne.out hm2.out hO.out HL.out)
          have HN2 := hide (lits_left hm.out hne.out hm2.out HT.out)
          have HO2 := hide (owns_two (m := 127) hm.out (by simp) (by omega) hown2)
          have HB2 := hide (below_two hB HB.out HO.out hgrow1 hown1 hgrow2)
          clear hown1 hgrow1 hat1 hlt1 hown2 hgrow2 hat2 hlt2
          go_wp2
          go_roundw
          case rel =>
            have hrc := HR.out.cut hm.out (show r.length ≤ c' by have := HQ.out; omega)
            refine ⟨_, _, _, r.drop 127, t ++ (UInt8.ofNat 127 :: r.take 127), rfl, by omega, by omega, hide (by have := HQ.out; rw [List.length_drop]; omega), hide ?_, hide HN.out.1, hide HN2.out, hide ?_, hide HB2.out⟩
            · first | (rw [if_neg (by omega)] at hrc; exact hrc) | exact hrc
            · rw [← HN.out.2]
              exact HO2.out
          case measure => simp; omega
      · have g1 : (q : Int) ≤ (c' : Int) := by omega
        have g2 : (q : Int) ≤ 127 := by omega
        have wv : IntKind.u8.wrap (q : Int) = (q : Int) := by rw [IntKind.wrap_u8]; omega
        go_wp2_with fail
        go_region_law (first
          | (refine step_append_lies _ rfl (.tmp 13) (.tmp 16) _ rfl B 5 i0 (.int .u8 0) 1 1 Try.underlying22 hi hz0 hz1 hz2 rfl (by omega) _ _ _ rfl (HO.out.alloc _) ⟨wr.heap.size, 0, none⟩ 1 1 [.int .u8 (q : Int)] rfl rfl (news_one _ _ _) (by intro u hu; simp at hu; subst hu; rfl) (by omega) (by have := HLN.out; unfold maxLen; omega) (by have := HLN.out; omega) (by simp; omega) _ rfl ?_; intro g cap w1 hown1 hgrow1 hat1 hlt1; replace hat1 := hide hat1)
          | (refine step_append_lies _ rfl (.tmp 17) (.tmp 20) _ rfl B 5 i0 (.int .u8 0) 1 1 Try.underlying22 hi hz0 hz1 hz2 rfl (by omega) _ _ _ rfl hown1 ⟨b, off, none⟩ q c' ((r.take q).map bv) rfl (by have := HQ.out; simp; omega) (news_row (fun i hi => (hgrow1.cell_far ⟨b, off + i, none⟩ (by simp; omega) (fun e => by have := (HO.out.lt b e.symm).1; omega)).trans ((World.cell?_alloc_past _ _ _ (by omega)).trans (hcw.out i hi)))) (bv_one _) (by omega) (by have := HLN.out; unfold maxLen; omega) (by have := HLN.out; omega) (by have := hgrow1.size; simp at this; omega) _ rfl ?_; intro g' cap' w2 hown2 hgrow2 hat2 hlt2; replace hat2 := hide hat2)
          | fail)
        all_goals
          have hm := hide (show q ≤ r.length by have := HQ.out; omega)
          have hm2 := hide (show q = min r.length 127 by have := HQ.out; omega)
          have HN := hide (lits_next hne.out hm2.out hO.out HL.out)
          have HN2 := hide (lits_left hm.out hne.out hm2.out HT.out)
          have HO2 := hide (owns_two (m := q) hm.out (by simp) (by omega) hown2)
          have HB2 := hide (below_two hB HB.out HO.out hgrow1 hown1 hgrow2)
          clear hown1 hgrow1 hat1 hlt1 hown2 hgrow2 hat2 hlt2
          go_wp2
          go_roundw
          case rel =>
            have hrc := HR.out.cut hm.out (show r.length ≤ c' by have := HQ.out; omega)
            refine ⟨_, _, _, r.drop q, t ++ (UInt8.ofNat q :: r.take q), rfl, by omega, by omega, hide (by have := HQ.out; rw [List.length_drop]; omega), hide ?_, hide HN.out.1, hide HN2.out, hide ?_, hide HB2.out⟩
            · have := HQ.out; exact fun hne2 => absurd (List.drop_eq_nil_of_le (by omega)) hne2
            · rw [← HN.out.2]
              exact HO2.out
          case measure => simp; omega
    · have hqr := HQ.out
      obtain rfl : r = [] := List.eq_nil_of_length_eq_zero (by omega)
      obtain rfl : q = 0 := by omega
      clear hqr
      go_wp2
      go_ret
      have e := HL.out
      rw [lits_nil, List.append_nil] at e
      exact ⟨_, rfl, hide (by rw [e]; exact HO.out), HB.out⟩
end Go.Proofs.Ytfkfheapikgejaa
