/- Chapter 9: concatenation, walked. -/
import Derived.WalkKit
import Derived.KernelRfl
import Derived.RowKit3
import Derived.Deep.LoopGhost
import Derived.Deep.QuietTactic
import Derived.BigQuiet
import Derived.WideLaws
import Derived.Laws.Rows
import Derived.Below
import Derived.Deep.Draws
import Derived.Outline
import Derived.LoopN
import Derived.Handy
import Derived.Laws.Externs
import Derived.Laws.BitsAllLaws
import Derived.Laws.BitsLemmas
import Derived.Deep.DeepCutAuto
import Derived.Deep.CutBlock
import Derived.Deep.RegionHeld3
import Derived.Test.YtkdbgkjckoklcaaZ10
import Derived.Maps.AppendAt
import Derived.OwnWalk
namespace Go.Proofs.Ytkdbgkjckoklcaa
open Go.RowKit
set_option linter.unusedVariables false
set_option linter.unusedSimpArgs false
theorem run_append_void {w : World} {B : Nat} {v : Value} {O : List UInt8} (ty : TypeId) (hown : Owns w B v O) (c : Nat) : (Builtin.append_ #[22, 22] ty #[v, .slice none 0 c]).run Try.prog w = .ok v w := by
  obtain ⟨i0, hi, hz0, hz1, hz2⟩ := info_parts infoB
  rcases hown.2 with ⟨rfl, _⟩ | ⟨g, cap, cur, rfl, _, _, hnc, _⟩
  · simp [Builtin.append_, run_underlying Try.underlying22, sizeOf, typeInfo, hi, Builtin.lenOf, Builtin.firstCells]
  · simp [Builtin.append_, run_underlying Try.underlying22, sizeOf, typeInfo, hi, Builtin.lenOf, Builtin.firstCells, hnc, storeCells]
theorem run_append_bytes {w : World} {B : Nat} {v : Value} {O l : List UInt8} (ty : TypeId) (hown : Owns w B v O) (A : Option Addr) (m c : Nat) (hm : m = l.length) (hr : BRow w A l) (hb : O.length + m ≤ 1000000) (hB : B ≤ w.heap.size) :
    ∃ v' w', (Builtin.append_ #[22, 22] ty #[v, .slice A m c]).run Try.prog w = .ok v' w' ∧ Owns w' B v' (O ++ l) ∧ w.grownBy w' v.ownBlock := by
  obtain ⟨i0, hi, hz0, hz1, hz2⟩ := info_parts infoB
  rcases A with _ | ad
  · have hl : l = [] := by
      rcases Classical.em (l = []) with h | h
      · exact h
      · obtain ⟨b, o, e, _⟩ := hr h
        cases e
    subst hl
    subst hm
    exact ⟨v, w, run_append_void ty hown c, by simpa using hown, World.grownBy.refl w _⟩
  · have hnews : ∀ j u, (l.map bv)[j]? = some u → w.cell? (ad.add j) = some u := by
      rcases Classical.em (l = []) with h | h
      · subst h
        intro j u hu
        simp at hu
      · obtain ⟨b, o, e, hc⟩ := hr h
        injection e with e
        subst e
        have := news_row (m := l.length) hc
        rw [List.take_length] at this
        exact this
    obtain ⟨v', w', hrun, h2, h3, _, _⟩ := run_append_own_at (P := Try.prog) w B 22 ty 5 i0 (.int .u8 0) 1 1 Try.underlying22 hi hz0 hz1 hz2 rfl (by omega) v O.length (O.map bv) hown ad m c (l.map bv) (by rw [List.length_map]; omega) hnews (bv_one _) (by unfold maxLen; omega) (by omega) hB
    exact ⟨v', w', hrun, owns_some hm rfl h2, h3⟩
theorem wpList_append_bytes {w : World} {ops : Array Oper} {rest : List Oper} {o : Oper} {a : Act} {Q : Exit → Act → World → Prop} (hgd : o.guard = none) (s x : Operand)
    (ho : o.op = .call { callee := .builtin .append, args := #[s, x], argTypes := #[22, 22] }) {B : Nat} {v : Value} {O l : List UInt8} (hs : a.eval s = v) (hown : Owns w B v O) (A : Option Addr) (m c : Nat) (hx : a.eval x = .slice A m c) (hm : m = l.length) (hr : BRow w A l) (hb : O.length + m ≤ 1000000) (hB : B ≤ w.heap.size)
    (h : ∀ v' w', Owns w' B v' (O ++ l) → w.grownBy w' v.ownBlock → wpList Try.prog ops Q rest (a.put o.dst v') w') : wpList Try.prog ops Q (o :: rest) a w := by
  refine wpList_plain hgd fun K hK => ?_
  obtain ⟨v', w', hrun, h2, h3⟩ := run_append_bytes o.type hown A m c hm hr hb hB
  unfold Oper.wp execOp
  simp only [ho, resolve, invoke, builtin, Sem.run_bind, Sem.run_pure, Result.andThen_ok, List.map_toArray, List.map_cons, List.map_nil, hs, hx, hrun]
  exact hK _ _ (h v' w' h2 h3)
theorem owns_void (w : World) : Owns (w.alloc (.cells #[] 5)) w.heap.size (.slice (some ⟨w.heap.size, 0, none⟩) 0 0) [] :=
  World.ownsRow_made w #[] 0 (Nat.le_refl _) (Nat.zero_le _) rfl
theorem below_app {w wr w1 : World} {B B' : Nat} {O : List UInt8} {v : Value} (hB : B ≤ B') (hw : B ≤ w.heap.size) (hb : Below B w wr) (ho : Owns wr B' v O) (hg1 : wr.grownBy w1 v.ownBlock) : Below B w w1 := by
  have hs := hb.size
  exact hb.grown hg1 (by omega) (fun k hk => by have := (ho.lt k hk).1; omega)
set_option maxRecDepth 20000 in
set_option maxHeartbeats 8000000 in
theorem LZConcatenation_walk (ad : Option Addr) (n c : Nat) (l : List UInt8) (ad' : Option Addr) (n' c' : Nat) (l' : List UInt8) (hn : n = l.length) (hc : n ≤ c) (hm : c ≤ maxLen) (hn' : n' = l'.length) (hc' : n' ≤ c') (hm' : c' ≤ maxLen) (w : World) (hrow : BRow w ad l) (hrow' : BRow w ad' l') :
    Calls Try.prog 10 #[.slice ad n c, .slice ad' n' c'] w fun e w' => e = .returned (.bool true) ∧ Below w.heap.size w w' := by
  unfold maxLen at hm hm'
  replace hn := hide hn
  replace hrow := hide hrow
  replace hn' := hide hn'
  replace hrow' := hide hrow'
  by_cases hb : 600 < n
  · have t : (600 : Int) < (n : Int) := by omega
    go_enter Try.func10, Try.ntmps10
    go_wp2_with fail
    refine (awake9_c _).mono ?_
    rintro e w1 ⟨rfl, hb1⟩
    go_wp2
    go_ret
    exact ⟨rfl, (by (repeat' (first | (with_reducible exact Below.refl _ _) | (with_reducible assumption) | (with_reducible refine Below.alloc ?_ ?_ _) | (with_reducible refine Below.drew ?_) | (with_reducible refine below_drewN ?_ _) | (with_reducible refine Below.setCell ?_ ?_ _) | (with_reducible refine below_step (by with_reducible assumption) ?_ ?_) | (first | (with_reducible exact Nat.le_refl _) | (with_reducible assumption) | omega | (simp only [World.size_alloc, World.size_setCell, World.size_drew, size_drewN]; omega) | (simp; omega) | (simp; done)))))⟩
  by_cases hb' : 600 < n'
  · have t : (n : Int) ≤ 600 := by omega
    have t' : (600 : Int) < (n' : Int) := by omega
    go_enter Try.func10, Try.ntmps10
    go_wp2_with fail
    refine (awake9_c _).mono ?_
    rintro e w1 ⟨rfl, hb1⟩
    go_wp2
    go_ret
    exact ⟨rfl, (by (repeat' (first | (with_reducible exact Below.refl _ _) | (with_reducible assumption) | (with_reducible refine Below.alloc ?_ ?_ _) | (with_reducible refine Below.drew ?_) | (with_reducible refine below_drewN ?_ _) | (with_reducible refine Below.setCell ?_ ?_ _) | (with_reducible refine below_step (by with_reducible assumption) ?_ ?_) | (first | (with_reducible exact Nat.le_refl _) | (with_reducible assumption) | omega | (simp only [World.size_alloc, World.size_setCell, World.size_drew, size_drewN]; omega) | (simp; omega) | (simp; done)))))⟩
  · have t : (n : Int) ≤ 600 := by omega
    have t' : (n' : Int) ≤ 600 := by omega
    have hN : n ≤ 600 := by omega
    have hN' : n' ≤ 600 := by omega
    clear hb hb'
    obtain ⟨B, hB⟩ : ∃ B, w.heap.size = B := ⟨_, rfl⟩
    have HV := owns_void w
    rw [hB] at HV
    replace HV := hide HV
    go_enter Try.func10, Try.ntmps10
    go_wp2_with fail
    obtain ⟨w0, hw0⟩ : ∃ w0, w.alloc (.cells #[] 5) = w0 := ⟨_, rfl⟩
    have hb0 : Below B w w0 := by rw [← hw0]; exact (Below.refl _ _).alloc (by omega) _
    have hs0 := hb0.size
    rw [hw0] at HV ⊢
    clear hw0
    refine (comp_c ad n c hn hc (by omega) _ (hide (hrow.out.below hb0 (by omega)))).mono ?_
    rintro e w1 ⟨v1, rfl, HO1, hb1⟩
    obtain ⟨A1, c1, rfl, hc1, hr1⟩ := HO1.out.shape
    obtain ⟨p, hp⟩ : ∃ p, comp l 0 0 = p := ⟨_, rfl⟩
    have hpl : p.length ≤ 2000 := by have h1 := comp_bound l; rw [hp] at h1; have := hn.out; omega
    have hbB1 : Below B w w1 := hb0.trans (hb1.mono (by omega))
    have hs1 := hb1.size
    have HV1 := hide (HV.out.keep hb1)
    rw [hp] at hc1 hr1 ⊢
    replace hr1 := hide hr1
    clear HO1 HV hb1 hb0
    go_wp2_with (at_builtin; refine wpList_append_bytes rfl (.tmp 17) (.tmp 19) rfl rfl HV1.out A1 p.length c1 rfl rfl hr1.out (by simp; omega) (by omega) ?_; intro v2 w2 hO2 hg2; replace hO2 := hide hO2)
    have hbB2 := below_app (Nat.le_refl B) (by omega) hbB1 HV1.out hg2
    have hs2 := hg2.size
    refine (comp_c ad' n' c' hn' hc' (by omega) _ (hide (hrow'.out.below hbB2 (by omega)))).mono ?_
    rintro e w3 ⟨v3, rfl, HO3, hb3⟩
    obtain ⟨A3, c3, rfl, hc3, hr3⟩ := HO3.out.shape
    obtain ⟨p', hp'⟩ : ∃ p, comp l' 0 0 = p := ⟨_, rfl⟩
    have hpl' : p'.length ≤ 2000 := by have h1 := comp_bound l'; rw [hp'] at h1; have := hn'.out; omega
    have hbB3 : Below B w w3 := hbB2.trans (hb3.mono (by omega))
    have hs3 := hb3.size
    have HV3 := hO2.out.keep hb3
    rw [List.nil_append] at HV3
    replace HV3 := hide HV3
    rw [hp'] at hc3 hr3 ⊢
    replace hr3 := hide hr3
    clear HO3 HV1 hO2 hb3 hg2 hbB1 hbB2 hr1
    go_wp2_with (at_builtin; refine wpList_append_bytes rfl (.tmp 20) (.tmp 22) rfl rfl HV3.out A3 p'.length c3 rfl rfl hr3.out (by omega) (by omega) ?_; intro v4 w4 hO4 hg4; obtain ⟨A4, c4, hv4, hc4, hr4⟩ := Owns.shape hO4; subst hv4; replace hO4 := hide hO4; replace hr4 := hide hr4)
    have hbB4 := below_app (Nat.le_refl B) (by omega) hbB3 HV3.out hg4
    have hs4 := hg4.size
    obtain ⟨q, hq⟩ : ∃ q, p.length + p'.length = q := ⟨_, rfl⟩
    have hql : q ≤ 4000 := by omega
    have hqq : Hid (q = (p ++ p').length) := hide (by rw [List.length_append]; exact hq.symm)
    have hc4' : q ≤ c4 := by rw [hqq.out]; exact hc4
    rw [hq]
    clear hc4 hq hO4 hg4 HV3 hr3 hc3 hc1 hpl hpl' hbB3
    refine (dec_c A4 q c4 hqq hc4' (by omega) _ hr4).mono ?_
    rintro e w5 ⟨v5, rfl, HO5, hb5⟩
    obtain ⟨e1, e2⟩ := trip_two l l' (by rw [← hn.out, ← hn'.out]; omega)
    rw [← hp, ← hp'] at HO5 ⊢
    rw [e1] at HO5
    rw [e2]
    clear e1 e2 hp hp' hqq hr4 hc4'
    obtain ⟨A5, c5, rfl, hc5, hr5⟩ := HO5.out.shape
    have hm5 : (l ++ l').length = n + n' := by rw [List.length_append, ← hn.out, ← hn'.out]
    rw [hm5] at hc5 ⊢
    have hm5' := hide hm5.symm
    replace hr5 := hide hr5
    have hbB5 : Below B w w5 := hbB4.trans (hb5.mono (by omega))
    have hs5 := hb5.size
    clear HO5 hm5 hb5 hbB4
    have HV5 := hide (owns_void w5)
    go_wp2_with (first
      | (at_builtin; refine wpList_append_bytes rfl (.tmp 28) (.tmp 29) rfl rfl HV5.out ad n c rfl hn.out (hrow.out.below (hbB5.alloc (by omega) _) (by omega)) (by simp; omega) (by simp) ?_; intro v6 w6 hO6 hg6; rw [List.nil_append] at hO6; replace hO6 := hide hO6; have hs6 := hg6.size; have hbB6 := below_app (B' := w5.heap.size) (by omega) (by omega) (hbB5.alloc (by omega) _) HV5.out hg6; have hs6' := hbB6.size)
      | (at_builtin; refine wpList_append_bytes rfl (.tmp 30) (.tmp 31) rfl rfl hO6.out ad' n' c' rfl hn'.out (hrow'.out.below hbB6 (by omega)) (by have := hn.out; omega) (by simp at hs6; omega) ?_; intro v7 w7 hO7 hg7; obtain ⟨A7, c7, hv7, hc7, hr7⟩ := Owns.shape hO7; subst hv7; replace hO7 := hide hO7; replace hr7 := hide hr7; replace hc7 := hide hc7; replace hg7 := hide hg7))
    have hbB7 := below_app (B' := w5.heap.size) (by omega) (by omega) hbB6 hO6.out hg7.out
    have hs7 := hbB7.size
    have hb7 : Below w5.heap.size w5 w7 := below_app (Nat.le_refl _) (Nat.le_refl _) (below_app (B' := w5.heap.size) (Nat.le_refl _) (Nat.le_refl _) ((Below.refl _ _).alloc (Nat.le_refl _) _) HV5.out hg6) hO6.out hg7.out
    have e7 : l.length + l'.length = n + n' := by rw [← hn.out, ← hn'.out]
    rw [e7]
    clear e7 hc7 hg7 hO7 hO6 hbB6 HV5 hg6
    refine (eqb_c A5 (n + n') c5 A7 (n + n') c7 hm5' hm5' _ (hide (hr5.out.to hb7)) hr7).mono ?_
    rintro e w8 ⟨rfl, rfl⟩
    go_wp2_with fail
    refine (awake9_c _).mono ?_
    rintro e w9 ⟨rfl, hb9⟩
    go_wp2
    go_ret
    exact ⟨rfl, hbB7.trans (hb9.mono (by omega)) |>.mono (by omega)⟩
end Go.Proofs.Ytkdbgkjckoklcaa
