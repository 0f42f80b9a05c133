/- lz, walked: Decompress and its reference. -/
import Derived.WalkKit
import Derived.KernelRfl
import Derived.RowKit3
import Derived.Deep.LoopGhost
import Derived.Deep.QuietTactic
import Derived.BigQuiet
import Derived.WideLaws
import Derived.Laws.Rows
import Derived.Below
import Derived.Deep.Draws
import Derived.Outline
import Derived.LoopN
import Derived.Handy
import Derived.Laws.Externs
import Derived.Laws.BitsAllLaws
import Derived.Laws.BitsLemmas
import Derived.Deep.DeepCutAuto
import Derived.Deep.CutBlock
import Derived.Deep.RegionHeld3
import Derived.Test.YtkdbgkjckoklcaaZ6
import Derived.Maps.AppendAt
import Derived.Deep.AppendLies
import Derived.Deep.QuietTactic
import Derived.BigQuiet
import Derived.OwnWalk
import Derived.IntWalk
namespace Go.Proofs.Ytkdbgkjckoklcaa
open Go.RowKit
set_option linter.unusedVariables false
set_option linter.unusedSimpArgs false
theorem drop_cons {l : List UInt8} {a : Nat} (h : a < l.length) : l.drop a = gb l a :: l.drop (a + 1) := by
  rw [List.drop_eq_getElem_cons h, gb, List.getD_eq_getElem?_getD, List.getElem?_eq_getElem h]
  rfl
theorem step_zero {l o : List UInt8} {a : Nat} (h : a < l.length) (hd : dec l [] = dec (l.drop a) o) (h0 : (gb l a).toNat = 0) : dec l [] = .error 3 := by
  rw [hd, drop_cons h, dec_zero h0]
theorem step_lit {l o : List UInt8} {a T : Nat} (h : a < l.length) (hd : dec l [] = dec (l.drop a) o) (hT : (gb l a).toNat = T) (h0 : T ≠ 0) (h1 : T < 128) :
    (l.length - (a + 1) < T → dec l [] = .error 3) ∧ (T ≤ l.length - (a + 1) → 65536 < o.length + T → dec l [] = .error 6) ∧ (T ≤ l.length - (a + 1) → o.length + T ≤ 65536 → dec l [] = dec (l.drop (a + 1 + T)) (o ++ (l.drop (a + 1)).take T)) := by
  subst hT
  have e : dec l [] = _ := hd.trans ((congrArg (fun x => dec x o) (drop_cons h)).trans (dec_lit (r := l.drop (a + 1)) (out := o) h0 h1))
  rw [List.length_drop, List.drop_drop] at e
  refine ⟨fun h2 => ?_, fun h2 h3 => ?_, fun h2 h3 => ?_⟩
  · rw [e, if_pos (by omega)]
  · rw [e, if_neg (by omega), if_pos h3]
  · rw [e, if_neg (by omega), if_neg (by omega)]
theorem step_short {l o : List UInt8} {a T : Nat} (h : a < l.length) (hd : dec l [] = dec (l.drop a) o) (hT : (gb l a).toNat = T) (h1 : ¬ T < 128) (h2 : l.length - (a + 1) < 2) : dec l [] = .error 3 := by
  subst hT
  rw [hd, drop_cons h, dec_short h1 (by rw [List.length_drop]; omega)]
theorem step_match {l o : List UInt8} {a T x y : Nat} (hd : dec l [] = dec (l.drop a) o) (hT : (gb l a).toNat = T) (h1 : ¬ T < 128) (h2 : a + 2 < l.length) (hx : (gb l (a + 1)).toNat = x) (hy : (gb l (a + 2)).toNat = y) :
    (o.length < x * 256 + y + 1 → dec l [] = .error 3) ∧ (x * 256 + y + 1 ≤ o.length → 65536 < o.length + (T - 124) → dec l [] = .error 6) ∧ (x * 256 + y + 1 ≤ o.length → o.length + (T - 124) ≤ 65536 → dec l [] = dec (l.drop (a + 3)) (copyd (x * 256 + y + 1) (T - 124) o)) := by
  subst hT
  subst hx
  subst hy
  have e0 : l.drop a = gb l a :: gb l (a + 1) :: gb l (a + 2) :: l.drop (a + 3) := by
    rw [drop_cons (show a < l.length by omega), drop_cons (show a + 1 < l.length by omega), drop_cons (show a + 1 + 1 < l.length by omega)]
  have e : dec l [] = _ := hd.trans ((congrArg (fun x => dec x o) e0).trans (dec_match (out := o) h1))
  refine ⟨fun h2 => ?_, fun h2 h3 => ?_, fun h2 h3 => ?_⟩
  · rw [e, if_pos h2]
  · rw [e, if_neg (by omega), if_pos h3]
  · rw [e, if_neg (by omega), if_neg (by omega)]
theorem owns_more {w2 : World} {B m p : Nat} {v : Value} {O r : List UInt8} {xs : List Value} (hp : p = O.length) (hm : m = r.length) (hx : xs = r.map bv) (h : w2.ownsRow B 5 1 v (p + m) (O.map bv ++ xs)) : Owns w2 B v (O ++ r) := by
  subst hp
  exact owns_some hm hx h
theorem below_plain {w wr w1 : World} {B : Nat} {O : List UInt8} {v : Value} (hw : B ≤ w.heap.size) (hb : Below B w wr) (ho : Owns wr B v O) (hg1 : wr.grownBy w1 v.ownBlock) : Below B w w1 := by
  have hs := hb.size
  exact hb.grown hg1 (by omega) (fun k hk => (ho.lt k hk).1)
theorem own_cell {w : World} {B g cap p : Nat} {o : List UInt8} (h : Owns w B (.slice (some ⟨g, 0, none⟩) p cap) o) (hp : p = o.length) {i : Nat} (hi : i < p) : w.cell? ⟨g, i, none⟩ = some (.int .u8 ((gb o i).toNat : Int)) := by
  subst hp
  have h2 : w.ownsRow B 5 1 (.slice (some ⟨g, 0, none⟩) o.length cap) o.length (o.map bv) := h
  rw [h2.cellAt i (by omega), List.getElem?_map, List.getElem?_eq_getElem hi, gb, List.getD_eq_getElem?_getD, List.getElem?_eq_getElem hi]
  rfl
theorem copyd_one {d k m : Nat} {o : List UInt8} (h : k < m) : copyd d (m - k) o = copyd d (m - (k + 1)) (o ++ [gb o (o.length - d)]) := by
  rw [show m - k = (m - (k + 1)) + 1 by omega, copyd]
theorem _root_.Go.World.ownsRow.form_le {w : World} {B e s n m cap : Nat} {A : Option Addr} {xs : List Value} (h : w.ownsRow B e s (.slice A n cap) m xs) (hnm : 0 < m) : n ≤ cap := by
  rcases h.2 with ⟨_, h0⟩ | ⟨g, cap', cur, hv, hb, hg, hc, _⟩
  · omega
  · injection hv with h1 h2 h3
    omega
set_option maxRecDepth 20000 in
set_option maxHeartbeats 8000000 in
theorem dec_c {l : List UInt8} (ad : Option Addr) (n c : Nat) (hn : Hid (n = l.length)) (hc : n ≤ c) (hlen : n ≤ 400000) (w : World) (hrow : Hid (BRow w ad l)) :
    Calls Try.prog 16 #[.slice ad n c] w fun e w' => ∃ v, e = .returned (.tuple #[v, .int .i64 (decErr l : Nat)]) ∧ Hid (Owns w' w.heap.size v (decOut l)) ∧ Below w.heap.size w w' := by
  have HR := hide (hrow.out.low (Nat.le_refl _))
  obtain ⟨B, hB⟩ : ∃ B, w.heap.size = B := ⟨_, rfl⟩
  rw [hB] at HR
  have hBw : B ≤ w.heap.size := by omega
  rw [hB]
  clear hB
  obtain ⟨i0, hi, hz0, hz1, hz2⟩ := info_parts infoB
  go_enter Try.func16, Try.ntmps16
  go_wp2
  go_loopw [4, 5] (fun v4 v5 wr => ∃ (a p cp : Nat) (A : Option Addr) (o : List UInt8), v4 = .slice A p cp ∧ v5 = .int .i64 a ∧ a ≤ n ∧ p ≤ 65536 ∧ p ≤ cp ∧ Hid (p = o.length) ∧ Hid (dec l [] = dec (l.drop a) o) ∧ Hid (Owns wr B (.slice A p cp) o) ∧ Hid (Below B w wr)) (fun _ v5 _ => n - (intOf v5).toNat)
  case atStart => exact ⟨0, 0, 0, none, [], rfl, rfl, by omega, by omega, by omega, hide rfl, hide rfl, hide (World.ownsRow_nil _ _ _ _), hide (Below.refl _ _)⟩
  case round =>
    obtain ⟨a, p, cp, A, o, rfl, rfl, han, hp, hpc, HP, HD, HO, HB⟩ := hrel
    have hbs := HB.out.size
    by_cases hlt : a < n
    · have hla : a < l.length := by have := hn.out; omega
      obtain ⟨b, off, rfl, hbB, hcell⟩ := HR.out (by intro e; subst e; simp at hla)
      have hcw : ∀ i, i < l.length → wr.cell? ⟨b, off + i, none⟩ = some (.int .u8 ((gb l i).toNat : Int)) := fun i hi => (HB.out.cell (p := ⟨b, off + i, none⟩) hbB).trans (hcell i hi)
      replace hcw := hide hcw
      clear hcell
      obtain ⟨T, hT⟩ : ∃ T, (gb l a).toNat = T := ⟨_, rfl⟩
      have hT256 : T < 256 := by rw [← hT]; exact UInt8.toNat_lt _
      have hx := hcw.out a hla
      rw [hT] at hx
      replace hT := hide hT
      replace hla := hide hla
      by_cases h0 : T = 0
      · subst h0
        have HE := hide (step_zero hla.out HD.out hT.out)
        go_wp2
        go_returns
        have hb := HB.out
        obtain ⟨e1, e2⟩ := decOut_error HE.out
        exact ⟨_, by rw [e2]; rfl, hide (by rw [e1]; exact World.ownsRow_nil _ _ _ _), (by (repeat' (first | (with_reducible exact Below.refl _ _) | (with_reducible assumption) | (with_reducible refine Below.alloc ?_ ?_ _) | (with_reducible refine Below.drew ?_) | (with_reducible refine below_drewN ?_ _) | (with_reducible refine Below.setCell ?_ ?_ _) | (with_reducible refine below_step (by with_reducible assumption) ?_ ?_) | (first | (with_reducible exact Nat.le_refl _) | (with_reducible assumption) | omega | (simp only [World.size_alloc, World.size_setCell, World.size_drew, size_drewN]; omega) | (simp; omega) | (simp; done)))))⟩
      · have t0 : (0 : Int) < (T : Int) := by omega
        have t1 : ((T : Int) == 0) = false := beq_eq_false_iff_ne.2 (by omega)
        by_cases h128 : T < 128
        · have HL := hide (step_lit hla.out HD.out hT.out h0 h128)
          have t2 : (T : Int) < 128 := by omega
          by_cases hs : l.length - (a + 1) < T
          · have t3 : (n : Int) - ((a : Int) + 1) < (T : Int) := by have := hn.out; omega
            have HE := hide (HL.out.1 hs)
            go_wp2
            go_returns
            have hb := HB.out
            obtain ⟨e1, e2⟩ := decOut_error HE.out
            exact ⟨_, by rw [e2]; rfl, hide (by rw [e1]; exact World.ownsRow_nil _ _ _ _), (by (repeat' (first | (with_reducible exact Below.refl _ _) | (with_reducible assumption) | (with_reducible refine Below.alloc ?_ ?_ _) | (with_reducible refine Below.drew ?_) | (with_reducible refine below_drewN ?_ _) | (with_reducible refine Below.setCell ?_ ?_ _) | (with_reducible refine below_step (by with_reducible assumption) ?_ ?_) | (first | (with_reducible exact Nat.le_refl _) | (with_reducible assumption) | omega | (simp only [World.size_alloc, World.size_setCell, World.size_drew, size_drewN]; omega) | (simp; omega) | (simp; done)))))⟩
          · have hs2 : a + 1 + T ≤ n := by have := hn.out; have := hla.out; omega
            have t3 : (T : Int) ≤ (n : Int) - ((a : Int) + 1) := by omega
            by_cases hbig : 65536 < p + T
            · have t4 : (65536 : Int) < (p : Int) + (T : Int) := by omega
              have HE := hide (HL.out.2.1 (by omega) (by have := HP.out; omega))
              go_wp2
              go_returns
              have hb := HB.out
              obtain ⟨e1, e2⟩ := decOut_error HE.out
              exact ⟨_, by rw [e2]; rfl, hide (by rw [e1]; exact World.ownsRow_nil _ _ _ _), (by (repeat' (first | (with_reducible exact Below.refl _ _) | (with_reducible assumption) | (with_reducible refine Below.alloc ?_ ?_ _) | (with_reducible refine Below.drew ?_) | (with_reducible refine below_drewN ?_ _) | (with_reducible refine Below.setCell ?_ ?_ _) | (with_reducible refine below_step (by with_reducible assumption) ?_ ?_) | (first | (with_reducible exact Nat.le_refl _) | (with_reducible assumption) | omega | (simp only [World.size_alloc, World.size_setCell, World.size_drew, size_drewN]; omega) | (simp; omega) | (simp; done)))))⟩
            · have t4 : (p : Int) + (T : Int) ≤ 65536 := by omega
              have HE := hide (HL.out.2.2 (by omega) (by have := HP.out; omega))
              have q1 : (a : Int) + 1 + (T : Int) ≤ (c : Int) := by omega
              have q2 : (a : Int) + 1 ≤ (c : Int) := by omega
              have q3 : (a : Int) + 1 < (c : Int) := by omega
              have hre : ((l.drop (a + 1)).take T).length = T := by rw [List.length_take, List.length_drop]; have := hla.out; have := hn.out; omega
              have hnews : ∀ i, i < (l.drop (a + 1)).length → wr.cell? ⟨b, off + (a + 1) + i, none⟩ = some (.int .u8 ((gb (l.drop (a + 1)) i).toNat : Int)) := fun i hi => by
                rw [gb_drop, Nat.add_assoc]
                exact hcw.out _ (by rw [List.length_drop] at hi; omega)
              replace hnews := hide hnews
              replace hre := hide hre
              replace hs2 := hide hs2
              replace hbig := hide hbig
              clear hs HL
              go_wp2_with (at_builtin; refine wpList_append_lies _ rfl (.tmp 51) (.tmp 57) 22 rfl B 5 i0 (.int .u8 0) 1 1 Try.underlying22 hi hz0 hz1 hz2 rfl (by omega) _ _ _ rfl HO.out ⟨b, off + (a + 1), none⟩ _ _ (((l.drop (a + 1)).take T).map bv) rfl (by rw [List.length_map, hre.out]; omega) (news_row hnews.out) (bv_one _) (by omega) (by have := HP.out; unfold maxLen; omega) (by have := HP.out; omega) (by omega) _ rfl ?_; intro g cap w1 hown1 hgrow1 hat1 hlt1; replace hat1 := hide hat1)
              go_roundw
              case rel =>
                have hs2 := hs2.out
                have hpo := HP.out
                have em : a + 1 + T - (a + 1) = T := by omega
                rw [em] at hown1
                refine ⟨a + 1 + T, _, cap, some ⟨g, 0, none⟩, o ++ (l.drop (a + 1)).take T, rfl, by go_num, by omega, by omega, hown1.form_le (by omega), hide ?_, hide HE.out, hide ?_, hide (below_plain hBw HB.out HO.out hgrow1)⟩
                · rw [List.length_append, hre.out]
                · exact owns_some (by rw [hre.out]) rfl hown1
              case measure => have := hs2.out; simp [intOf]; omega
        · have t2 : (128 : Int) ≤ (T : Int) := by omega
          by_cases hs : l.length - (a + 1) < 2
          · have HE := hide (step_short hla.out HD.out hT.out h128 hs)
            have t3 : (n : Int) - ((a : Int) + 1) < 2 := by have := hn.out; omega
            go_wp2
            go_returns
            have hb := HB.out
            obtain ⟨e1, e2⟩ := decOut_error HE.out
            exact ⟨_, by rw [e2]; rfl, hide (by rw [e1]; exact World.ownsRow_nil _ _ _ _), (by (repeat' (first | (with_reducible exact Below.refl _ _) | (with_reducible assumption) | (with_reducible refine Below.alloc ?_ ?_ _) | (with_reducible refine Below.drew ?_) | (with_reducible refine below_drewN ?_ _) | (with_reducible refine Below.setCell ?_ ?_ _) | (with_reducible refine below_step (by with_reducible assumption) ?_ ?_) | (first | (with_reducible exact Nat.le_refl _) | (with_reducible assumption) | omega | (simp only [World.size_alloc, World.size_setCell, World.size_drew, size_drewN]; omega) | (simp; omega) | (simp; done)))))⟩
          · have hs2 : a + 3 ≤ n := by have := hn.out; have := hla.out; omega
            have t3 : 2 ≤ (n : Int) - ((a : Int) + 1) := by omega
            have hx1 := hcw.out (a + 1) (by have := hn.out; omega)
            have hx2 := hcw.out (a + 2) (by have := hn.out; omega)
            obtain ⟨x, ex⟩ : ∃ x, (gb l (a + 1)).toNat = x := ⟨_, rfl⟩
            obtain ⟨y, ey⟩ : ∃ y, (gb l (a + 2)).toNat = y := ⟨_, rfl⟩
            have hx256 : x < 256 := by rw [← ex]; exact UInt8.toNat_lt _
            have hy256 : y < 256 := by rw [← ey]; exact UInt8.toNat_lt _
            have HS := hide (step_match HD.out hT.out h128 (show a + 2 < l.length by have := hn.out; omega) ex ey)
            rw [ex] at hx1
            rw [ey] at hx2
            clear ex ey hs
            have p1 : 0 ≤ (a : Int) + 1 := by omega
            have p2 : (a : Int) + 1 < (n : Int) := by omega
            have p3 : ((a : Int) + 1).toNat = a + 1 := by omega
            obtain ⟨D, hD⟩ : ∃ D, x * 256 + y + 1 = D := ⟨_, rfl⟩
            rw [hD] at HS
            have D1 : 1 ≤ D := by omega
            have D2 : D ≤ 65536 := by omega
            have w5 : IntKind.i64.wrap ((x : Int) * 256 + (y : Int) + 1) = (D : Int) := (IntWalk.i64_in _ (by omega)).trans (by omega)
            replace hD := hide hD
            have w2 : IntKind.i64.wrap ((a : Int) + 1 + 1) = (a : Int) + 1 + 1 := IntWalk.i64_in _ (by omega)
            have q1 : 0 ≤ (a : Int) + 1 + 1 := by omega
            have q2 : (a : Int) + 1 + 1 < (n : Int) := by omega
            have q3 : ((a : Int) + 1 + 1).toNat = a + 2 := by omega
            have w3 : IntKind.i64.wrap ((x : Int) * 256) = (x : Int) * 256 := IntWalk.i64_in _ (by omega)
            have w4 : IntKind.i64.wrap ((x : Int) * 256 + (y : Int)) = (x : Int) * 256 + (y : Int) := IntWalk.i64_in _ (by omega)
            go_wp2_with fail
            go_quiet (fail)
            clear w2 w3 w4 w5 
            have HBd : Below B w (wr.drewN nq) := below_drewN HB.out nq
            have HOd : Owns (wr.drewN nq) B (.slice A p cp) o := HO.out
            obtain ⟨wo, hwo⟩ : ∃ wo, wr.drewN nq = wo := ⟨_, rfl⟩
            rw [hwo] at HBd HOd ⊢
            clear hwo
            replace HBd := hide HBd
            replace HOd := hide HOd
            clear HO HB hx hx1 hx2 hcw
            by_cases hd : p < D
            · have t5 : (p : Int) < (D : Int) := by omega
              have HE := hide (HS.out.1 (by have := HP.out; omega))
              clear HS
              go_wp2
              go_returns
              have hb := HBd.out
              obtain ⟨e1, e2⟩ := decOut_error HE.out
              exact ⟨_, by rw [e2]; rfl, hide (by rw [e1]; exact World.ownsRow_nil _ _ _ _), (by (repeat' (first | (with_reducible exact Below.refl _ _) | (with_reducible assumption) | (with_reducible refine Below.alloc ?_ ?_ _) | (with_reducible refine Below.drew ?_) | (with_reducible refine below_drewN ?_ _) | (with_reducible refine Below.setCell ?_ ?_ _) | (with_reducible refine below_step (by with_reducible assumption) ?_ ?_) | (first | (with_reducible exact Nat.le_refl _) | (with_reducible assumption) | omega | (simp only [World.size_alloc, World.size_setCell, World.size_drew, size_drewN]; omega) | (simp; omega) | (simp; done)))))⟩
            · have t5 : (D : Int) ≤ (p : Int) := by omega
              by_cases hbig : 65536 < p + (T - 124)
              · have t6 : (65536 : Int) < (p : Int) + (T : Int) - 124 := by omega
                have HE := hide (HS.out.2.1 (by have := HP.out; omega) (by have := HP.out; omega))
                clear HS
                go_wp2
                go_returns
                have hb := HBd.out
                obtain ⟨e1, e2⟩ := decOut_error HE.out
                exact ⟨_, by rw [e2]; rfl, hide (by rw [e1]; exact World.ownsRow_nil _ _ _ _), (by (repeat' (first | (with_reducible exact Below.refl _ _) | (with_reducible assumption) | (with_reducible refine Below.alloc ?_ ?_ _) | (with_reducible refine Below.drew ?_) | (with_reducible refine below_drewN ?_ _) | (with_reducible refine Below.setCell ?_ ?_ _) | (with_reducible refine below_step (by with_reducible assumption) ?_ ?_) | (first | (with_reducible exact Nat.le_refl _) | (with_reducible assumption) | omega | (simp only [World.size_alloc, World.size_setCell, World.size_drew, size_drewN]; omega) | (simp; omega) | (simp; done)))))⟩
              · have t6 : (p : Int) + (T : Int) - 124 ≤ 65536 := by omega
                have HE := hide (HS.out.2.2 (by have := HP.out; omega) (by have := HP.out; omega))
                clear HS
                obtain ⟨M, hM⟩ : ∃ M, T - 124 = M := ⟨_, rfl⟩
                rw [hM] at HE
                have hM1 : (M : Int) = (T : Int) - 124 := by omega
                replace hM1 := hide hM1
                have hM2 : p + M ≤ 65536 := by omega
                go_wp2
                go_loopw [4, 90] (fun v4 v9 wi => ∃ (k q cq : Nat) (A : Option Addr) (o' : List UInt8), v4 = .slice A q cq ∧ v9 = .int .i64 k ∧ k ≤ M ∧ q ≤ 65536 ∧ q ≤ cq ∧ D ≤ q ∧ Hid (q = p + k) ∧ Hid (q = o'.length) ∧ Hid (copyd D M o = copyd D (M - k) o') ∧ Hid (Owns wi B (.slice A q cq) o') ∧ Hid (Below B w wi)) (fun _ v9 _ => M - (intOf v9).toNat)
                case atStart => exact ⟨0, p, cp, A, o, rfl, rfl, by omega, by omega, by omega, by omega, hide rfl, HP, hide rfl, HOd, HBd⟩
                case round =>
                  obtain ⟨k, q, cq, A', o', rfl, rfl, hk, hq, hqc, hDq, HQ, HQL, HCP, HO, HB⟩ := hrel
                  have hbs := HB.out.size
                  by_cases hkm : k < M
                  · have k1 : (k : Int) < (T : Int) - 124 := by have := hM1.out; omega
                    obtain ⟨g0, cq', hv, hg0, _⟩ := World.ownsRow.form HO.out (by have := HQL.out; omega)
                    injection hv with hv1 hv2 hv3
                    subst hv1
                    clear hv2 hv3 hg0
                    have i1 : 0 ≤ (q : Int) - (D : Int) := by omega
                    have i2 : (q : Int) - (D : Int) < (q : Int) := by omega
                    have i3 : ((q : Int) - (D : Int)).toNat = q - D := by omega
                    have hxc := own_cell HO.out HQL.out (i := q - D) (by omega)
                    obtain ⟨z, hz⟩ : ∃ z, gb o' (q - D) = z := ⟨_, rfl⟩
                    rw [hz] at hxc
                    have HC2 := hide (HCP.out.trans (copyd_one hkm))
                    rw [← HQL.out, hz] at HC2
                    obtain ⟨zn, hzn⟩ : ∃ zn, z.toNat = zn := ⟨_, rfl⟩
                    rw [hzn] at hxc
                    replace hzn := hide hzn
                    clear hz
                    go_wp2_with (at_builtin; refine wpList_append_lies _ rfl (.tmp 92) (.tmp 100) 22 rfl B 5 i0 (.int .u8 0) 1 1 Try.underlying22 hi hz0 hz1 hz2 rfl (by omega) _ _ _ rfl (HO.out.alloc _) ⟨wr.heap.size, 0, none⟩ 1 1 [.int .u8 (zn : Int)] rfl rfl (news_one _ _ _) (by intro u hu; simp at hu; subst hu; rfl) (by omega) (by have := HQL.out; unfold maxLen; omega) (by have := HQL.out; omega) (by simp; omega) _ rfl ?_; intro g cap w1 hown1 hgrow1 hat1 hlt1; replace hat1 := hide hat1)
                    go_roundw
                    case rel =>
                      have hql := HQL.out
                      have hqp := HQ.out
                      refine ⟨k + 1, _, cap, some ⟨g, 0, none⟩, o' ++ [z], rfl, by go_num, by omega, by omega, hown1.form_le (by omega), by omega, hide (by omega), hide (by rw [List.length_append]; rfl), hide HC2.out, hide ?_, hide (below_one hBw HB.out HO.out hgrow1)⟩
                      exact owns_some (r := [z]) rfl (by rw [List.map_cons, bv, hzn.out]; rfl) hown1
                    case measure => simp [intOf]; omega
                  · obtain rfl : k = M := by omega
                    have k1 : (T : Int) - 124 ≤ (k : Int) := by have := hM1.out; omega
                    have HC2 := HCP.out
                    rw [Nat.sub_self] at HC2
                    replace HC2 := hide HC2
                    go_wp2
                    go_roundw
                    case rel =>
                      refine ⟨a + 3, q, cq, A', o', rfl, by go_num, by omega, by omega, by omega, HQL, hide ?_, HO, HB⟩
                      rw [HE.out, HC2.out]
                      rfl
                    case measure => simp [intOf]; omega
    · obtain rfl : a = n := by omega
      have HE : dec l [] = .ok o := by
        rw [HD.out, List.drop_eq_nil_of_le (by rw [← hn.out]; exact Nat.le_refl _), dec_nil]
      replace HE := hide HE
      go_wp2
      go_returns
      have hb := HB.out
      obtain ⟨e1, e2⟩ := decOut_ok HE.out
      exact ⟨_, by rw [e2]; rfl, hide (by rw [e1]; exact HO.out), (by (repeat' (first | (with_reducible exact Below.refl _ _) | (with_reducible assumption) | (with_reducible refine Below.alloc ?_ ?_ _) | (with_reducible refine Below.drew ?_) | (with_reducible refine below_drewN ?_ _) | (with_reducible refine Below.setCell ?_ ?_ _) | (with_reducible refine below_step (by with_reducible assumption) ?_ ?_) | (first | (with_reducible exact Nat.le_refl _) | (with_reducible assumption) | omega | (simp only [World.size_alloc, World.size_setCell, World.size_drew, size_drewN]; omega) | (simp; omega) | (simp; done)))))⟩
set_option maxRecDepth 20000 in
set_option maxHeartbeats 8000000 in
theorem rdec_c {l : List UInt8} (ad : Option Addr) (n c : Nat) (hn : Hid (n = l.length)) (hc : n ≤ c) (hlen : n ≤ 400000) (w : World) (hrow : Hid (BRow w ad l)) :
    Calls Try.prog 17 #[.slice ad n c] w fun e w' => ∃ v, e = .returned (.tuple #[v, .int .i64 (decErr l : Nat)]) ∧ Hid (Owns w' w.heap.size v (decOut l)) ∧ Below w.heap.size w w' := by
  have HR := hide (hrow.out.low (Nat.le_refl _))
  obtain ⟨B, hB⟩ : ∃ B, w.heap.size = B := ⟨_, rfl⟩
  rw [hB] at HR
  have hBw : B ≤ w.heap.size := by omega
  rw [hB]
  clear hB
  obtain ⟨i0, hi, hz0, hz1, hz2⟩ := info_parts infoB
  go_enter Try.func17, Try.ntmps17
  go_wp2
  go_loopw [4, 5] (fun v4 v5 wr => ∃ (a p cp : Nat) (A : Option Addr) (o : List UInt8), v4 = .slice A p cp ∧ v5 = .int .i64 a ∧ a ≤ n ∧ p ≤ 65536 ∧ p ≤ cp ∧ Hid (p = o.length) ∧ Hid (dec l [] = dec (l.drop a) o) ∧ Hid (Owns wr B (.slice A p cp) o) ∧ Hid (Below B w wr)) (fun _ v5 _ => n - (intOf v5).toNat)
  case atStart => exact ⟨0, 0, 0, none, [], rfl, rfl, by omega, by omega, by omega, hide rfl, hide rfl, hide (World.ownsRow_nil _ _ _ _), hide (Below.refl _ _)⟩
  case round =>
    obtain ⟨a, p, cp, A, o, rfl, rfl, han, hp, hpc, HP, HD, HO, HB⟩ := hrel
    have hbs := HB.out.size
    by_cases hlt : a < n
    · have hla : a < l.length := by have := hn.out; omega
      obtain ⟨b, off, rfl, hbB, hcell⟩ := HR.out (by intro e; subst e; simp at hla)
      have hcw : ∀ i, i < l.length → wr.cell? ⟨b, off + i, none⟩ = some (.int .u8 ((gb l i).toNat : Int)) := fun i hi => (HB.out.cell (p := ⟨b, off + i, none⟩) hbB).trans (hcell i hi)
      replace hcw := hide hcw
      clear hcell
      obtain ⟨T, hT⟩ : ∃ T, (gb l a).toNat = T := ⟨_, rfl⟩
      have hT256 : T < 256 := by rw [← hT]; exact UInt8.toNat_lt _
      have hx := hcw.out a hla
      rw [hT] at hx
      replace hT := hide hT
      replace hla := hide hla
      by_cases h0 : T = 0
      · subst h0
        have HE := hide (step_zero hla.out HD.out hT.out)
        go_wp2
        go_returns
        have hb := HB.out
        obtain ⟨e1, e2⟩ := decOut_error HE.out
        exact ⟨_, by rw [e2]; rfl, hide (by rw [e1]; exact World.ownsRow_nil _ _ _ _), (by (repeat' (first | (with_reducible exact Below.refl _ _) | (with_reducible assumption) | (with_reducible refine Below.alloc ?_ ?_ _) | (with_reducible refine Below.drew ?_) | (with_reducible refine below_drewN ?_ _) | (with_reducible refine Below.setCell ?_ ?_ _) | (with_reducible refine below_step (by with_reducible assumption) ?_ ?_) | (first | (with_reducible exact Nat.le_refl _) | (with_reducible assumption) | omega | (simp only [World.size_alloc, World.size_setCell, World.size_drew, size_drewN]; omega) | (simp; omega) | (simp; done)))))⟩
      · have t0 : (0 : Int) < (T : Int) := by omega
        have t1 : ((T : Int) == 0) = false := beq_eq_false_iff_ne.2 (by omega)
        by_cases h128 : T < 128
        · have HL := hide (step_lit hla.out HD.out hT.out h0 h128)
          have t2 : (T : Int) < 128 := by omega
          by_cases hs : l.length - (a + 1) < T
          · have t3 : (n : Int) - (a : Int) - 1 < (T : Int) := by have := hn.out; omega
            have HE := hide (HL.out.1 hs)
            go_wp2
            go_returns
            have hb := HB.out
            obtain ⟨e1, e2⟩ := decOut_error HE.out
            exact ⟨_, by rw [e2]; rfl, hide (by rw [e1]; exact World.ownsRow_nil _ _ _ _), (by (repeat' (first | (with_reducible exact Below.refl _ _) | (with_reducible assumption) | (with_reducible refine Below.alloc ?_ ?_ _) | (with_reducible refine Below.drew ?_) | (with_reducible refine below_drewN ?_ _) | (with_reducible refine Below.setCell ?_ ?_ _) | (with_reducible refine below_step (by with_reducible assumption) ?_ ?_) | (first | (with_reducible exact Nat.le_refl _) | (with_reducible assumption) | omega | (simp only [World.size_alloc, World.size_setCell, World.size_drew, size_drewN]; omega) | (simp; omega) | (simp; done)))))⟩
          · have hs2 : a + 1 + T ≤ n := by have := hn.out; have := hla.out; omega
            have t3 : (T : Int) ≤ (n : Int) - (a : Int) - 1 := by omega
            by_cases hbig : 65536 < p + T
            · have t4 : (65536 : Int) < (p : Int) + (T : Int) := by omega
              have HE := hide (HL.out.2.1 (by omega) (by have := HP.out; omega))
              go_wp2
              go_returns
              have hb := HB.out
              obtain ⟨e1, e2⟩ := decOut_error HE.out
              exact ⟨_, by rw [e2]; rfl, hide (by rw [e1]; exact World.ownsRow_nil _ _ _ _), (by (repeat' (first | (with_reducible exact Below.refl _ _) | (with_reducible assumption) | (with_reducible refine Below.alloc ?_ ?_ _) | (with_reducible refine Below.drew ?_) | (with_reducible refine below_drewN ?_ _) | (with_reducible refine Below.setCell ?_ ?_ _) | (with_reducible refine below_step (by with_reducible assumption) ?_ ?_) | (first | (with_reducible exact Nat.le_refl _) | (with_reducible assumption) | omega | (simp only [World.size_alloc, World.size_setCell, World.size_drew, size_drewN]; omega) | (simp; omega) | (simp; done)))))⟩
            · have t4 : (p : Int) + (T : Int) ≤ 65536 := by omega
              have HE := hide (HL.out.2.2 (by omega) (by have := HP.out; omega))
              have q1 : (a : Int) + 1 + (T : Int) ≤ (c : Int) := by omega
              have q2 : (a : Int) + 1 ≤ (c : Int) := by omega
              have q3 : (a : Int) + 1 < (c : Int) := by omega
              have hre : ((l.drop (a + 1)).take T).length = T := by rw [List.length_take, List.length_drop]; have := hla.out; have := hn.out; omega
              have hnews : ∀ i, i < (l.drop (a + 1)).length → wr.cell? ⟨b, off + (a + 1) + i, none⟩ = some (.int .u8 ((gb (l.drop (a + 1)) i).toNat : Int)) := fun i hi => by
                rw [gb_drop, Nat.add_assoc]
                exact hcw.out _ (by rw [List.length_drop] at hi; omega)
              replace hnews := hide hnews
              replace hre := hide hre
              replace hs2 := hide hs2
              replace hbig := hide hbig
              clear hs HL
              go_wp2_with (at_builtin; refine wpList_append_lies _ rfl (.tmp 34) (.tmp 42) 22 rfl B 5 i0 (.int .u8 0) 1 1 Try.underlying22 hi hz0 hz1 hz2 rfl (by omega) _ _ _ rfl HO.out ⟨b, off + (a + 1), none⟩ _ _ (((l.drop (a + 1)).take T).map bv) rfl (by rw [List.length_map, hre.out]; omega) (news_row hnews.out) (bv_one _) (by omega) (by have := HP.out; unfold maxLen; omega) (by have := HP.out; omega) (by omega) _ rfl ?_; intro g cap w1 hown1 hgrow1 hat1 hlt1; replace hat1 := hide hat1)
              go_roundw
              case rel =>
                have hs2 := hs2.out
                have hpo := HP.out
                have em : a + 1 + T - (a + 1) = T := by omega
                rw [em] at hown1
                refine ⟨a + 1 + T, _, cap, some ⟨g, 0, none⟩, o ++ (l.drop (a + 1)).take T, rfl, by go_num, by omega, by omega, hown1.form_le (by omega), hide ?_, hide HE.out, hide ?_, hide (below_plain hBw HB.out HO.out hgrow1)⟩
                · rw [List.length_append, hre.out]
                · exact owns_some (by rw [hre.out]) rfl hown1
              case measure => have := hs2.out; simp [intOf]; omega
        · have t2 : (128 : Int) ≤ (T : Int) := by omega
          by_cases hs : l.length - (a + 1) < 2
          · have HE := hide (step_short hla.out HD.out hT.out h128 hs)
            have t3 : (n : Int) - (a : Int) < 3 := by have := hn.out; omega
            go_wp2
            go_returns
            have hb := HB.out
            obtain ⟨e1, e2⟩ := decOut_error HE.out
            exact ⟨_, by rw [e2]; rfl, hide (by rw [e1]; exact World.ownsRow_nil _ _ _ _), (by (repeat' (first | (with_reducible exact Below.refl _ _) | (with_reducible assumption) | (with_reducible refine Below.alloc ?_ ?_ _) | (with_reducible refine Below.drew ?_) | (with_reducible refine below_drewN ?_ _) | (with_reducible refine Below.setCell ?_ ?_ _) | (with_reducible refine below_step (by with_reducible assumption) ?_ ?_) | (first | (with_reducible exact Nat.le_refl _) | (with_reducible assumption) | omega | (simp only [World.size_alloc, World.size_setCell, World.size_drew, size_drewN]; omega) | (simp; omega) | (simp; done)))))⟩
          · have hs2 : a + 3 ≤ n := by have := hn.out; have := hla.out; omega
            have t3 : 3 ≤ (n : Int) - (a : Int) := by omega
            have hx1 := hcw.out (a + 1) (by have := hn.out; omega)
            have hx2 := hcw.out (a + 2) (by have := hn.out; omega)
            obtain ⟨x, ex⟩ : ∃ x, (gb l (a + 1)).toNat = x := ⟨_, rfl⟩
            obtain ⟨y, ey⟩ : ∃ y, (gb l (a + 2)).toNat = y := ⟨_, rfl⟩
            have hx256 : x < 256 := by rw [← ex]; exact UInt8.toNat_lt _
            have hy256 : y < 256 := by rw [← ey]; exact UInt8.toNat_lt _
            have HS := hide (step_match HD.out hT.out h128 (show a + 2 < l.length by have := hn.out; omega) ex ey)
            rw [ex] at hx1
            rw [ey] at hx2
            clear ex ey hs
            have p1 : 0 ≤ (a : Int) + 1 := by omega
            have p2 : (a : Int) + 1 < (n : Int) := by omega
            have p3 : ((a : Int) + 1).toNat = a + 1 := by omega
            obtain ⟨D, hD⟩ : ∃ D, x * 256 + y + 1 = D := ⟨_, rfl⟩
            rw [hD] at HS
            have D1 : 1 ≤ D := by omega
            have D2 : D ≤ 65536 := by omega
            have w5 : IntKind.i64.wrap ((x : Int) * 256 + (y : Int) + 1) = (D : Int) := (IntWalk.i64_in _ (by omega)).trans (by omega)
            replace hD := hide hD
            have w1 : IntKind.i64.wrap ((a : Int) + 1) = (a : Int) + 1 := IntWalk.i64_in _ (by omega)
            have w2 : IntKind.i64.wrap ((a : Int) + 2) = (a : Int) + 2 := IntWalk.i64_in _ (by omega)
            have q1 : 0 ≤ (a : Int) + 2 := by omega
            have q2 : (a : Int) + 2 < (n : Int) := by omega
            have q3 : ((a : Int) + 2).toNat = a + 2 := by omega
            have w3 : IntKind.i64.wrap ((x : Int) * 256) = (x : Int) * 256 := IntWalk.i64_in _ (by omega)
            have w4 : IntKind.i64.wrap ((x : Int) * 256 + (y : Int)) = (x : Int) * 256 + (y : Int) := IntWalk.i64_in _ (by omega)
            go_wp2_with fail
            go_quiet (fail)
            clear w2 w3 w4 w5 w1
            have HBd : Below B w (wr.drewN nq) := below_drewN HB.out nq
            have HOd : Owns (wr.drewN nq) B (.slice A p cp) o := HO.out
            obtain ⟨wo, hwo⟩ : ∃ wo, wr.drewN nq = wo := ⟨_, rfl⟩
            rw [hwo] at HBd HOd ⊢
            clear hwo
            replace HBd := hide HBd
            replace HOd := hide HOd
            clear HO HB hx hx1 hx2 hcw
            by_cases hd : p < D
            · have t5 : (p : Int) < (D : Int) := by omega
              have HE := hide (HS.out.1 (by have := HP.out; omega))
              clear HS
              go_wp2
              go_returns
              have hb := HBd.out
              obtain ⟨e1, e2⟩ := decOut_error HE.out
              exact ⟨_, by rw [e2]; rfl, hide (by rw [e1]; exact World.ownsRow_nil _ _ _ _), (by (repeat' (first | (with_reducible exact Below.refl _ _) | (with_reducible assumption) | (with_reducible refine Below.alloc ?_ ?_ _) | (with_reducible refine Below.drew ?_) | (with_reducible refine below_drewN ?_ _) | (with_reducible refine Below.setCell ?_ ?_ _) | (with_reducible refine below_step (by with_reducible assumption) ?_ ?_) | (first | (with_reducible exact Nat.le_refl _) | (with_reducible assumption) | omega | (simp only [World.size_alloc, World.size_setCell, World.size_drew, size_drewN]; omega) | (simp; omega) | (simp; done)))))⟩
            · have t5 : (D : Int) ≤ (p : Int) := by omega
              by_cases hbig : 65536 < p + (T - 124)
              · have t6 : (65536 : Int) < (p : Int) + (T : Int) - 124 := by omega
                have HE := hide (HS.out.2.1 (by have := HP.out; omega) (by have := HP.out; omega))
                clear HS
                go_wp2
                go_returns
                have hb := HBd.out
                obtain ⟨e1, e2⟩ := decOut_error HE.out
                exact ⟨_, by rw [e2]; rfl, hide (by rw [e1]; exact World.ownsRow_nil _ _ _ _), (by (repeat' (first | (with_reducible exact Below.refl _ _) | (with_reducible assumption) | (with_reducible refine Below.alloc ?_ ?_ _) | (with_reducible refine Below.drew ?_) | (with_reducible refine below_drewN ?_ _) | (with_reducible refine Below.setCell ?_ ?_ _) | (with_reducible refine below_step (by with_reducible assumption) ?_ ?_) | (first | (with_reducible exact Nat.le_refl _) | (with_reducible assumption) | omega | (simp only [World.size_alloc, World.size_setCell, World.size_drew, size_drewN]; omega) | (simp; omega) | (simp; done)))))⟩
              · have t6 : (p : Int) + (T : Int) - 124 ≤ 65536 := by omega
                have HE := hide (HS.out.2.2 (by have := HP.out; omega) (by have := HP.out; omega))
                clear HS
                obtain ⟨M, hM⟩ : ∃ M, T - 124 = M := ⟨_, rfl⟩
                rw [hM] at HE
                have hM1 : (M : Int) = (T : Int) - 124 := by omega
                replace hM1 := hide hM1
                have hM2 : p + M ≤ 65536 := by omega
                go_wp2
                go_loopw [4, 8] (fun v4 v9 wi => ∃ (k q cq : Nat) (A : Option Addr) (o' : List UInt8), v4 = .slice A q cq ∧ v9 = .int .i64 k ∧ k ≤ M ∧ q ≤ 65536 ∧ q ≤ cq ∧ D ≤ q ∧ Hid (q = p + k) ∧ Hid (q = o'.length) ∧ Hid (copyd D M o = copyd D (M - k) o') ∧ Hid (Owns wi B (.slice A q cq) o') ∧ Hid (Below B w wi)) (fun _ v9 _ => M - (intOf v9).toNat)
                case atStart => exact ⟨0, p, cp, A, o, rfl, rfl, by omega, by omega, by omega, by omega, hide rfl, HP, hide rfl, HOd, HBd⟩
                case round =>
                  obtain ⟨k, q, cq, A', o', rfl, rfl, hk, hq, hqc, hDq, HQ, HQL, HCP, HO, HB⟩ := hrel
                  have hbs := HB.out.size
                  by_cases hkm : k < M
                  · have k1 : (k : Int) < (T : Int) - 124 := by have := hM1.out; omega
                    obtain ⟨g0, cq', hv, hg0, _⟩ := World.ownsRow.form HO.out (by have := HQL.out; omega)
                    injection hv with hv1 hv2 hv3
                    subst hv1
                    clear hv2 hv3 hg0
                    have i1 : 0 ≤ (q : Int) - (D : Int) := by omega
                    have i2 : (q : Int) - (D : Int) < (q : Int) := by omega
                    have i3 : ((q : Int) - (D : Int)).toNat = q - D := by omega
                    have hxc := own_cell HO.out HQL.out (i := q - D) (by omega)
                    obtain ⟨z, hz⟩ : ∃ z, gb o' (q - D) = z := ⟨_, rfl⟩
                    rw [hz] at hxc
                    have HC2 := hide (HCP.out.trans (copyd_one hkm))
                    rw [← HQL.out, hz] at HC2
                    obtain ⟨zn, hzn⟩ : ∃ zn, z.toNat = zn := ⟨_, rfl⟩
                    rw [hzn] at hxc
                    replace hzn := hide hzn
                    clear hz
                    go_wp2_with (at_builtin; refine wpList_append_lies _ rfl (.tmp 84) (.tmp 92) 22 rfl B 5 i0 (.int .u8 0) 1 1 Try.underlying22 hi hz0 hz1 hz2 rfl (by omega) _ _ _ rfl (HO.out.alloc _) ⟨wr.heap.size, 0, none⟩ 1 1 [.int .u8 (zn : Int)] rfl rfl (news_one _ _ _) (by intro u hu; simp at hu; subst hu; rfl) (by omega) (by have := HQL.out; unfold maxLen; omega) (by have := HQL.out; omega) (by simp; omega) _ rfl ?_; intro g cap w1 hown1 hgrow1 hat1 hlt1; replace hat1 := hide hat1)
                    go_roundw
                    case rel =>
                      have hql := HQL.out
                      have hqp := HQ.out
                      refine ⟨k + 1, _, cap, some ⟨g, 0, none⟩, o' ++ [z], rfl, by go_num, by omega, by omega, hown1.form_le (by omega), by omega, hide (by omega), hide (by rw [List.length_append]; rfl), hide HC2.out, hide ?_, hide (below_one hBw HB.out HO.out hgrow1)⟩
                      exact owns_some (r := [z]) rfl (by rw [List.map_cons, bv, hzn.out]; rfl) hown1
                    case measure => simp [intOf]; omega
                  · obtain rfl : k = M := by omega
                    have k1 : (T : Int) - 124 ≤ (k : Int) := by have := hM1.out; omega
                    have HC2 := HCP.out
                    rw [Nat.sub_self] at HC2
                    replace HC2 := hide HC2
                    go_wp2
                    go_roundw
                    case rel =>
                      refine ⟨a + 3, q, cq, A', o', rfl, by go_num, by omega, by omega, by omega, HQL, hide ?_, HO, HB⟩
                      rw [HE.out, HC2.out]
                      rfl
                    case measure => simp [intOf]; omega
    · obtain rfl : a = n := by omega
      have HE : dec l [] = .ok o := by
        rw [HD.out, List.drop_eq_nil_of_le (by rw [← hn.out]; exact Nat.le_refl _), dec_nil]
      replace HE := hide HE
      go_wp2
      go_returns
      have hb := HB.out
      obtain ⟨e1, e2⟩ := decOut_ok HE.out
      exact ⟨_, by rw [e2]; rfl, hide (by rw [e1]; exact HO.out), (by (repeat' (first | (with_reducible exact Below.refl _ _) | (with_reducible assumption) | (with_reducible refine Below.alloc ?_ ?_ _) | (with_reducible refine Below.drew ?_) | (with_reducible refine below_drewN ?_ _) | (with_reducible refine Below.setCell ?_ ?_ _) | (with_reducible refine below_step (by with_reducible assumption) ?_ ?_) | (first | (with_reducible exact Nat.le_refl _) | (with_reducible assumption) | omega | (simp only [World.size_alloc, World.size_setCell, World.size_drew, size_drewN]; omega) | (simp; omega) | (simp; done)))))⟩
end Go.Proofs.Ytkdbgkjckoklcaa
