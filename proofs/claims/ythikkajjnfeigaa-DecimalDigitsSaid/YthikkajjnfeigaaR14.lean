/- Package pontageref1, walked: Div. -/
import Derived.WalkKit
import Derived.KernelRfl
import Derived.RowKit3
import Derived.Deep.LoopGhost
import Derived.Deep.QuietTactic
import Derived.BigQuiet
import Derived.WideLaws
import Derived.Laws.Rows
import Derived.Below
import Derived.Deep.Draws
import Derived.Outline
import Derived.LoopN
import Derived.Handy
import Derived.Laws.Externs
import Derived.Laws.BitsAllLaws
import Derived.Laws.BitsLemmas
import Derived.Deep.DeepCutAuto
import Derived.Deep.CutBlock
import Derived.Deep.RegionHeld3
import Derived.Test.YthikkajjnfeigaaR13
namespace Go.Proofs.Ythikkajjnfeigaa
open Go.RowKit
set_option linter.unusedVariables false
set_option linter.unusedSimpArgs false
theorem Row.far {w : World} {ad : Option Addr} {l : List Nat} (h : Row w ad l) {p : Addr} (hp : ∀ b o, ad = some ⟨b, o, none⟩ → b ≠ p.block) (v : Value) : Row (w.setCell p v) ad l := fun hl => by
  obtain ⟨b, o, rfl, hc⟩ := h hl
  exact ⟨b, o, rfl, fun i hi => (World.cell?_of_block (Below.heap_setCell w p v b (hp b o rfl))).trans (hc i hi)⟩
theorem Big.far {w : World} {ad : Option Addr} {n c N : Nat} (h : Big w ad n c N) {p : Addr} (hp : ∀ b o, ad = some ⟨b, o, none⟩ → b ≠ p.block) (v : Value) : Big (w.setCell p v) ad n c N := ⟨h.hn, h.hc, h.row.far hp v⟩
theorem Blk.far {w : World} {g : Nat} {L : List Nat} (h : Blk w g L) {p : Addr} (hp : g ≠ p.block) (v : Value) : Blk (w.setCell p v) g L := h.keep (Below.heap_setCell w p v g hp)
theorem set_twice (l : List Nat) (i x y : Nat) : (l.set i x).set i y = l.set i y := by simp
set_option maxRecDepth 20000 in
set_option maxHeartbeats 8000000 in
theorem rdiv_c {A B : Nat} (ad : Option Addr) (n c : Nat) (ad' : Option Addr) (n' c' : Nat) (w : World) (hA : Hid (Big w ad n c A)) (hB : Hid (Big w ad' n' c' B)) (hB0 : 0 < B) (hlen : n ≤ 100000) (hlen' : n' ≤ 90000) :
    Calls Try.prog 35 #[.slice ad n c, .slice ad' n' c'] w fun e w' => ∃ a1 n1 c1 a2 n2 c2, e = .returned (.tuple #[.slice a1 n1 c1, .slice a2 n2 c2]) ∧ Hid (Big w' a1 n1 c1 (A / B)) ∧ Hid (Big w' a2 n2 c2 (A % B)) ∧ n1 ≤ n ∧ n2 ≤ n' ∧ Below w.heap.size w w' := by
  have hn0 : 0 < n' := by rw [hB.out.hn]; exact nd_pos (by omega)
  obtain ⟨b, o, rfl, hcellB⟩ := hB.out.row (by intro e; have := hB.out.hn; unfold nd at this; rw [e] at this; simp at this; omega)
  replace hcellB := hide hcellB
  by_cases h1 : n' = 1
  · subst h1
    have hx := hcellB.out 0 (by have := hB.out.hn; unfold nd at this; omega)
    have hBs : B < 65536 := by have := nd_lt B; rw [← hB.out.hn] at this; simpa using this
    rw [dig_get, Nat.pow_zero, Nat.div_one, Nat.mod_eq_of_lt hBs, Nat.add_zero] at hx
    have HS := hide (fun w h => rshort_c (A := A) (m := B) ad n c w h hB0 hBs hlen)
    clear hBs
    go_enter Try.func35, Try.ntmps35
    go_wp2_with fail
    refine (HS.out _ hA).mono ?_
    rintro e w1 ⟨a1, n1, c1, a2, n2, c2, rfl, k1, k2, k3, k4, hb1⟩
    go_wp2
    go_returns
    exact ⟨_, _, _, _, _, _, rfl, k1, k2, k3, k4, hb1⟩
  have h1' : ((n' : Int) == 1) = false := by simp; omega
  have h1'' : ¬ (n' : Int) = 1 := by omega
  have hmk := make_n (n := n) (by omega)
  have hmk' : ∀ W : World, (Instr.makeSlice 48 (.int .i64 ((n' : Int) + 1)) (.int .i64 ((n' : Int) + 1))).run Try.prog W = .ok (.slice (some ⟨W.heap.size, 0, none⟩) (n' + 1) (n' + 1)) (W.alloc (.cells (madeCells (Value.int .i64 0).cells ((n' + 1) * 1)) 3)) := by
    intro W
    have := make_n (n := n' + 1) (by omega) W
    rwa [Int.natCast_add] at this
  go_enter Try.func35, Try.ntmps35
  go_wp2
  clear hmk hmk'
  go_loopw [8] (fun v8 wr => ∃ (i : Nat) (L R : List Nat) (x : Int), v8 = .int .i64 x ∧ x = (i : Int) - 1 ∧ i ≤ n ∧ Hid (St A B i 0 L R) ∧ Hid (Blk wr w.heap.size L) ∧ Hid (Blk wr (w.heap.size + 1) R) ∧ Hid (Below w.heap.size w wr)) (fun v8 _ => (intOf v8 + 1).toNat)
  case atStart =>
    have hq := Blk.made w n
    have hr := Blk.made (w.alloc (.cells (madeCells (Value.int .i64 0).cells (n * 1)) 3)) (n' + 1)
    simp only [World.size_alloc, Nat.mul_one] at hq hr
    exact ⟨n, List.replicate n 0, List.replicate (n' + 1) 0, _, rfl, by go_num, by omega, hide (by rw [hA.out.hn, hB.out.hn]; exact St.start hB0), hide (hq.keep (Below.block (Below.alloc (Below.refl _ _) (Nat.le_refl _) _) _ (by simp))), hide hr, hide (by (repeat' (first | (with_reducible exact Below.refl _ _) | (with_reducible assumption) | (with_reducible refine Below.alloc ?_ ?_ _) | (with_reducible refine Below.drew ?_) | (with_reducible refine below_drewN ?_ _) | (with_reducible refine Below.setCell ?_ ?_ _) | (with_reducible refine below_step (by with_reducible assumption) ?_ ?_) | (first | (with_reducible exact Nat.le_refl _) | (with_reducible assumption) | omega | (simp only [World.size_alloc, World.size_setCell, World.size_drew, size_drewN]; omega) | (simp; omega) | (simp; done)))))⟩
  case round =>
    obtain ⟨i, L, R, x, rfl, hx, hi, HI, HQ, HR, HBl⟩ := hrel
    have hb := HBl.out
    have hsz := hb.size
    have hqlt := HQ.out.lt
    have hrlt := HR.out.lt
    rcases i with _ | k
    · obtain rfl : x = -1 := by omega
      clear hx
      obtain ⟨hv1, hv2⟩ := HI.out.done
      have hl1 : L.length = n := by rw [HI.out.ll]; exact hA.out.hn.symm
      have hl2 : R.length = n' + 1 := by rw [HI.out.rl, hB.out.hn]
      have hr1 := norm_row HI.out.q.dg
      have hr2 := norm_row HI.out.rd
      have hn1 : nd (A / B) ≤ n := by have := nd_le_of (val_lt HI.out.q.dg); rwa [hv1, hl1] at this
      have hn2 : nd (A % B) ≤ n' := by
        rw [hB.out.hn]
        exact nd_le_of (Nat.lt_trans (Nat.mod_lt _ hB0) (nd_lt B))
      rw [hv1] at hr1
      rw [hv2] at hr2
      replace hv1 := hide hv1
      replace hv2 := hide hv2
      replace hl1 := hide hl1
      replace hl2 := hide hl2
      replace hr1 := hide hr1
      replace hr2 := hide hr2
      go_wp2_with fail
      refine (norm_c HI.out.q.dg _ n n hl1.out.symm (Nat.le_refl _) (by omega) _ HQ.out.row).mono ?_
      rintro e w1 ⟨rfl, rfl⟩
      rw [hv1.out]
      go_wp2_with fail
      refine (norm_c HI.out.rd _ (n' + 1) (n' + 1) hl2.out.symm (Nat.le_refl _) (by omega) _ HR.out.row).mono ?_
      rintro e w1 ⟨rfl, rfl⟩
      rw [hv2.out]
      go_wp2
      go_returns
      refine ⟨_, _, _, _, _, _, rfl, hide ⟨rfl, hn1, ?_⟩, hide ⟨rfl, by omega, ?_⟩, hn1, hn2, hb⟩
      · rw [← hr1.out]
        exact HQ.out.row.take _
      · rw [← hr2.out]
        exact HR.out.row.take _
    · obtain rfl : x = (k : Int) := by omega
      clear hx
      have HIn := hide HI.out.next
      obtain ⟨d, ed⟩ : ∃ d, (dig A).getD k 0 = d := ⟨_, rfl⟩
      have hd : d < 65536 := by rw [← ed]; exact getD_lt (digs_dig A) k
      have hAne : dig A ≠ [] := by intro e; have := hA.out.hn; unfold nd at this; rw [e] at this; simp at this; omega
      obtain ⟨ba, oa, rfl, hcell⟩ := hA.out.row hAne
      have hxa := hcell k (by have := hA.out.hn; unfold nd at this; omega)
      have hbla := World.block_lt_of_cell? w _ hxa
      rw [ed] at hxa
      replace ed := hide ed
      replace hxa := hide hxa
      clear hcell hAne
      go_wp2
      go_loopw [9] (fun v9 wr => ∃ (t : Nat) (L R : List Nat) (x : Int), v9 = .int .i64 x ∧ x = (t : Int) - 1 ∧ t ≤ 16 ∧ Hid (St A B k t L R) ∧ Hid (Blk wr w.heap.size L) ∧ Hid (Blk wr (w.heap.size + 1) R) ∧ Hid (Below w.heap.size w wr)) (fun v9 _ => (intOf v9 + 1).toNat)
      case atStart => exact ⟨16, L, R, _, rfl, by go_num, by omega, HIn, HQ, HR, HBl⟩
      case round =>
        clear hb hsz hqlt hrlt HIn HI HQ HR HBl
        obtain ⟨t, L, R, x, rfl, hx, ht, HI, HQ, HR, HBl⟩ := hrel
        have hb := HBl.out
        have hsz := hb.size
        have hqlt := HQ.out.lt
        have hrlt := HR.out.lt
        rcases t with _ | s
        · obtain rfl : x = -1 := by omega
          clear hx hd hbla h1' h1'' hsz hqlt hrlt ht
          go_wp2
          go_roundw
          case rel => exact ⟨k, L, R, _, by go_num, rfl, by omega, HI, HQ, HR, HBl⟩
          case measure => first | (simp [intOf]; done) | (simp [intOf]; omega)
        · obtain rfl : x = (s : Int) := by omega
          clear hx
          have hxx := (hb.cell (p := ⟨ba, oa + k, none⟩) hbla).trans hxa.out
          obtain ⟨y, ey⟩ : ∃ y, bitOf A (16 * k + s) = y := ⟨_, rfl⟩
          have hy : y ≤ 1 := by rw [← ey]; exact bitOf_le _ _
          have hp : 2 ^ s < 65536 := by have := Nat.pow_lt_pow_right (a := 2) (by omega) (show s < 16 by omega); simpa using this
          have hdv : d / 2 ^ s ≤ d := Nat.div_le_self _ _
          have hbit : bits .and .i64 ((d : Int) / 2 ^ s) 1 = (y : Int) := by
            have e := and1_i64 (x := d / 2 ^ s) (by omega)
            rw [bit_dig ed.out (by omega), ey] at e
            rw [← e]
            congr 1
          have hs1 : IntKind.u64.wrap (s : Int) = (s : Int) := by rw [IntKind.wrap_u64]; omega
          replace ey := hide ey
          have hrl : R.length = n' + 1 := by rw [HI.out.rl, hB.out.hn]
          go_wp2
          go_loopw [10, 11] (fun v10 v11 wr => ∃ (m ov : Nat) (R' : List Nat), v11 = .int .i64 m ∧ v10 = .int .i64 ov ∧ m ≤ n' + 1 ∧ Hid (DbI R y m ov R') ∧ Hid (Blk wr w.heap.size L) ∧ Hid (Blk wr (w.heap.size + 1) R') ∧ Hid (Below w.heap.size w wr)) (fun _ v11 _ => n' + 1 - (intOf v11).toNat)
          case atStart => exact ⟨0, y, R, rfl, rfl, by omega, hide (DbI.start HI.out.rd hy), HQ, HR, HBl⟩
          case round =>
          clear hb hsz hqlt hrlt HQ HR HBl
          obtain ⟨m, ov, R', rfl, rfl, hm, HD, HQ, HR, HBl⟩ := hrel
          have hb := HBl.out
          have hsz := hb.size
          have hqlt := HQ.out.lt
          have hrlt := HR.out.lt
          have hrl' : R'.length = n' + 1 := by rw [HD.out.len, hrl]
          have hov := HD.out.ov1
          by_cases h2 : m < n' + 1
          · have hke := HR.out.cell (i := m) (by omega)
            have hkf := HR.out.free m
            obtain ⟨e, ee⟩ : ∃ e, R'.getD m 0 = e := ⟨_, rfl⟩
            have he : e < 65536 := by rw [← ee]; exact getD_lt HD.out.dg _
            rw [ee] at hke
            have HS := hide (HD.out.step (by omega) HI.out.rd ee)
            have N1 := and_i64
            replace ee := hide ee
            have h2' : (m : Int) < (n' : Int) + 1 := by omega
            go_wp2
            go_roundw
            case rel =>
              have hc : ((ov : Int) + 2 * (e : Int)) = ((ov + 2 * e : Nat) : Int) := by simp
              refine ⟨m + 1, (ov + 2 * e) / 65536, R'.set m ((ov + 2 * e) % 65536), by go_num, by go_num, by omega, hide HS.out.2, hide ?_, hide ?_, hide (by (repeat' (first | (with_reducible exact Below.refl _ _) | (with_reducible assumption) | (with_reducible refine Below.alloc ?_ ?_ _) | (with_reducible refine Below.drew ?_) | (with_reducible refine below_drewN ?_ _) | (with_reducible refine Below.setCell ?_ ?_ _) | (with_reducible refine below_step (by with_reducible assumption) ?_ ?_) | (first | (with_reducible exact Nat.le_refl _) | (with_reducible assumption) | omega | (simp only [World.size_alloc, World.size_setCell, World.size_drew, size_drewN]; omega) | (simp; omega) | (simp; done)))))⟩
              · exact HQ.out.keep (Below.heap_setCell _ _ _ _ (by intro hh; dsimp only at hh; omega))
              · exact HR.out.set (by omega) (by omega)
            case measure => simp [intOf]; omega
          · obtain rfl : m = n' + 1 := by omega
            have HDd := hide (show DbI R (bitOf A (16 * k + s)) R.length ov R' by rw [hrl, ey.out]; exact HD.out)
            have hVn : nd (val R') ≤ n' + 1 := by have := nd_le_of (val_lt HD.out.dg); rwa [hrl'] at this
            have hrow : Row wr (some ⟨w.heap.size + 1, 0, none⟩) (dig (val R')) := by rw [← norm_row HD.out.dg]; exact HR.out.row.take _
            have hrowB : Row wr (some ⟨b, o, none⟩) (dig B) := (hB.out.below hb (Nat.le_refl _)).row
            have HN := hide (fun W h => norm_c HD.out.dg (some ⟨w.heap.size + 1, 0, none⟩) (n' + 1) (n' + 1) hrl'.symm (Nat.le_refl _) (by omega) W h)
            have HL := hide (fun h => HI.out.low HDd.out h)
            have HH := hide (fun h R'' h1 h2 h3 => HI.out.high (R'' := R'') HDd.out h (by omega) (by rw [← hA.out.hn]; omega) h1 h2 h3)
            obtain ⟨V, hV⟩ : ∃ V, val R' = V := ⟨_, rfl⟩
            rw [hV] at hVn hrow HN HL HH
            replace hV := hide hV
            have HC := hide (fun W h h' => rcmp_c (A := V) (B := B) (some ⟨w.heap.size + 1, 0, none⟩) (nd V) (n' + 1) (hide rfl) (some ⟨b, o, none⟩) n' c' (hide hB.out.hn) (by omega) (by omega) W h h')
            replace hrow := hide hrow
            replace hrowB := hide hrowB
            by_cases hVB : V < B
            · have hcm : cmpV V B = -1 := by rw [cmpV, if_pos hVB]
              have HLs := hide (HL.out hVB)
              clear hVB
              go_wp2_with fail
              refine (HN.out _ HR.out.row).mono ?_
              rintro e w1 ⟨rfl, rfl⟩
              go_wp2_with fail
              refine (HC.out _ hrow hrowB).mono ?_
              rintro e w1 ⟨rfl, hb1⟩
              have hs1 := hb1.size
              go_wp2
              go_roundw
              case rel => exact ⟨s, L, R', _, by go_num, rfl, by omega, HLs, hide (HQ.out.below hb1 hqlt), hide (HR.out.below hb1 hrlt), hide (by (repeat' (first | (with_reducible exact Below.refl _ _) | (with_reducible assumption) | (with_reducible refine Below.alloc ?_ ?_ _) | (with_reducible refine Below.drew ?_) | (with_reducible refine below_drewN ?_ _) | (with_reducible refine Below.setCell ?_ ?_ _) | (with_reducible refine below_step (by with_reducible assumption) ?_ ?_) | (first | (with_reducible exact Nat.le_refl _) | (with_reducible assumption) | omega | (simp only [World.size_alloc, World.size_setCell, World.size_drew, size_drewN]; omega) | (simp; omega) | (simp; done)))))⟩
              case measure => first | (simp [intOf]; done) | (simp [intOf]; omega)
            · obtain ⟨z, hcm, hz0⟩ : ∃ z, cmpV V B = z ∧ 0 ≤ z := ⟨_, rfl, by rw [cmpV, if_neg hVB]; split <;> decide⟩
              have hle : B ≤ V := by omega
              have HHs := hide (HH.out hle)
              clear hVB
              go_wp2_with fail
              refine (HN.out _ HR.out.row).mono ?_
              rintro e w1 ⟨rfl, rfl⟩
              go_wp2_with fail
              refine (HC.out _ hrow hrowB).mono ?_
              rintro e w1 ⟨rfl, hb1⟩
              have hs1 := hb1.size
              go_wp2_with fail
              refine (HN.out _ (HR.out.below hb1 hrlt).row).mono ?_
              rintro e w2 ⟨rfl, rfl⟩
              go_wp2_with fail
              refine (rsub_f (A := V) (B := B) hle _ _ _ _ _ _ _ (hide ⟨rfl, hVn, hrow.out.below hb1 (Nat.le_refl _)⟩) (hide ⟨hB.out.hn, hB.out.hc, hrowB.out.below hb1 (Nat.le_refl _)⟩) (by omega) (by omega)).mono ?_
              rintro e w2 ⟨a2, n2, c2, rfl, hD, hn2, hb2, hfr⟩
              have hs2 := hb2.size
              go_wp2
              obtain ⟨D, hDe⟩ : ∃ D, V - B = D := ⟨_, rfl⟩
              rw [hDe] at hD
              have hDV : nd D ≤ n' + 1 := by rw [← hD.out.hn]; omega
              have hn2' : n2 ≤ n' + 1 := by omega
              have hq2 := (HQ.out.below hb1 hqlt).below hb2 (by omega)
              have hr2 := (HR.out.below hb1 hrlt).below hb2 (by omega)
              have hbw : Below w.heap.size w w2 := (by (repeat' (first | (with_reducible exact Below.refl _ _) | (with_reducible assumption) | (with_reducible refine Below.alloc ?_ ?_ _) | (with_reducible refine Below.drew ?_) | (with_reducible refine below_drewN ?_ _) | (with_reducible refine Below.setCell ?_ ?_ _) | (with_reducible refine below_step (by with_reducible assumption) ?_ ?_) | (first | (with_reducible exact Nat.le_refl _) | (with_reducible assumption) | omega | (simp only [World.size_alloc, World.size_setCell, World.size_drew, size_drewN]; omega) | (simp; omega) | (simp; done)))))
              have hw1 : w.heap.size + 1 < w1.heap.size := by omega
              have hfar : ∀ b o, a2 = some ⟨b, o, none⟩ → b ≠ w.heap.size + 1 := fun b o e => by have := hfr b o e; omega
              replace hfar := hide hfar
              go_loopw [13] (fun v13 wr => ∃ (m : Nat) (R2 : List Nat), v13 = .int .i64 m ∧ m ≤ n' + 1 ∧ Hid (CpI D m (n' + 1) R2) ∧ Hid (Blk wr w.heap.size L) ∧ Hid (Blk wr (w.heap.size + 1) R2) ∧ Hid (Big wr a2 n2 c2 D) ∧ Hid (Below w.heap.size w wr)) (fun v13 _ => n' + 1 - (intOf v13).toNat)
              case atStart => exact ⟨0, R', rfl, by omega, hide ⟨hrl', HD.out.dg, by simp [val]⟩, hide hq2, hide hr2, hD, hide hbw⟩
              case round =>
                clear hb hsz hqlt hrlt HQ HR HBl hq2 hr2 hbw hD hb1 hb2 hs1 hs2 hrow hrowB
                obtain ⟨m, R2, rfl, hm, HP, HQ, HR, hD, HBl⟩ := hrel
                have hb := HBl.out
                have hsz := hb.size
                have hqlt := HQ.out.lt
                have hrlt := HR.out.lt
                have hl2 := HP.out.len
                by_cases h2 : m < n' + 1
                · have hke := HR.out.cell (i := m) (by omega)
                  have hkf := HR.out.free m
                  have h2' : (m : Int) < (n' : Int) + 1 := by omega
                  by_cases h3 : m < n2
                  · obtain ⟨bd, od, rfl, hcd⟩ := hD.out.row (by intro e; have := hD.out.hn; unfold nd at this; rw [e] at this; simp at this; omega)
                    have hxd := hcd m (by have := hD.out.hn; unfold nd at this; omega)
                    have hfr2 := hfr bd od rfl
                    have hne : ¬ (w.heap.size + 1 = bd) := by omega
                    have hne2 : ¬ (bd = w.heap.size + 1) := by omega
                    obtain ⟨d2, ed2⟩ : ∃ d2, (dig D).getD m 0 = d2 := ⟨_, rfl⟩
                    rw [ed2] at hxd
                    have HPs := hide (HP.out.step h2 ed2)
                    replace ed2 := hide ed2
                    clear hcd
                    go_wp2
                    go_roundw
                    case rel =>
                      refine ⟨m + 1, R2.set m d2, by go_num, by omega, HPs, hide ((HQ.out.far (by intro hh; dsimp only at hh; omega) _).far (by intro hh; dsimp only at hh; omega) _), hide ?_, hide ((hD.out.far hfar.out _).far hfar.out _), hide (by (repeat' (first | (with_reducible exact Below.refl _ _) | (with_reducible assumption) | (with_reducible refine Below.alloc ?_ ?_ _) | (with_reducible refine Below.drew ?_) | (with_reducible refine below_drewN ?_ _) | (with_reducible refine Below.setCell ?_ ?_ _) | (with_reducible refine below_step (by with_reducible assumption) ?_ ?_) | (first | (with_reducible exact Nat.le_refl _) | (with_reducible assumption) | omega | (simp only [World.size_alloc, World.size_setCell, World.size_drew, size_drewN]; omega) | (simp; omega) | (simp; done)))))⟩
                      rw [← set_twice R2 m 0 d2]
                      exact (HR.out.set (by omega) rfl).set (by rw [List.length_set]; omega) rfl
                    case measure => simp [intOf]; omega
                  · have ed2 : (dig D).getD m 0 = 0 := by rw [List.getD_eq_getElem?_getD, List.getElem?_eq_none (by have := hD.out.hn; unfold nd at this; omega)]; rfl
                    have HPs := hide (HP.out.step h2 ed2)
                    replace ed2 := hide ed2
                    have h3' : (n2 : Int) ≤ (m : Int) := by omega
                    go_wp2
                    go_roundw
                    case rel => exact ⟨m + 1, R2.set m 0, by go_num, by omega, HPs, hide (HQ.out.far (by intro hh; dsimp only at hh; omega) _), hide (HR.out.set (by omega) rfl), hide (hD.out.far hfar.out _), hide (by (repeat' (first | (with_reducible exact Below.refl _ _) | (with_reducible assumption) | (with_reducible refine Below.alloc ?_ ?_ _) | (with_reducible refine Below.drew ?_) | (with_reducible refine below_drewN ?_ _) | (with_reducible refine Below.setCell ?_ ?_ _) | (with_reducible refine below_step (by with_reducible assumption) ?_ ?_) | (first | (with_reducible exact Nat.le_refl _) | (with_reducible assumption) | omega | (simp only [World.size_alloc, World.size_setCell, World.size_drew, size_drewN]; omega) | (simp; omega) | (simp; done)))))⟩
                    case measure => simp [intOf]; omega
                · obtain rfl : m = n' + 1 := by omega
                  obtain ⟨q1, HSt⟩ := HHs.out R2 (by rw [hl2, hrl']) HP.out.dg (by rw [HP.out.done hDV, ← hDe])
                  replace HSt := hide HSt
                  have hqc := HQ.out.cell (i := k) (by rw [HI.out.ll, ← hA.out.hn]; omega)
                  have hqf := HQ.out.free k
                  obtain ⟨f, ef⟩ : ∃ f, L.getD k 0 = f := ⟨_, rfl⟩
                  rw [ef] at hqc q1 HSt
                  replace ef := hide ef
                  obtain ⟨p2, ep2⟩ : ∃ p2 : Nat, 2 ^ s = p2 := ⟨_, rfl⟩
                  rw [ep2] at hp q1 HSt
                  have ep : (2 : Int) ^ s = (p2 : Int) := by rw [← ep2]; simp
                  have hwp : IntKind.i64.wrap (p2 : Int) = (p2 : Int) := by rw [IntKind.wrap_i64]; omega
                  replace ep2 := hide ep2
                  clear HHs hl2
                  go_wp2
                  go_roundw
                  case rel => exact ⟨s, L.set k (f + p2), R2, _, by go_num, rfl, by omega, HSt, hide (HQ.out.set (by rw [HI.out.ll, ← hA.out.hn]; omega) (by omega)), hide (HR.out.far (by intro hh; dsimp only at hh; omega) _), hide (by (repeat' (first | (with_reducible exact Below.refl _ _) | (with_reducible assumption) | (with_reducible refine Below.alloc ?_ ?_ _) | (with_reducible refine Below.drew ?_) | (with_reducible refine below_drewN ?_ _) | (with_reducible refine Below.setCell ?_ ?_ _) | (with_reducible refine below_step (by with_reducible assumption) ?_ ?_) | (first | (with_reducible exact Nat.le_refl _) | (with_reducible assumption) | omega | (simp only [World.size_alloc, World.size_setCell, World.size_drew, size_drewN]; omega) | (simp; omega) | (simp; done)))))⟩
                  case measure => first | (simp [intOf]; done) | (simp [intOf]; omega)
end Go.Proofs.Ythikkajjnfeigaa
