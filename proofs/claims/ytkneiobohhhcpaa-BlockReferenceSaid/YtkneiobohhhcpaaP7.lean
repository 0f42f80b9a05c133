/- params: the parameters as one row of 21 cells; Genesis. -/
import Derived.WalkKit
import Derived.KernelRfl
import Derived.RowKit3
import Derived.Deep.LoopGhost
import Derived.Deep.QuietTactic
import Derived.BigQuiet
import Derived.WideLaws
import Derived.Laws.Rows
import Derived.Below
import Derived.Deep.Draws
import Derived.Outline
import Derived.LoopN
import Derived.Handy
import Derived.Laws.Externs
import Derived.Laws.BitsAllLaws
import Derived.Laws.BitsLemmas
import Derived.Deep.DeepCutAuto
import Derived.Deep.CutBlock
import Derived.Deep.RegionHeld3
import Derived.Test.YtkneiobohhhcpaaP2
import Derived.Test.YtkneiobohhhcpaaP4
import Derived.Deep.MidRow
import Derived.Deep.WholeRow
namespace Go.Proofs.Ytkneiobohhhcpaa
open Go.RowKit
set_option linter.unusedVariables false
set_option linter.unusedSimpArgs false
def pC (P : Nat → Int) : Array Value := #[.int .u64 (P 0), .int .u64 (P 1), .int .u64 (P 2), .int .u64 (P 3), .int .u64 (P 4), .int .u64 (P 5), .int .u64 (P 6), .int .u64 (P 7), .int .u64 (P 8), .int .u64 (P 9), .int .u64 (P 10), .int .u64 (P 11), .int .u64 (P 12), .int .u64 (P 13), .int .u64 (P 14), .int .u64 (P 15), .int .u64 (P 16), .int .u64 (P 17), .int .u64 (P 18), .int .u64 (P 19), .int .u64 (P 20)]
theorem pC_size (P : Nat → Int) : (pC P).size = 21 := rfl
theorem pC_get (P : Nat → Int) (i : Nat) (h : i < 21) : (pC P)[i]? = some (.int .u64 (P i)) := by
  obtain rfl | rfl | rfl | rfl | rfl | rfl | rfl | rfl | rfl | rfl | rfl | rfl | rfl | rfl | rfl | rfl | rfl | rfl | rfl | rfl | rfl : i = 0 ∨ i = 1 ∨ i = 2 ∨ i = 3 ∨ i = 4 ∨ i = 5 ∨ i = 6 ∨ i = 7 ∨ i = 8 ∨ i = 9 ∨ i = 10 ∨ i = 11 ∨ i = 12 ∨ i = 13 ∨ i = 14 ∨ i = 15 ∨ i = 16 ∨ i = 17 ∨ i = 18 ∨ i = 19 ∨ i = 20 := by omega
  all_goals rfl
theorem pC_len (P : Nat → Int) : (pC P).toList.length = 21 := rfl
theorem pC_one (P : Nat → Int) : (pC P).all (·.oneCell') = true := by simp [pC, Value.oneCell']
/-- block g holds these parameters -/
def PBlk (w : World) (g : Nat) (P : Nat → Int) : Prop := w.heap[g]? = some (.cells (pC P) 27 (0, 0))
theorem PBlk.lt {w : World} {g : Nat} {P : Nat → Int} (h : PBlk w g P) : g < w.heap.size := (Array.getElem?_eq_some_iff.1 h).1
theorem PBlk.cell {w : World} {g : Nat} {P : Nat → Int} (h : PBlk w g P) {i : Nat} (hi : i < 21) : w.cell? ⟨g, i, none⟩ = some (.int .u64 (P i)) := by
  rw [cell_of_row w g i _ _ (0, 0) h, pC_get P i hi]
theorem PBlk.free {w : World} {g : Nat} {P : Nat → Int} (h : PBlk w g P) (i : Nat) : w.frozen? ⟨g, i, none⟩ = false := by
  unfold PBlk at h
  simp [World.frozen?, h]
theorem PBlk.range {w : World} {g : Nat} {P : Nat → Int} (h : PBlk w g P) : w.rangeAt g 0 (pC P).toList := by
  intro j v hj
  have hl : j < 21 := by
    rcases Nat.lt_or_ge j 21 with h1 | h1
    · exact h1
    · rw [List.getElem?_eq_none (by rw [pC_len]; exact h1)] at hj; cases hj
  rw [Nat.zero_add, h.cell hl, ← hj, Array.getElem?_toList, pC_get P j hl]
theorem PBlk.there {w : World} {g : Nat} {P : Nat → Int} (h : PBlk w g P) : w.there g 0 (pC P).size := by
  intro j hj
  rw [pC_size] at hj
  rw [Nat.zero_add, h.cell hj, h.free]
  exact ⟨rfl, rfl⟩
theorem PBlk.new (w : World) (P : Nat → Int) : PBlk (w.alloc (.cells (pC P) 27)) w.heap.size P := heap_alloc_new w _
theorem PBlk.below {w w' : World} {g B : Nat} {P : Nat → Int} (h : PBlk w g P) (hb : Below B w w') (hg : g < B) : PBlk w' g P := (hb.block g hg).trans h
theorem PBlk.alloc {w : World} {g : Nat} {P : Nat → Int} (h : PBlk w g P) (o : Obj) : PBlk (w.alloc o) g P := (Below.heap_alloc w o g h.lt).trans h
theorem PBlk.drewN {w : World} {g : Nat} {P : Nat → Int} (h : PBlk w g P) (n : Nat) : PBlk (w.drewN n) g P := h
theorem PBlk.drew {w : World} {g : Nat} {P : Nat → Int} (h : PBlk w g P) : PBlk w.drew g P := h
theorem heap_setC {W : World} {g i : Nat} {cs : Array Value} {t : TypeId} {fr : Nat × Nat} {v : Value} (h : W.heap[g]? = some (.cells cs t fr)) : (W.setCell ⟨g, i, none⟩ v).heap[g]? = some (.cells (cs.setIfInBounds i v) t fr) := by
  simp only [World.setCell, Array.getElem?_modify, if_true]
  rw [h]
  rfl
theorem heap_setF {W : World} {b g i : Nat} {v : Value} {o : Option Obj} (h : W.heap[g]? = o) (hn : b ≠ g) : (W.setCell ⟨b, i, none⟩ v).heap[g]? = o := by
  rw [← h]
  simp [World.setCell, Array.getElem?_modify, hn]
theorem PBlk.far {w : World} {b g i : Nat} {P : Nat → Int} (h : PBlk w g P) (hn : b ≠ g) (v : Value) : PBlk (w.setCell ⟨b, i, none⟩ v) g P := heap_setF h hn
theorem PBlk.set {w : World} {g i : Nat} {P Q : Nat → Int} (h : PBlk w g P) {v : Int} (hi : i < 21) (hQ : ∀ j, j < 21 → Q j = if j = i then v else P j) : PBlk (w.setCell ⟨g, i, none⟩ (.int .u64 v)) g Q := by
  have e : (pC P).setIfInBounds i (.int .u64 v) = pC Q := by
    apply Array.ext_getElem?
    intro j
    rcases Nat.lt_or_ge j 21 with hj | hj
    · rw [pC_get Q j hj, hQ j hj, Array.getElem?_setIfInBounds]
      by_cases hij : i = j
      · subst hij
        rw [if_pos rfl, if_pos (by rw [pC_size]; exact hi), if_pos rfl]
      · rw [if_neg hij, if_neg (fun e => hij e.symm), pC_get P j hj]
    · rw [Array.getElem?_eq_none (by rw [Array.size_setIfInBounds, pC_size]; exact hj), Array.getElem?_eq_none (by rw [pC_size]; exact hj)]
  unfold PBlk
  rw [← e]
  exact heap_setC h
/-- the whole row stored anew -/
theorem heap_setCells {g : Nat} {t : TypeId} {fr : Nat × Nat} : ∀ (vs : List Value) (o : Nat) (W : World) (cs : Array Value), W.heap[g]? = some (.cells cs t fr) → ∃ ds : Array Value, (W.setCells g o vs).heap[g]? = some (.cells ds t fr) ∧ ds.size = cs.size ∧ ∀ j, ds[j]? = if o ≤ j ∧ j < o + vs.length ∧ j < cs.size then vs[j - o]? else cs[j]?
  | [], o, W, cs, h => ⟨cs, h, rfl, fun j => by rw [if_neg (by simp; omega)]⟩
  | v :: vs, o, W, cs, h => by
    obtain ⟨ds, h1, h2, h3⟩ := heap_setCells vs (o + 1) (W.setCell ⟨g, o, none⟩ v) (cs.setIfInBounds o v) (heap_setC h)
    rw [Array.size_setIfInBounds] at h2
    refine ⟨ds, h1, h2, fun j => ?_⟩
    rw [h3, Array.size_setIfInBounds]
    simp only [List.length_cons]
    by_cases hj : o = j
    · subst hj
      by_cases hlt : o < cs.size
      · rw [if_neg (by omega), if_pos (by omega), Array.getElem?_setIfInBounds, if_pos rfl, if_pos hlt, Nat.sub_self]
        rfl
      · rw [if_neg (by omega), if_neg (by omega), Array.getElem?_setIfInBounds, if_pos rfl, if_neg hlt, Array.getElem?_eq_none (by omega)]
    · by_cases hin : o + 1 ≤ j ∧ j < o + 1 + vs.length ∧ j < cs.size
      · rw [if_pos hin, if_pos (by omega)]
        obtain ⟨k, hk⟩ : ∃ k, j - o = k + 1 := ⟨j - o - 1, by omega⟩
        rw [show j - (o + 1) = k by omega, hk]
        rfl
      · rw [if_neg hin, if_neg (by omega), Array.getElem?_setIfInBounds, if_neg hj]
theorem PBlk.put {w : World} {g : Nat} {P : Nat → Int} (h : PBlk w g P) (Q : Nat → Int) : PBlk (w.setCells g 0 (pC Q).toList) g Q := by
  obtain ⟨ds, h1, h2, h3⟩ := heap_setCells (pC Q).toList 0 w _ h
  have e : ds = pC Q := by
    apply Array.ext_getElem?
    intro j
    rw [h3, pC_len, pC_size]
    rcases Nat.lt_or_ge j 21 with hj | hj
    · rw [if_pos (by omega), Nat.sub_zero, Array.getElem?_toList]
    · rw [if_neg (by omega), Array.getElem?_eq_none (by rw [pC_size]; exact hj), Array.getElem?_eq_none (by rw [pC_size]; exact hj)]
  rw [e] at h1
  exact h1
theorem below_setCells {B g : Nat} {w : World} (hg : B ≤ g) : ∀ (vs : List Value) (o : Nat) (W : World), Below B w W → Below B w (W.setCells g o vs)
  | [], o, W, h => h
  | v :: vs, o, W, h => below_setCells hg vs (o + 1) _ (h.setCell hg v)
theorem heap_setCells_far {b g : Nat} {x : Option Obj} (hn : b ≠ g) : ∀ (vs : List Value) (o : Nat) (W : World), W.heap[g]? = x → (W.setCells b o vs).heap[g]? = x
  | [], o, W, h => h
  | v :: vs, o, W, h => heap_setCells_far hn vs (o + 1) _ (heap_setF h hn)
theorem PBlk.putFar {w : World} {b g : Nat} {P : Nat → Int} (h : PBlk w g P) (hn : b ≠ g) (vs : List Value) : PBlk (w.setCells b 0 vs) g P := heap_setCells_far hn vs 0 w h
/-- a result that lies in a row of cells -/
theorem results_row1 {fn : Func} {s : Tmp} {ty : TypeId} {g : Nat} {w : World} {P : Nat → Int} {tmps : Array Value} (h : fn.results = #[.cell s ty]) (hs : tmps.getD s undef = .pointer (some ⟨g, 0, none⟩)) (hb : PBlk w g P) (hu : ∃ d, Try.prog.underlying ty = some d ∧ d.isRow = true) (hi : (Try.prog.info? ty).map (·.size) = some 21) :
    (results fn tmps).run Try.prog w = .ok (.agg (pC P)) w := by
  obtain ⟨d, h1, h2⟩ := hu
  have hr := run_loadVar_mid (P := Try.prog) w g 0 ty (pC P).toList d hb.range h1 h2 (by rw [hi, pC_len])
  rw [Array.toArray_toList] at hr
  have hs' : tmps[s]?.getD undef = .pointer (some ⟨g, 0, none⟩) := by simpa using hs
  simp [results, h, hs', hr, asAddr, Result.andThen]
theorem results_row2 {fn : Func} {s u : Tmp} {ty : TypeId} {g : Nat} {w : World} {P : Nat → Int} {tmps : Array Value} (h : fn.results = #[.cell s ty, .tmp u]) (hs : tmps.getD s undef = .pointer (some ⟨g, 0, none⟩)) (hb : PBlk w g P) (hu : ∃ d, Try.prog.underlying ty = some d ∧ d.isRow = true) (hi : (Try.prog.info? ty).map (·.size) = some 21) :
    (results fn tmps).run Try.prog w = .ok (.tuple #[.agg (pC P), tmps.getD u undef]) w := by
  obtain ⟨d, h1, h2⟩ := hu
  have hr := run_loadVar_mid (P := Try.prog) w g 0 ty (pC P).toList d hb.range h1 h2 (by rw [hi, pC_len])
  rw [Array.toArray_toList] at hr
  have hs' : tmps[s]?.getD undef = .pointer (some ⟨g, 0, none⟩) := by simpa using hs
  simp [results, h, hs', hr, asAddr, Result.andThen]
theorem isRowP : ∃ d, Try.prog.underlying 27 = some d ∧ d.isRow = true := ⟨_, Try.underlying27, rfl⟩
theorem sizeP : (Try.prog.info? 27).map (·.size) = some 21 := by kernel_rfl
theorem getP_c (P : Nat → Int) (k : Int) (w : World) : Calls Try.prog 42 #[.agg (pC P), .int .i64 k] w fun e w' => e = .returned (.tuple #[.agg #[.int .u64 (getL P k 0), .int .u64 (getL P k 1), .int .u64 (getL P k 2), .int .u64 (getL P k 3)], .int .i64 (getE k)]) ∧ Below w.heap.size w w' := get_c P k w
theorem fiP_c (P : Nat → Int) (hP : PW P) (w : World) : Calls Try.prog 27 #[.agg (pC P)] w fun e w' => e = .returned (.int .i64 (fiV P)) ∧ Below w.heap.size w w' := fi_c P hP w
theorem validP_c (P : Nat → Int) (hP : PW P) (w : World) : Calls Try.prog 19 #[.agg (pC P)] w fun e w' => e = .returned (.bool (fiV P == 0)) ∧ Below w.heap.size w w' := valid_c P hP w
set_option maxHeartbeats 4000000 in
theorem genesis_c (w : World) : Calls Try.prog 14 #[] w fun e w' => e = .returned (.agg (pC Gen)) ∧ Below w.heap.size w w' := by
  have HZ := hide (PBlk.new w (fun _ => 0))
  go_enter Try.func14, Try.ntmps14
  go_wp2_with fail
  refine (from_c _ _).mono ?_
  rintro e w1 ⟨rfl, hb1⟩
  have hs1 := hb1.size
  simp only [World.size_alloc] at hs1
  have HZ1 := hide (HZ.out.below hb1 HZ.out.lt)
  go_wp2_with fail
  refine (from_c _ _).mono ?_
  rintro e w2 ⟨rfl, hb2⟩
  have hs2 := hb2.size
  have HZ2 := hide (HZ1.out.below hb2 HZ1.out.lt)
  go_wp2_with fail
  refine (from_c _ _).mono ?_
  rintro e w3 ⟨rfl, hb3⟩
  have hs3 := hb3.size
  have HZ3 := hide (HZ2.out.below hb3 HZ2.out.lt)
  have hB3 : Below w.heap.size w w3 := (by (repeat' (first | (with_reducible exact Below.refl _ _) | (with_reducible assumption) | (with_reducible refine Below.alloc ?_ ?_ _) | (with_reducible refine Below.drew ?_) | (with_reducible refine below_drewN ?_ _) | (with_reducible refine Below.setCell ?_ ?_ _) | (with_reducible refine below_step (by with_reducible assumption) ?_ ?_) | (first | (with_reducible exact Nat.le_refl _) | (with_reducible assumption) | omega | (simp only [World.size_alloc, World.size_setCell, World.size_drew, size_drewN]; omega) | (simp; omega) | (simp; done)))))
  clear HZ HZ1 HZ2 hb1 hb2 hb3 hs1 hs2 hs3
  replace hB3 := hide hB3
  go_wp2_with (refine wpList_store_mid rfl 27 (.tmp 0) (.tmp 4) rfl w.heap.size 0 (pC Gen) rfl rfl HZ3.out.there sizeP (pC_one _) ?_; obtain ⟨w4, hw4⟩ : ∃ w4, w3.setCells w.heap.size 0 (pC Gen).toList = w4 := ⟨_, rfl⟩; rw [hw4])
  have HG : PBlk w4 w.heap.size Gen := by rw [← hw4]; exact HZ3.out.put Gen
  have hB4 : Below w.heap.size w w4 := by rw [← hw4]; exact below_setCells (Nat.le_refl _) _ _ _ hB3.out
  exact bodyPost_ret (results_row1 rfl rfl HG isRowP sizeP) rfl ⟨rfl, hB4⟩
end Go.Proofs.Ytkneiobohhhcpaa
