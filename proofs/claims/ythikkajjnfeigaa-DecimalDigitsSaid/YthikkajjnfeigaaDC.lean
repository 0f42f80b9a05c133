/- isCanonical, IsCanonical, walked. -/
import Derived.WalkKit
import Derived.KernelRfl
import Derived.RowKit3
import Derived.Deep.LoopGhost
import Derived.Deep.QuietTactic
import Derived.BigQuiet
import Derived.WideLaws
import Derived.Laws.Rows
import Derived.Below
import Derived.Deep.Draws
import Derived.Outline
import Derived.LoopN
import Derived.Handy
import Derived.Laws.Externs
import Derived.Laws.BitsAllLaws
import Derived.Laws.BitsLemmas
import Derived.Deep.DeepCutAuto
import Derived.Deep.CutBlock
import Derived.Deep.RegionHeld3
import Derived.Test.YthikkajjnfeigaaDP
import Derived.Test.YthikkajjnfeigaaProg
import Derived.WalkLawsBesides
import Derived.WalkSpells
namespace Go.Proofs.Ythikkajjnfeigaa
open Go.RowKit
set_option linter.unusedVariables false
set_option linter.unusedSimpArgs false
def digB (c : UInt8) : Bool := decide (48 ≤ c.toNat ∧ c.toNat ≤ 57)
def canB (l : List UInt8) : Bool := !l.isEmpty && (decide (l.length ≤ 1) || l.head? != some 48) && l.all digB
theorem canB_iff {l : List UInt8} : canB l = true ↔ Canon l := by
  unfold canB
  simp only [Bool.and_eq_true, Bool.or_eq_true, Bool.not_eq_true', List.isEmpty_eq_false_iff, decide_eq_true_eq, bne_iff_ne, List.all_eq_true]
  constructor
  · rintro ⟨⟨h1, h2⟩, h3⟩
    exact ⟨h1, fun c hc => by have := h3 c hc; simpa [digB] using this, fun h => h2.resolve_left (by omega)⟩
  · rintro ⟨h1, h2, h3⟩
    refine ⟨⟨h1, ?_⟩, fun c hc => by have := h2 c hc; simpa [digB] using this⟩
    rcases Nat.lt_or_ge 1 l.length with h | h
    · exact .inr (h3 h)
    · exact .inl h
theorem all_take {l : List UInt8} {K : Nat} (h : ∀ j (hj : j < l.length), j < K → digB l[j] = true) (hK : l.length ≤ K) : l.all digB = true := by
  rw [List.all_eq_true]
  intro c hc
  obtain ⟨j, hj, rfl⟩ := List.getElem_of_mem hc
  exact h j hj (by omega)
theorem all_bad {l : List UInt8} {K : Nat} (hK : K < l.length) (h : digB l[K] = false) : l.all digB = false := by
  rw [List.all_eq_false]
  exact ⟨_, List.getElem_mem hK, by simpa using h⟩
theorem toList_data (s : ByteArray) : s.toList = s.data.toList := ByteArray.toList_eq s
theorem canB_top {l : List UInt8} (h : 1 < l.length) (hh : l.head? = some 48) : canB l = false := by
  rw [Bool.eq_false_iff]
  intro hc
  exact (canB_iff.1 hc).top h hh
theorem canB_rest {l : List UInt8} (h : l ≠ []) (hh : 1 < l.length → l.head? ≠ some 48) : canB l = l.all digB := by
  unfold canB
  have h1 : l.isEmpty = false := List.isEmpty_eq_false_iff.2 h
  have h2 : (decide (l.length ≤ 1) || l.head? != some 48) = true := by
    rw [Bool.or_eq_true, decide_eq_true_eq, bne_iff_ne]
    rcases Nat.lt_or_ge 1 l.length with h | h
    · exact .inr (hh h)
    · exact .inl h
  rw [h1, h2]
  rfl
set_option maxHeartbeats 4000000 in
theorem isc_c (s : ByteArray) (hs : s.size ≤ 1000000) (w : World) :
    Calls Try.prog 21 #[.string s] w fun e w' => e = .returned (.bool (canB s.data.toList)) ∧ w = w' := by
  have hlen : s.data.toList.length = s.size := rfl
  by_cases h0 : s.size = 0
  · have hl : s.data.toList = [] := List.eq_nil_of_length_eq_zero h0
    have he : s.toList = [] := by rw [toList_data, hl]
    have he2 : s.toList.isEmpty = true := by rw [he]; rfl
    have hz : ((s.size : Int) == 0) = true := by rw [beq_iff_eq]; omega
    rw [hl]
    clear hlen hl h0
    go_enter Try.func21, Try.ntmps21
    go_wp2
    go_ret
    exact ⟨rfl, rfl⟩
  · have hpos : 0 < s.size := by omega
    have hl : s.data.toList ≠ [] := fun e => by rw [e] at hlen; simp at hlen; omega
    have he : ¬ s.toList = [] := by rw [toList_data]; exact hl
    have he2 : s.toList.isEmpty = false := by rw [List.isEmpty_eq_false_iff]; exact he
    have hz : ((s.size : Int) == 0) = false := by rw [beq_eq_false_iff_ne]; omega
    have hp : (0 : Int) < (s.size : Int) := by omega
    by_cases h1 : 1 < s.size ∧ s[0].toNat = 48
    · have hi : (1 : Int) < (s.size : Int) := by omega
      have h3 : ((s[0].toNat : Int) == 48) = true := by rw [beq_iff_eq]; omega
      have hR := hide (show Ending.returned (.bool false) = .returned (.bool (canB s.data.toList)) by
        rw [canB_top h1.1 (show s.data.toList.head? = some 48 by
          rw [List.head?_eq_getElem?, List.getElem?_eq_getElem (show 0 < s.data.toList.length from hpos)]
          congr 1
          apply UInt8.toNat_inj.1
          exact h1.2)])
      clear hlen h1 h0 hl
      go_enter Try.func21, Try.ntmps21
      go_wp2
      go_ret
      exact ⟨hR.out, rfl⟩
    · have hC := hide (show canB s.data.toList = s.data.toList.all digB from canB_rest hl (fun h e => h1 ⟨h, by
          rw [List.head?_eq_getElem?, List.getElem?_eq_getElem (show 0 < s.data.toList.length from hpos)] at e
          have e2 : s[0] = 48 := by
            have e3 : s.data[0] = 48 := by simpa using e
            exact e3
          rw [e2]
          rfl⟩))
      have hcase : (1 : Int) < (s.size : Int) ∧ ((s[0].toNat : Int) == 48) = false ∨ (s.size : Int) ≤ 1 := by
        rcases Nat.lt_or_ge 1 s.size with h | h
        · exact .inl ⟨by omega, by rw [beq_eq_false_iff_ne]; intro e; exact h1 ⟨h, by omega⟩⟩
        · exact .inr (by omega)
      clear h1 h0 hl
      rcases hcase with ⟨hi, h3⟩ | hi
      all_goals
        go_enter Try.func21, Try.ntmps21
        go_wp2_with fail
        go_loop [18] (fun v => ∃ K : Nat, K ≤ s.size ∧ v = .int .i64 K ∧ Hid (∀ j (hj : j < s.data.toList.length), j < K → digB s.data.toList[j] = true)) (fun v => s.size - (intOf v).toNat)
        case atStart => exact ⟨0, by omega, rfl, hide (fun j _ h => absurd h (by omega))⟩
        case round =>
          obtain ⟨K, hK, rfl, HI⟩ := hrel
          rcases Nat.lt_or_ge K s.size with hlt | hge
          · have hk1 : (K : Int) < (s.size : Int) := by omega
            have hk0 : (0 : Int) ≤ (K : Int) := by omega
            by_cases hd : 48 ≤ s[K].toNat ∧ s[K].toNat ≤ 57
            · obtain ⟨d1, d2⟩ := hd
              have d1' : (48 : Int) ≤ (s[K].toNat : Int) := by omega
              have d2' : (s[K].toNat : Int) ≤ 57 := by omega
              have HI' := hide (show ∀ j (hj : j < s.data.toList.length), j < K + 1 → digB s.data.toList[j] = true from fun j hj h => by
                by_cases e : j = K
                · subst e
                  exact decide_eq_true (show 48 ≤ s[j].toNat ∧ s[j].toNat ≤ 57 from ⟨d1, d2⟩)
                · exact HI.out j hj (by omega))
              clear d1 d2 HI
              go_wp2
              go_round
              case rel => exact ⟨K + 1, by omega, by go_num, HI'⟩
              case measure => simp [intOf]; omega
            · have hR := hide (show Ending.returned (.bool false) = .returned (.bool (canB s.data.toList)) by
                rw [hC.out, all_bad (K := K) hlt (decide_eq_false (show ¬ (48 ≤ s[K].toNat ∧ s[K].toNat ≤ 57) from hd))])
              have hcc : (s[K].toNat : Int) < 48 ∨ (48 : Int) ≤ (s[K].toNat : Int) ∧ (57 : Int) < (s[K].toNat : Int) := by omega
              clear hd HI
              rcases hcc with d1 | ⟨d1, d2⟩
              all_goals
                go_wp2
                go_ret
                exact ⟨hR.out, rfl⟩
          · have hR := hide (show Ending.returned (.bool true) = .returned (.bool (canB s.data.toList)) by
              rw [hC.out, all_take HI.out hge])
            have hk1 : ¬ (K : Int) < (s.size : Int) := by omega
            have hk2 : (s.size : Int) ≤ (K : Int) := by omega
            clear HI
            go_wp2
            go_ret
            exact ⟨hR.out, rfl⟩
set_option maxHeartbeats 4000000 in
theorem risc_c (s : ByteArray) (hs : s.size ≤ 1000000) (w : World) :
    Calls Try.prog 25 #[.string s] w fun e w' => e = .returned (.bool (canB s.data.toList)) ∧ w = w' := by
  have hlen : s.data.toList.length = s.size := rfl
  by_cases h0 : s.size = 0
  · have hl : s.data.toList = [] := List.eq_nil_of_length_eq_zero h0
    have he : s.toList = [] := by rw [toList_data, hl]
    have he2 : s.toList.isEmpty = true := by rw [he]; rfl
    have hz : ((s.size : Int) == 0) = true := by rw [beq_iff_eq]; omega
    rw [hl]
    clear hlen hl h0
    go_enter Try.func25, Try.ntmps25
    go_wp2
    go_ret
    exact ⟨rfl, rfl⟩
  · have hpos : 0 < s.size := by omega
    have hl : s.data.toList ≠ [] := fun e => by rw [e] at hlen; simp at hlen; omega
    have he : ¬ s.toList = [] := by rw [toList_data]; exact hl
    have he2 : s.toList.isEmpty = false := by rw [List.isEmpty_eq_false_iff]; exact he
    have hz : ((s.size : Int) == 0) = false := by rw [beq_eq_false_iff_ne]; omega
    have hp : (0 : Int) < (s.size : Int) := by omega
    by_cases h1 : 1 < s.size ∧ s[0].toNat = 48
    · have hi : (1 : Int) < (s.size : Int) := by omega
      have h3 : ((s[0].toNat : Int) == 48) = true := by rw [beq_iff_eq]; omega
      have hR := hide (show Ending.returned (.bool false) = .returned (.bool (canB s.data.toList)) by
        rw [canB_top h1.1 (show s.data.toList.head? = some 48 by
          rw [List.head?_eq_getElem?, List.getElem?_eq_getElem (show 0 < s.data.toList.length from hpos)]
          congr 1
          apply UInt8.toNat_inj.1
          exact h1.2)])
      clear hlen h1 h0 hl
      go_enter Try.func25, Try.ntmps25
      go_wp2
      go_ret
      exact ⟨hR.out, rfl⟩
    · have hC := hide (show canB s.data.toList = s.data.toList.all digB from canB_rest hl (fun h e => h1 ⟨h, by
          rw [List.head?_eq_getElem?, List.getElem?_eq_getElem (show 0 < s.data.toList.length from hpos)] at e
          have e2 : s[0] = 48 := by
            have e3 : s.data[0] = 48 := by simpa using e
            exact e3
          rw [e2]
          rfl⟩))
      have hcase : (1 : Int) < (s.size : Int) ∧ ((s[0].toNat : Int) == 48) = false ∨ (s.size : Int) ≤ 1 := by
        rcases Nat.lt_or_ge 1 s.size with h | h
        · exact .inl ⟨by omega, by rw [beq_eq_false_iff_ne]; intro e; exact h1 ⟨h, by omega⟩⟩
        · exact .inr (by omega)
      clear h1 h0 hl
      rcases hcase with ⟨hi, h3⟩ | hi
      all_goals
        go_enter Try.func25, Try.ntmps25
        go_wp2_with fail
        go_loop [3] (fun v => ∃ K : Nat, K ≤ s.size ∧ v = .int .i64 K ∧ Hid (∀ j (hj : j < s.data.toList.length), j < K → digB s.data.toList[j] = true)) (fun v => s.size - (intOf v).toNat)
        case atStart => exact ⟨0, by omega, rfl, hide (fun j _ h => absurd h (by omega))⟩
        case round =>
          obtain ⟨K, hK, rfl, HI⟩ := hrel
          rcases Nat.lt_or_ge K s.size with hlt | hge
          · have hk1 : (K : Int) < (s.size : Int) := by omega
            have hk0 : (0 : Int) ≤ (K : Int) := by omega
            by_cases hd : 48 ≤ s[K].toNat ∧ s[K].toNat ≤ 57
            · obtain ⟨d1, d2⟩ := hd
              have d1' : (48 : Int) ≤ (s[K].toNat : Int) := by omega
              have d2' : (s[K].toNat : Int) ≤ 57 := by omega
              have HI' := hide (show ∀ j (hj : j < s.data.toList.length), j < K + 1 → digB s.data.toList[j] = true from fun j hj h => by
                by_cases e : j = K
                · subst e
                  exact decide_eq_true (show 48 ≤ s[j].toNat ∧ s[j].toNat ≤ 57 from ⟨d1, d2⟩)
                · exact HI.out j hj (by omega))
              clear d1 d2 HI
              go_wp2
              go_round
              case rel => exact ⟨K + 1, by omega, by go_num, HI'⟩
              case measure => simp [intOf]; omega
            · have hR := hide (show Ending.returned (.bool false) = .returned (.bool (canB s.data.toList)) by
                rw [hC.out, all_bad (K := K) hlt (decide_eq_false (show ¬ (48 ≤ s[K].toNat ∧ s[K].toNat ≤ 57) from hd))])
              have hcc : (s[K].toNat : Int) < 48 ∨ (48 : Int) ≤ (s[K].toNat : Int) ∧ (57 : Int) < (s[K].toNat : Int) := by omega
              clear hd HI
              rcases hcc with d1 | ⟨d1, d2⟩
              all_goals
                go_wp2
                go_ret
                exact ⟨hR.out, rfl⟩
          · have hR := hide (show Ending.returned (.bool true) = .returned (.bool (canB s.data.toList)) by
              rw [hC.out, all_take HI.out hge])
            have hk1 : ¬ (K : Int) < (s.size : Int) := by omega
            have hk2 : (s.size : Int) ≤ (K : Int) := by omega
            clear HI
            go_wp2
            go_ret
            exact ⟨hR.out, rfl⟩
end Go.Proofs.Ythikkajjnfeigaa
