/- pontageref12.Set. -/
import Derived.WalkKit
import Derived.KernelRfl
import Derived.RowKit3
import Derived.Deep.LoopGhost
import Derived.Deep.QuietTactic
import Derived.BigQuiet
import Derived.WideLaws
import Derived.Laws.Rows
import Derived.Below
import Derived.Deep.Draws
import Derived.Outline
import Derived.LoopN
import Derived.Handy
import Derived.Laws.Externs
import Derived.Laws.BitsAllLaws
import Derived.Laws.BitsLemmas
import Derived.Deep.DeepCutAuto
import Derived.Deep.CutBlock
import Derived.Deep.RegionHeld3
import Derived.Test.YtbnpgecpanfpiaaPE
import Derived.Test.YtbnpgecpanfpiaaPR
import Derived.Test.YtbnpgecpanfpiaaP8
import Derived.Test.YtbnpgecpanfpiaaN
namespace Go.Proofs.Ytbnpgecpanfpiaa
open Go.RowKit
set_option linter.unusedVariables false
set_option linter.unusedSimpArgs false
theorem allC_size (P : Nat → Int) : (allC P).size = 48 := rfl
def lC (q : Nat → Nat → Int) : Array Value := #[.int .u64 (q 0 0), .int .u64 (q 0 1), .int .u64 (q 0 2), .int .u64 (q 0 3), .int .u64 (q 1 0), .int .u64 (q 1 1), .int .u64 (q 1 2), .int .u64 (q 1 3), .int .u64 (q 2 0), .int .u64 (q 2 1), .int .u64 (q 2 2), .int .u64 (q 2 3), .int .u64 (q 3 0), .int .u64 (q 3 1), .int .u64 (q 3 2), .int .u64 (q 3 3), .int .u64 (q 4 0), .int .u64 (q 4 1), .int .u64 (q 4 2), .int .u64 (q 4 3), .int .u64 (q 5 0), .int .u64 (q 5 1), .int .u64 (q 5 2), .int .u64 (q 5 3), .int .u64 (q 6 0), .int .u64 (q 6 1), .int .u64 (q 6 2), .int .u64 (q 6 3), .int .u64 (q 7 0), .int .u64 (q 7 1), .int .u64 (q 7 2), .int .u64 (q 7 3), .int .u64 (q 8 0), .int .u64 (q 8 1), .int .u64 (q 8 2), .int .u64 (q 8 3), .int .u64 (q 9 0), .int .u64 (q 9 1), .int .u64 (q 9 2), .int .u64 (q 9 3), .int .u64 (q 10 0), .int .u64 (q 10 1), .int .u64 (q 10 2), .int .u64 (q 10 3), .int .u64 (q 11 0), .int .u64 (q 11 1), .int .u64 (q 11 2), .int .u64 (q 11 3)]
theorem cases12 {K : Nat} (h : K < 12) : K = 0 ∨ K = 1 ∨ K = 2 ∨ K = 3 ∨ K = 4 ∨ K = 5 ∨ K = 6 ∨ K = 7 ∨ K = 8 ∨ K = 9 ∨ K = 10 ∨ K = 11 := by omega
theorem lC_row (q : Nat → Nat → Int) {I : Nat} (h : I < 12) : ((lC q).toList.drop (I * 4)).take [Value.int .u64 (q I 0), .int .u64 (q I 1), .int .u64 (q I 2), .int .u64 (q I 3)].length = [.int .u64 (q I 0), .int .u64 (q I 1), .int .u64 (q I 2), .int .u64 (q I 3)] := by
  rcases cases12 h with rfl | rfl | rfl | rfl | rfl | rfl | rfl | rfl | rfl | rfl | rfl | rfl <;> rfl
def putQ (P : Nat → Int) (n : Nat → Int) (K : Nat) : Nat → Nat → Int := fun i j => if i = K then n j else getL P ((i : Int) + 1) j
theorem lC_put (P n : Nat → Int) {K : Nat} (h : K < 12) : splice (allC P) (K * 4) (#[.int .u64 (n 0), .int .u64 (n 1), .int .u64 (n 2), .int .u64 (n 3)]).toList = lC (putQ P n K) := by
  rcases cases12 h with rfl | rfl | rfl | rfl | rfl | rfl | rfl | rfl | rfl | rfl | rfl | rfl <;> rfl
theorem q_eq {P n : Nat → Int} {K : Nat} {q : Nat → Nat → Int} (hq : lC (putQ P n K) = lC q) : ∀ i j, i < 12 → j < 4 → q i j = putQ P n K i j := by
  intro i j hi hj
  have h1 := congrArg (fun l => l[i * 4 + j]?) hq
  rcases cases12 hi with rfl | rfl | rfl | rfl | rfl | rfl | rfl | rfl | rfl | rfl | rfl | rfl <;> (obtain rfl | rfl | rfl | rfl : j = 0 ∨ j = 1 ∨ j = 2 ∨ j = 3 := by omega) <;> (simp [lC] at h1; exact h1.symm)
theorem qP {P n : Nat → Int} {K : Nat} (h : K < 12) {q : Nat → Nat → Int} (hq : lC (putQ P n K) = lC q) : (#[.int .u64 (q 0 0), .int .u64 (q 1 0), .int .u64 (q 2 0), .int .u64 (q 3 0), .int .u64 (q 3 1), .int .u64 (q 3 2), .int .u64 (q 3 3), .int .u64 (q 4 0), .int .u64 (q 5 0), .int .u64 (q 5 1), .int .u64 (q 5 2), .int .u64 (q 5 3), .int .u64 (q 6 0), .int .u64 (q 7 0), .int .u64 (q 7 1), .int .u64 (q 7 2), .int .u64 (q 7 3), .int .u64 (q 8 0), .int .u64 (q 9 0), .int .u64 (q 10 0), .int .u64 (q 11 0)] : Array Value) = pC (setP P ((K : Int) + 1) n) := by
  have e := q_eq hq
  rw [e 0 0 (by omega) (by omega), e 1 0 (by omega) (by omega), e 2 0 (by omega) (by omega), e 3 0 (by omega) (by omega), e 3 1 (by omega) (by omega), e 3 2 (by omega) (by omega), e 3 3 (by omega) (by omega), e 4 0 (by omega) (by omega), e 5 0 (by omega) (by omega), e 5 1 (by omega) (by omega), e 5 2 (by omega) (by omega), e 5 3 (by omega) (by omega), e 6 0 (by omega) (by omega), e 7 0 (by omega) (by omega), e 7 1 (by omega) (by omega), e 7 2 (by omega) (by omega), e 7 3 (by omega) (by omega), e 8 0 (by omega) (by omega), e 9 0 (by omega) (by omega), e 10 0 (by omega) (by omega), e 11 0 (by omega) (by omega)]
  rcases cases12 h with rfl | rfl | rfl | rfl | rfl | rfl | rfl | rfl | rfl | rfl | rfl | rfl <;> rfl
/-- parameters that are valid fit 64 bits each -/
theorem getL_fits {P : Nat → Int} (hP : PW P) (h : fiV P = 0) {i : Nat} (hi : i < 12) : fits (getL P ((i : Int) + 1) 1) (getL P ((i : Int) + 1) 2) (getL P ((i : Int) + 1) 3) := by
  have ho := fi_zero.1 h ((i : Int) + 1) (by omega) (by omega)
  have hb := (bndM_w ((i : Int) + 1)).2
  unfold okP at ho
  exact valL_small (getL_w hP _) (by unfold getN at ho; omega)
theorem ru_z0 : (Try.prog.info? 26).map (fun i => (i.zero, i.size)) = some (some (.agg #[.int .u64 0, .int .u64 0, .int .u64 0, .int .u64 0, .int .u64 0, .int .u64 0, .int .u64 0, .int .u64 0, .int .u64 0, .int .u64 0, .int .u64 0, .int .u64 0, .int .u64 0, .int .u64 0, .int .u64 0, .int .u64 0, .int .u64 0, .int .u64 0, .int .u64 0, .int .u64 0, .int .u64 0]), 21) := by kernel_rfl
theorem ru_s1 : (Try.prog.info? 26).map (·.size) = some 21 := by kernel_rfl
theorem ru_z2 : (Try.prog.info? 54).map (fun i => (i.zero, i.size)) = some (some (.agg #[.int .u64 0, .int .u64 0, .int .u64 0, .int .u64 0, .int .u64 0, .int .u64 0, .int .u64 0, .int .u64 0, .int .u64 0, .int .u64 0, .int .u64 0, .int .u64 0, .int .u64 0, .int .u64 0, .int .u64 0, .int .u64 0, .int .u64 0, .int .u64 0, .int .u64 0, .int .u64 0, .int .u64 0, .int .u64 0, .int .u64 0, .int .u64 0, .int .u64 0, .int .u64 0, .int .u64 0, .int .u64 0, .int .u64 0, .int .u64 0, .int .u64 0, .int .u64 0, .int .u64 0, .int .u64 0, .int .u64 0, .int .u64 0, .int .u64 0, .int .u64 0, .int .u64 0, .int .u64 0, .int .u64 0, .int .u64 0, .int .u64 0, .int .u64 0, .int .u64 0, .int .u64 0, .int .u64 0, .int .u64 0]), 48) := by kernel_rfl
theorem ru_s3 : (Try.prog.info? 54).map (·.size) = some 48 := by kernel_rfl
theorem ru_s4 : (Try.prog.info? 24).map (·.size) = some 4 := by kernel_rfl
set_option maxRecDepth 20000 in
set_option maxHeartbeats 16000000 in
theorem rset_c (P : Nat → Int) (hP : PW P) (n : Nat → Int) (hn : ∀ j, 0 ≤ n j ∧ n j < 18446744073709551616) (k : Int) (w : World) :
    Calls Try.prog 20 #[.agg (pC P), .int .i64 k, .agg #[.int .u64 (n 0), .int .u64 (n 1), .int .u64 (n 2), .int .u64 (n 3)]] w fun e w' => e = .returned (.tuple #[.agg (pC (setR P k n)), .int .i64 (setE P k n)]) ∧ Below w.heap.size w w' := by
  by_cases hk : 1 ≤ k ∧ k ≤ 12
  · obtain ⟨K, rfl⟩ : ∃ K : Nat, k = (K : Int) + 1 := ⟨(k - 1).toNat, by omega⟩
    have hK : K < 12 := by omega
    have hK0 : (0 : Int) ≤ (K : Int) := by omega
    have hK2 : (K : Int) < 12 := by omega
    have HV1 := fun w => rvalid_c P hP w
    have HV2 := fun w => rvalid_c (setP P ((K : Int) + 1) n) (setP_w hP hn _) w
    by_cases h1 : fiV P = 0
    · have tv : (fiV P == 0) = true := by simpa using h1
      rw [tv] at HV1
      replace HV1 := hide HV1
      have HNF : ¬ fits (n 1) (n 2) (n 3) → setE P ((K : Int) + 1) n = 15 := fun hf => by
        by_cases h3 : f256 ((K : Int) + 1) = none
        · exact setE_bad hk (.inr ⟨h3, fun hh => hf (valL_small hn hh)⟩)
        · refine setE_bad2 hk (by rintro (h | h); exact h h1; exact h3 h.1) (fun hz => ?_)
          have hf2 := getL_fits (setP_w hP hn ((K : Int) + 1)) hz hK
          obtain ⟨g0, g1, g2, g3⟩ := get_same (P := P) (n := n) hk.1 hk.2 (fun h => absurd h h3)
          rw [g1, g2, g3] at hf2
          exact hf hf2
      have HOK : fits (n 1) (n 2) (n 3) → ¬ (fiV P ≠ 0 ∨ (f256 ((K : Int) + 1) = none ∧ ¬ valL n < 18446744073709551616)) := fun hf => by
        rintro (h | h)
        · exact h h1
        · refine h.2 ?_
          have := hn 0
          obtain ⟨f1, f2, f3⟩ := hf
          unfold valL
          rw [f1, f2, f3]
          omega
      obtain ⟨q, hq⟩ : ∃ q, lC (putQ P n K) = lC q := ⟨_, rfl⟩
      replace hq := hide hq
      replace HNF := hide HNF
      replace HOK := hide HOK
      replace h1 := hide h1
      clear tv
      go_enter Try.func20, Try.ntmps20
      go_wp2_with (first | (refine n_box (by rfl) (T := 26) (x := (.tmp 0)) rfl (v := .agg (pC P)) rfl (ds := pC P) rfl ?_; intro w1 Hb3 hbn; have HB := hide hbn; clear hbn; replace Hb3 := hide Hb3) | (refine n_box (by rfl) (T := 24) (x := (.tmp 2)) rfl (v := .agg (#[.int .u64 (n 0), .int .u64 (n 1), .int .u64 (n 2), .int .u64 (n 3)])) rfl (ds := #[.int .u64 (n 0), .int .u64 (n 1), .int .u64 (n 2), .int .u64 (n 3)]) rfl ?_; intro w2 Hb5 hbn; have hsz_w1 := HB.out.size; have lt_b3_b5 := Hb3.out.lt; replace HB := hide (HB.out.trans (hbn.mono HB.out.size)); replace Hb3 := hide (Hb3.out.below hbn Hb3.out.lt); clear hbn; replace Hb5 := hide Hb5) | (refine n_alloc (by rfl) (T := 26) rfl ru_z0 (ds := pC fun _ => 0) rfl ?_; intro w3 Hb6 hbn; have hsz_w2 := HB.out.size; have lt_b3_b6 := Hb3.out.lt; have lt_b5_b6 := Hb5.out.lt; replace HB := hide (HB.out.trans (hbn.mono HB.out.size)); replace Hb3 := hide (Hb3.out.below hbn Hb3.out.lt); replace Hb5 := hide (Hb5.out.below hbn Hb5.out.lt); clear hbn; replace Hb6 := hide Hb6) | (refine n_loadw (by rfl) (T := 26) (x := (.tmp 3)) rfl (g := w.heap.size) rfl Hb3.out Try.underlying26 rfl ru_s1 ?_))
      refine (HV1.out _).mono ?_
      rintro e w4 ⟨rfl, hbc⟩
      replace HB := hide (HB.out.trans (hbc.mono HB.out.size))
      replace Hb3 := hide (Hb3.out.below hbc Hb3.out.lt)
      replace Hb5 := hide (Hb5.out.below hbc Hb5.out.lt)
      replace Hb6 := hide (Hb6.out.below hbc Hb6.out.lt)
      clear hbc
      go_wp2_with (first | (refine n_loadw (by rfl) (T := 26) (x := (.tmp 3)) rfl (g := w.heap.size) rfl Hb3.out Try.underlying26 rfl ru_s1 ?_))
      refine (rall_c P _).mono ?_
      rintro e w5 ⟨rfl, hbc⟩
      replace HB := hide (HB.out.trans (hbc.mono HB.out.size))
      replace Hb3 := hide (Hb3.out.below hbc Hb3.out.lt)
      replace Hb5 := hide (Hb5.out.below hbc Hb5.out.lt)
      replace Hb6 := hide (Hb6.out.below hbc Hb6.out.lt)
      clear hbc
      go_wp2_with (first | (refine n_alloc (by rfl) (T := 54) rfl ru_z2 (ds := Z48) rfl ?_; intro w6 Hb8 hbn; have hsz_w5 := HB.out.size; have lt_b3_b8 := Hb3.out.lt; have lt_b5_b8 := Hb5.out.lt; have lt_b6_b8 := Hb6.out.lt; replace HB := hide (HB.out.trans (hbn.mono HB.out.size)); replace Hb3 := hide (Hb3.out.below hbn Hb3.out.lt); replace Hb5 := hide (Hb5.out.below hbn Hb5.out.lt); replace Hb6 := hide (Hb6.out.below hbn Hb6.out.lt); clear hbn; replace Hb8 := hide Hb8) | (refine n_storew (by rfl) (T := 54) (x := (.tmp 8)) (y := (.tmp 25)) rfl (g := w5.heap.size) rfl (vs := allC P) rfl (by first | exact pC_one _ | exact allC_one _ | (simp [Value.oneCell']; done)) Hb8.out rfl ru_s3 ?_; clear Hb8; intro w7 Hb8 hun; replace Hb8 := hide Hb8; replace HB := hide (hun.keep w.heap.size w (by omega) HB.out); replace Hb3 := hide (Hb3.out.upd hun (by omega)); replace Hb5 := hide (Hb5.out.upd hun (by omega)); replace Hb6 := hide (Hb6.out.upd hun (by omega)); clear hun) | (refine n_loadw (by rfl) (T := 24) (x := (.tmp 5)) rfl (g := w1.heap.size) rfl Hb5.out Try.underlying24 rfl ru_s4 ?_) | (refine n_stores (by rfl) (T := 24) (x := (.tmp 29)) (y := (.tmp 28)) rfl (g := w5.heap.size) (o := K * 4) rfl (vs := #[.int .u64 (n 0), .int .u64 (n 1), .int .u64 (n 2), .int .u64 (n 3)]) rfl (by first | exact pC_one _ | exact allC_one _ | (simp [Value.oneCell']; done)) Hb8.out (by rw [allC_size]; simp; omega) ru_s4 ?_; clear Hb8; intro w8 Hb8 hun; (try simp only [splice, List.take_succ_cons, List.take_zero, List.drop_succ_cons, List.drop_zero, List.cons_append, List.nil_append, List.append_nil, List.length_cons, List.length_nil, List.setIfInBounds_toArray, List.set_cons_succ, List.set_cons_zero, Nat.zero_add, Nat.reduceAdd] at Hb8); replace Hb8 := hide Hb8; replace HB := hide (hun.keep w.heap.size w (by omega) HB.out); replace Hb3 := hide (Hb3.out.upd hun (by omega)); replace Hb5 := hide (Hb5.out.upd hun (by omega)); replace Hb6 := hide (Hb6.out.upd hun (by omega)); clear hun))
      replace Hb8 := hide (show NB w8 w5.heap.size (lC q) 54 from (lC_put P n hK).trans hq ▸ Hb8.out)
      go_loopw [9] (fun v9 wr => ∃ I : Nat, I ≤ 12 ∧ v9 = .int .i64 I ∧ Hid (K < I → fits (n 1) (n 2) (n 3)) ∧ Hid (Below w.heap.size w wr) ∧ Hid (NB wr (w.heap.size) (pC P) 26) ∧ Hid (NB wr (w1.heap.size) #[.int .u64 (n 0), .int .u64 (n 1), .int .u64 (n 2), .int .u64 (n 3)] 24) ∧ Hid (NB wr (w2.heap.size) (pC fun _ => 0) 26) ∧ Hid (NB wr (w5.heap.size) (lC q) 54)) (fun v9 _ => (12 - intOf v9).toNat)
      case atStart => exact ⟨0, by omega, rfl, hide (fun h => absurd h (by omega)), HB, Hb3, Hb5, Hb6, Hb8⟩
      case round =>
        obtain ⟨I, hI, rfl, HF, HB, Hb3, Hb5, Hb6, Hb8⟩ := hrel
        rcases Nat.lt_or_ge I 12 with hlt | hge
        · have hI2 : (I : Int) < 12 := by omega
          have hI0 : (0 : Int) ≤ (I : Int) := by omega
          have wk : IntKind.i64.wrap ((I : Int) + 1) = (I : Int) + 1 := by rw [IntKind.wrap_i64]; omega
          have HU := fun w => ru64_c (q I 0) (q I 1) (q I 2) (q I 3) w
          have qe := fun j (hj : j < 4) => q_eq hq.out I j hlt hj
          by_cases hf : fits (q I 1) (q I 2) (q I 3)
          · have HF' := hide (show K < I + 1 → fits (n 1) (n 2) (n 3) from fun h => by
              by_cases e : I = K
              · rw [qe 1 (by omega), qe 2 (by omega), qe 3 (by omega)] at hf
                unfold putQ at hf
                rw [if_pos e, if_pos e, if_pos e] at hf
                exact hf
              · exact HF.out (by omega))
            rw [if_pos hf, decide_eq_true hf] at HU
            replace HU := hide HU
            clear hf qe
            go_wp2_with (first | (refine n_loads (by rfl) (T := 24) (x := (.tmp 36)) rfl (g := w5.heap.size) (o := I * 4) rfl Hb8.out (ds := #[.int .u64 (q I 0), .int .u64 (q I 1), .int .u64 (q I 2), .int .u64 (q I 3)]) (lC_row q hlt) Try.underlying24 rfl ru_s4 ?_))
            refine (HU.out _).mono ?_
            rintro e w9 ⟨rfl, hbc⟩
            replace HB := hide (HB.out.trans (hbc.mono HB.out.size))
            replace Hb3 := hide (Hb3.out.below hbc Hb3.out.lt)
            replace Hb5 := hide (Hb5.out.below hbc Hb5.out.lt)
            replace Hb6 := hide (Hb6.out.below hbc Hb6.out.lt)
            replace Hb8 := hide (Hb8.out.below hbc Hb8.out.lt)
            clear hbc
            go_wp2_with fail
            go_roundw
            case rel => exact ⟨I + 1, by omega, by go_num, HF', HB, Hb3, Hb5, Hb6, Hb8⟩
            case measure => simp [intOf]; omega
          · have HE := HNF.out (fun hn => hf (by
              by_cases e : I = K
              · rw [qe 1 (by omega), qe 2 (by omega), qe 3 (by omega)]
                unfold putQ
                rw [if_pos e, if_pos e, if_pos e]
                exact hn
              · rw [qe 1 (by omega), qe 2 (by omega), qe 3 (by omega)]
                unfold putQ
                rw [if_neg e, if_neg e, if_neg e]
                exact getL_fits hP h1.out hlt))
            have HE15 := hide (show Ending.returned (.tuple #[.agg (pC fun _ => 0), .int .i64 15]) = Ending.returned (.tuple #[.agg (pC (setR P ((K : Int) + 1) n)), .int .i64 (setE P ((K : Int) + 1) n)]) by rw [setR_zero (by rw [HE]; decide), HE])
            rw [if_neg hf, decide_eq_false hf] at HU
            replace HU := hide HU
            clear hf qe HE
            go_wp2_with (first | (refine n_loads (by rfl) (T := 24) (x := (.tmp 36)) rfl (g := w5.heap.size) (o := I * 4) rfl Hb8.out (ds := #[.int .u64 (q I 0), .int .u64 (q I 1), .int .u64 (q I 2), .int .u64 (q I 3)]) (lC_row q hlt) Try.underlying24 rfl ru_s4 ?_))
            refine (HU.out _).mono ?_
            rintro e w9 ⟨rfl, hbc⟩
            replace HB := hide (HB.out.trans (hbc.mono HB.out.size))
            replace Hb3 := hide (Hb3.out.below hbc Hb3.out.lt)
            replace Hb5 := hide (Hb5.out.below hbc Hb5.out.lt)
            replace Hb6 := hide (Hb6.out.below hbc Hb6.out.lt)
            replace Hb8 := hide (Hb8.out.below hbc Hb8.out.lt)
            clear hbc
            go_wp2_with (first | (refine n_storew (by rfl) (T := 26) (x := (.tmp 6)) (y := (.tmp 43)) rfl (g := w2.heap.size) rfl (vs := pC fun _ => 0) rfl (by first | exact pC_one _ | exact allC_one _ | (simp [Value.oneCell']; done)) Hb6.out rfl ru_s1 ?_; clear Hb6; intro w10 Hb6 hun; replace Hb6 := hide Hb6; replace HB := hide (hun.keep w.heap.size w (by omega) HB.out); replace Hb3 := hide (Hb3.out.upd hun (by omega)); replace Hb5 := hide (Hb5.out.upd hun (by omega)); replace Hb8 := hide (Hb8.out.upd hun (by omega)); clear hun))
            exact bodyPost_ret (results2 rfl (reads_row (g := w2.heap.size) rfl Hb6.out Try.underlying26 rfl ru_s1) (reads_tmp rfl)) rfl ⟨HE15.out, HB.out⟩
        · obtain rfl : I = 12 := by omega
          have hno := HOK.out (HF.out hK)
          by_cases h2 : fiV (setP P ((K : Int) + 1) n) = 0
          · have hE := setE_ok hk hno h2
            have tv2 : (fiV (setP P ((K : Int) + 1) n) == 0) = true := by simpa using h2
            rw [tv2] at HV2
            replace HV2 := hide HV2
            have HE := hide (show Ending.returned (.tuple #[.agg (pC (setP P ((K : Int) + 1) n)), .int .i64 0]) = Ending.returned (.tuple #[.agg (pC (setR P ((K : Int) + 1) n)), .int .i64 (setE P ((K : Int) + 1) n)]) by rw [setR_set hE, hE])
            clear hE h2 tv2 hno
            go_wp2_with (first | (refine n_load (by rfl) (T := 22) (x := (.tmp 45)) rfl (g := w5.heap.size) (o := 0) rfl Hb8.out (v := .int .u64 (q 0 0)) (by rfl) Try.underlying22 rfl ?_) | (refine n_load (by rfl) (T := 22) (x := (.tmp 48)) rfl (g := w5.heap.size) (o := 4) rfl Hb8.out (v := .int .u64 (q 1 0)) (by rfl) Try.underlying22 rfl ?_) | (refine n_load (by rfl) (T := 22) (x := (.tmp 51)) rfl (g := w5.heap.size) (o := 8) rfl Hb8.out (v := .int .u64 (q 2 0)) (by rfl) Try.underlying22 rfl ?_) | (refine n_loads (by rfl) (T := 24) (x := (.tmp 53)) rfl (g := w5.heap.size) (o := 12) rfl Hb8.out (ds := #[.int .u64 (q 3 0), .int .u64 (q 3 1), .int .u64 (q 3 2), .int .u64 (q 3 3)]) (by rfl) Try.underlying24 rfl ru_s4 ?_) | (refine n_load (by rfl) (T := 22) (x := (.tmp 56)) rfl (g := w5.heap.size) (o := 16) rfl Hb8.out (v := .int .u64 (q 4 0)) (by rfl) Try.underlying22 rfl ?_) | (refine n_loads (by rfl) (T := 24) (x := (.tmp 58)) rfl (g := w5.heap.size) (o := 20) rfl Hb8.out (ds := #[.int .u64 (q 5 0), .int .u64 (q 5 1), .int .u64 (q 5 2), .int .u64 (q 5 3)]) (by rfl) Try.underlying24 rfl ru_s4 ?_) | (refine n_load (by rfl) (T := 22) (x := (.tmp 61)) rfl (g := w5.heap.size) (o := 24) rfl Hb8.out (v := .int .u64 (q 6 0)) (by rfl) Try.underlying22 rfl ?_) | (refine n_loads (by rfl) (T := 24) (x := (.tmp 63)) rfl (g := w5.heap.size) (o := 28) rfl Hb8.out (ds := #[.int .u64 (q 7 0), .int .u64 (q 7 1), .int .u64 (q 7 2), .int .u64 (q 7 3)]) (by rfl) Try.underlying24 rfl ru_s4 ?_) | (refine n_load (by rfl) (T := 22) (x := (.tmp 66)) rfl (g := w5.heap.size) (o := 32) rfl Hb8.out (v := .int .u64 (q 8 0)) (by rfl) Try.underlying22 rfl ?_) | (refine n_load (by rfl) (T := 22) (x := (.tmp 69)) rfl (g := w5.heap.size) (o := 36) rfl Hb8.out (v := .int .u64 (q 9 0)) (by rfl) Try.underlying22 rfl ?_) | (refine n_load (by rfl) (T := 22) (x := (.tmp 72)) rfl (g := w5.heap.size) (o := 40) rfl Hb8.out (v := .int .u64 (q 10 0)) (by rfl) Try.underlying22 rfl ?_) | (refine n_load (by rfl) (T := 22) (x := (.tmp 75)) rfl (g := w5.heap.size) (o := 44) rfl Hb8.out (v := .int .u64 (q 11 0)) (by rfl) Try.underlying22 rfl ?_) | (refine n_alloc (by rfl) (T := 26) rfl ru_z0 (ds := pC fun _ => 0) rfl ?_; intro w9 Hb12 hbn; have hsz_wr := HB.out.size; have lt_b3_b12 := Hb3.out.lt; have lt_b5_b12 := Hb5.out.lt; have lt_b6_b12 := Hb6.out.lt; have lt_b8_b12 := Hb8.out.lt; replace HB := hide (HB.out.trans (hbn.mono HB.out.size)); replace Hb3 := hide (Hb3.out.below hbn Hb3.out.lt); replace Hb5 := hide (Hb5.out.below hbn Hb5.out.lt); replace Hb6 := hide (Hb6.out.below hbn Hb6.out.lt); replace Hb8 := hide (Hb8.out.below hbn Hb8.out.lt); clear hbn; replace Hb12 := hide Hb12) | (refine n_storew (by rfl) (T := 26) (x := (.tmp 12)) (y := (.tmp 77)) rfl (g := wr.heap.size) rfl (vs := #[.int .u64 (q 0 0), .int .u64 (q 1 0), .int .u64 (q 2 0), .int .u64 (q 3 0), .int .u64 (q 3 1), .int .u64 (q 3 2), .int .u64 (q 3 3), .int .u64 (q 4 0), .int .u64 (q 5 0), .int .u64 (q 5 1), .int .u64 (q 5 2), .int .u64 (q 5 3), .int .u64 (q 6 0), .int .u64 (q 7 0), .int .u64 (q 7 1), .int .u64 (q 7 2), .int .u64 (q 7 3), .int .u64 (q 8 0), .int .u64 (q 9 0), .int .u64 (q 10 0), .int .u64 (q 11 0)]) rfl (by first | exact pC_one _ | exact allC_one _ | (simp [Value.oneCell']; done)) Hb12.out rfl ru_s1 ?_; clear Hb12; intro w10 Hb12 hun; replace Hb12 : NB w10 (wr.heap.size) (pC (setP P ((K : Int) + 1) n)) 26 := (qP hK hq.out) ▸ Hb12; replace Hb12 := hide Hb12; replace HB := hide (hun.keep w.heap.size w (by omega) HB.out); replace Hb3 := hide (Hb3.out.upd hun (by omega)); replace Hb5 := hide (Hb5.out.upd hun (by omega)); replace Hb6 := hide (Hb6.out.upd hun (by omega)); replace Hb8 := hide (Hb8.out.upd hun (by omega)); clear hun) | (refine n_loadw (by rfl) (T := 26) (x := (.tmp 12)) rfl (g := wr.heap.size) rfl Hb12.out Try.underlying26 rfl ru_s1 ?_))
            refine (HV2.out _).mono ?_
            rintro e w11 ⟨rfl, hbc⟩
            replace HB := hide (HB.out.trans (hbc.mono HB.out.size))
            replace Hb3 := hide (Hb3.out.below hbc Hb3.out.lt)
            replace Hb5 := hide (Hb5.out.below hbc Hb5.out.lt)
            replace Hb6 := hide (Hb6.out.below hbc Hb6.out.lt)
            replace Hb8 := hide (Hb8.out.below hbc Hb8.out.lt)
            replace Hb12 := hide (Hb12.out.below hbc Hb12.out.lt)
            clear hbc
            go_wp2_with (first | (refine n_loadw (by rfl) (T := 26) (x := (.tmp 12)) rfl (g := wr.heap.size) rfl Hb12.out Try.underlying26 rfl ru_s1 ?_) | (refine n_storew (by rfl) (T := 26) (x := (.tmp 6)) (y := (.tmp 82)) rfl (g := w2.heap.size) rfl (vs := pC (setP P ((K : Int) + 1) n)) rfl (by first | exact pC_one _ | exact allC_one _ | (simp [Value.oneCell']; done)) Hb6.out rfl ru_s1 ?_; clear Hb6; intro w12 Hb6 hun; replace Hb6 := hide Hb6; replace HB := hide (hun.keep w.heap.size w (by omega) HB.out); replace Hb3 := hide (Hb3.out.upd hun (by omega)); replace Hb5 := hide (Hb5.out.upd hun (by omega)); replace Hb8 := hide (Hb8.out.upd hun (by omega)); replace Hb12 := hide (Hb12.out.upd hun (by omega)); clear hun))
            exact bodyPost_ret (results2 rfl (reads_row (g := w2.heap.size) rfl Hb6.out Try.underlying26 rfl ru_s1) (reads_tmp rfl)) rfl ⟨HE.out, HB.out⟩
          · have hE := setE_bad2 hk hno h2
            have tv2 : (fiV (setP P ((K : Int) + 1) n) == 0) = false := by simpa using h2
            rw [tv2] at HV2
            replace HV2 := hide HV2
            have HE := hide (show Ending.returned (.tuple #[.agg (pC fun _ => 0), .int .i64 15]) = Ending.returned (.tuple #[.agg (pC (setR P ((K : Int) + 1) n)), .int .i64 (setE P ((K : Int) + 1) n)]) by rw [setR_zero (by rw [hE]; decide), hE])
            clear hE h2 tv2 hno
            go_wp2_with (first | (refine n_load (by rfl) (T := 22) (x := (.tmp 45)) rfl (g := w5.heap.size) (o := 0) rfl Hb8.out (v := .int .u64 (q 0 0)) (by rfl) Try.underlying22 rfl ?_) | (refine n_load (by rfl) (T := 22) (x := (.tmp 48)) rfl (g := w5.heap.size) (o := 4) rfl Hb8.out (v := .int .u64 (q 1 0)) (by rfl) Try.underlying22 rfl ?_) | (refine n_load (by rfl) (T := 22) (x := (.tmp 51)) rfl (g := w5.heap.size) (o := 8) rfl Hb8.out (v := .int .u64 (q 2 0)) (by rfl) Try.underlying22 rfl ?_) | (refine n_loads (by rfl) (T := 24) (x := (.tmp 53)) rfl (g := w5.heap.size) (o := 12) rfl Hb8.out (ds := #[.int .u64 (q 3 0), .int .u64 (q 3 1), .int .u64 (q 3 2), .int .u64 (q 3 3)]) (by rfl) Try.underlying24 rfl ru_s4 ?_) | (refine n_load (by rfl) (T := 22) (x := (.tmp 56)) rfl (g := w5.heap.size) (o := 16) rfl Hb8.out (v := .int .u64 (q 4 0)) (by rfl) Try.underlying22 rfl ?_) | (refine n_loads (by rfl) (T := 24) (x := (.tmp 58)) rfl (g := w5.heap.size) (o := 20) rfl Hb8.out (ds := #[.int .u64 (q 5 0), .int .u64 (q 5 1), .int .u64 (q 5 2), .int .u64 (q 5 3)]) (by rfl) Try.underlying24 rfl ru_s4 ?_) | (refine n_load (by rfl) (T := 22) (x := (.tmp 61)) rfl (g := w5.heap.size) (o := 24) rfl Hb8.out (v := .int .u64 (q 6 0)) (by rfl) Try.underlying22 rfl ?_) | (refine n_loads (by rfl) (T := 24) (x := (.tmp 63)) rfl (g := w5.heap.size) (o := 28) rfl Hb8.out (ds := #[.int .u64 (q 7 0), .int .u64 (q 7 1), .int .u64 (q 7 2), .int .u64 (q 7 3)]) (by rfl) Try.underlying24 rfl ru_s4 ?_) | (refine n_load (by rfl) (T := 22) (x := (.tmp 66)) rfl (g := w5.heap.size) (o := 32) rfl Hb8.out (v := .int .u64 (q 8 0)) (by rfl) Try.underlying22 rfl ?_) | (refine n_load (by rfl) (T := 22) (x := (.tmp 69)) rfl (g := w5.heap.size) (o := 36) rfl Hb8.out (v := .int .u64 (q 9 0)) (by rfl) Try.underlying22 rfl ?_) | (refine n_load (by rfl) (T := 22) (x := (.tmp 72)) rfl (g := w5.heap.size) (o := 40) rfl Hb8.out (v := .int .u64 (q 10 0)) (by rfl) Try.underlying22 rfl ?_) | (refine n_load (by rfl) (T := 22) (x := (.tmp 75)) rfl (g := w5.heap.size) (o := 44) rfl Hb8.out (v := .int .u64 (q 11 0)) (by rfl) Try.underlying22 rfl ?_) | (refine n_alloc (by rfl) (T := 26) rfl ru_z0 (ds := pC fun _ => 0) rfl ?_; intro w9 Hb12 hbn; have hsz_wr := HB.out.size; have lt_b3_b12 := Hb3.out.lt; have lt_b5_b12 := Hb5.out.lt; have lt_b6_b12 := Hb6.out.lt; have lt_b8_b12 := Hb8.out.lt; replace HB := hide (HB.out.trans (hbn.mono HB.out.size)); replace Hb3 := hide (Hb3.out.below hbn Hb3.out.lt); replace Hb5 := hide (Hb5.out.below hbn Hb5.out.lt); replace Hb6 := hide (Hb6.out.below hbn Hb6.out.lt); replace Hb8 := hide (Hb8.out.below hbn Hb8.out.lt); clear hbn; replace Hb12 := hide Hb12) | (refine n_storew (by rfl) (T := 26) (x := (.tmp 12)) (y := (.tmp 77)) rfl (g := wr.heap.size) rfl (vs := #[.int .u64 (q 0 0), .int .u64 (q 1 0), .int .u64 (q 2 0), .int .u64 (q 3 0), .int .u64 (q 3 1), .int .u64 (q 3 2), .int .u64 (q 3 3), .int .u64 (q 4 0), .int .u64 (q 5 0), .int .u64 (q 5 1), .int .u64 (q 5 2), .int .u64 (q 5 3), .int .u64 (q 6 0), .int .u64 (q 7 0), .int .u64 (q 7 1), .int .u64 (q 7 2), .int .u64 (q 7 3), .int .u64 (q 8 0), .int .u64 (q 9 0), .int .u64 (q 10 0), .int .u64 (q 11 0)]) rfl (by first | exact pC_one _ | exact allC_one _ | (simp [Value.oneCell']; done)) Hb12.out rfl ru_s1 ?_; clear Hb12; intro w10 Hb12 hun; replace Hb12 : NB w10 (wr.heap.size) (pC (setP P ((K : Int) + 1) n)) 26 := (qP hK hq.out) ▸ Hb12; replace Hb12 := hide Hb12; replace HB := hide (hun.keep w.heap.size w (by omega) HB.out); replace Hb3 := hide (Hb3.out.upd hun (by omega)); replace Hb5 := hide (Hb5.out.upd hun (by omega)); replace Hb6 := hide (Hb6.out.upd hun (by omega)); replace Hb8 := hide (Hb8.out.upd hun (by omega)); clear hun) | (refine n_loadw (by rfl) (T := 26) (x := (.tmp 12)) rfl (g := wr.heap.size) rfl Hb12.out Try.underlying26 rfl ru_s1 ?_))
            refine (HV2.out _).mono ?_
            rintro e w11 ⟨rfl, hbc⟩
            replace HB := hide (HB.out.trans (hbc.mono HB.out.size))
            replace Hb3 := hide (Hb3.out.below hbc Hb3.out.lt)
            replace Hb5 := hide (Hb5.out.below hbc Hb5.out.lt)
            replace Hb6 := hide (Hb6.out.below hbc Hb6.out.lt)
            replace Hb8 := hide (Hb8.out.below hbc Hb8.out.lt)
            replace Hb12 := hide (Hb12.out.below hbc Hb12.out.lt)
            clear hbc
            go_wp2_with (first | (refine n_storew (by rfl) (T := 26) (x := (.tmp 6)) (y := (.tmp 81)) rfl (g := w2.heap.size) rfl (vs := pC fun _ => 0) rfl (by first | exact pC_one _ | exact allC_one _ | (simp [Value.oneCell']; done)) Hb6.out rfl ru_s1 ?_; clear Hb6; intro w12 Hb6 hun; replace Hb6 := hide Hb6; replace HB := hide (hun.keep w.heap.size w (by omega) HB.out); replace Hb3 := hide (Hb3.out.upd hun (by omega)); replace Hb5 := hide (Hb5.out.upd hun (by omega)); replace Hb8 := hide (Hb8.out.upd hun (by omega)); replace Hb12 := hide (Hb12.out.upd hun (by omega)); clear hun))
            exact bodyPost_ret (results2 rfl (reads_row (g := w2.heap.size) rfl Hb6.out Try.underlying26 rfl ru_s1) (reads_tmp rfl)) rfl ⟨HE.out, HB.out⟩
    · have tv : (fiV P == 0) = false := by simpa using h1
      have hE := setE_bad (n := n) hk (.inl h1)
      rw [tv] at HV1
      replace HV1 := hide HV1
      rw [setR_zero (by rw [hE]; decide), hE]
      clear tv h1 hE HV2
      go_enter Try.func20, Try.ntmps20
      go_wp2_with (first | (refine n_box (by rfl) (T := 26) (x := (.tmp 0)) rfl (v := .agg (pC P)) rfl (ds := pC P) rfl ?_; intro w1 Hb3 hbn; have HB := hide hbn; clear hbn; replace Hb3 := hide Hb3) | (refine n_box (by rfl) (T := 24) (x := (.tmp 2)) rfl (v := .agg (#[.int .u64 (n 0), .int .u64 (n 1), .int .u64 (n 2), .int .u64 (n 3)])) rfl (ds := #[.int .u64 (n 0), .int .u64 (n 1), .int .u64 (n 2), .int .u64 (n 3)]) rfl ?_; intro w2 Hb5 hbn; have hsz_w1 := HB.out.size; have lt_b3_b5 := Hb3.out.lt; replace HB := hide (HB.out.trans (hbn.mono HB.out.size)); replace Hb3 := hide (Hb3.out.below hbn Hb3.out.lt); clear hbn; replace Hb5 := hide Hb5) | (refine n_alloc (by rfl) (T := 26) rfl ru_z0 (ds := pC fun _ => 0) rfl ?_; intro w3 Hb6 hbn; have hsz_w2 := HB.out.size; have lt_b3_b6 := Hb3.out.lt; have lt_b5_b6 := Hb5.out.lt; replace HB := hide (HB.out.trans (hbn.mono HB.out.size)); replace Hb3 := hide (Hb3.out.below hbn Hb3.out.lt); replace Hb5 := hide (Hb5.out.below hbn Hb5.out.lt); clear hbn; replace Hb6 := hide Hb6) | (refine n_loadw (by rfl) (T := 26) (x := (.tmp 3)) rfl (g := w.heap.size) rfl Hb3.out Try.underlying26 rfl ru_s1 ?_))
      refine (HV1.out _).mono ?_
      rintro e w4 ⟨rfl, hbc⟩
      replace HB := hide (HB.out.trans (hbc.mono HB.out.size))
      replace Hb3 := hide (Hb3.out.below hbc Hb3.out.lt)
      replace Hb5 := hide (Hb5.out.below hbc Hb5.out.lt)
      replace Hb6 := hide (Hb6.out.below hbc Hb6.out.lt)
      clear hbc
      go_wp2_with (first | (refine n_storew (by rfl) (T := 26) (x := (.tmp 6)) (y := (.tmp 23)) rfl (g := w2.heap.size) rfl (vs := pC fun _ => 0) rfl (by first | exact pC_one _ | exact allC_one _ | (simp [Value.oneCell']; done)) Hb6.out rfl ru_s1 ?_; clear Hb6; intro w5 Hb6 hun; replace Hb6 := hide Hb6; replace HB := hide (hun.keep w.heap.size w (by omega) HB.out); replace Hb3 := hide (Hb3.out.upd hun (by omega)); replace Hb5 := hide (Hb5.out.upd hun (by omega)); clear hun))
      exact bodyPost_ret (results2 rfl (reads_row (g := w2.heap.size) rfl Hb6.out Try.underlying26 rfl ru_s1) (reads_tmp rfl)) rfl ⟨rfl, HB.out⟩
  · have hE : setE P k n = 17 := setE_no hk
    rw [setR_zero (by rw [hE]; decide), hE]
    by_cases h1 : k < 1
    · clear hk hE
      go_enter Try.func20, Try.ntmps20
      go_wp2_with (first | (refine n_box (by rfl) (T := 26) (x := (.tmp 0)) rfl (v := .agg (pC P)) rfl (ds := pC P) rfl ?_; intro w1 Hb3 hbn; have HB := hide hbn; clear hbn; replace Hb3 := hide Hb3) | (refine n_box (by rfl) (T := 24) (x := (.tmp 2)) rfl (v := .agg (#[.int .u64 (n 0), .int .u64 (n 1), .int .u64 (n 2), .int .u64 (n 3)])) rfl (ds := #[.int .u64 (n 0), .int .u64 (n 1), .int .u64 (n 2), .int .u64 (n 3)]) rfl ?_; intro w2 Hb5 hbn; have hsz_w1 := HB.out.size; have lt_b3_b5 := Hb3.out.lt; replace HB := hide (HB.out.trans (hbn.mono HB.out.size)); replace Hb3 := hide (Hb3.out.below hbn Hb3.out.lt); clear hbn; replace Hb5 := hide Hb5) | (refine n_alloc (by rfl) (T := 26) rfl ru_z0 (ds := pC fun _ => 0) rfl ?_; intro w3 Hb6 hbn; have hsz_w2 := HB.out.size; have lt_b3_b6 := Hb3.out.lt; have lt_b5_b6 := Hb5.out.lt; replace HB := hide (HB.out.trans (hbn.mono HB.out.size)); replace Hb3 := hide (Hb3.out.below hbn Hb3.out.lt); replace Hb5 := hide (Hb5.out.below hbn Hb5.out.lt); clear hbn; replace Hb6 := hide Hb6) | (refine n_storew (by rfl) (T := 26) (x := (.tmp 6)) (y := (.tmp 19)) rfl (g := w2.heap.size) rfl (vs := pC fun _ => 0) rfl (by first | exact pC_one _ | exact allC_one _ | (simp [Value.oneCell']; done)) Hb6.out rfl ru_s1 ?_; clear Hb6; intro w4 Hb6 hun; replace Hb6 := hide Hb6; replace HB := hide (hun.keep w.heap.size w (by omega) HB.out); replace Hb3 := hide (Hb3.out.upd hun (by omega)); replace Hb5 := hide (Hb5.out.upd hun (by omega)); clear hun))
      exact bodyPost_ret (results2 rfl (reads_row (g := w2.heap.size) rfl Hb6.out Try.underlying26 rfl ru_s1) (reads_tmp rfl)) rfl ⟨rfl, HB.out⟩
    · have h2 : 12 < k := by omega
      have h1' : 1 ≤ k := by omega
      clear hk h1 hE
      go_enter Try.func20, Try.ntmps20
      go_wp2_with (first | (refine n_box (by rfl) (T := 26) (x := (.tmp 0)) rfl (v := .agg (pC P)) rfl (ds := pC P) rfl ?_; intro w1 Hb3 hbn; have HB := hide hbn; clear hbn; replace Hb3 := hide Hb3) | (refine n_box (by rfl) (T := 24) (x := (.tmp 2)) rfl (v := .agg (#[.int .u64 (n 0), .int .u64 (n 1), .int .u64 (n 2), .int .u64 (n 3)])) rfl (ds := #[.int .u64 (n 0), .int .u64 (n 1), .int .u64 (n 2), .int .u64 (n 3)]) rfl ?_; intro w2 Hb5 hbn; have hsz_w1 := HB.out.size; have lt_b3_b5 := Hb3.out.lt; replace HB := hide (HB.out.trans (hbn.mono HB.out.size)); replace Hb3 := hide (Hb3.out.below hbn Hb3.out.lt); clear hbn; replace Hb5 := hide Hb5) | (refine n_alloc (by rfl) (T := 26) rfl ru_z0 (ds := pC fun _ => 0) rfl ?_; intro w3 Hb6 hbn; have hsz_w2 := HB.out.size; have lt_b3_b6 := Hb3.out.lt; have lt_b5_b6 := Hb5.out.lt; replace HB := hide (HB.out.trans (hbn.mono HB.out.size)); replace Hb3 := hide (Hb3.out.below hbn Hb3.out.lt); replace Hb5 := hide (Hb5.out.below hbn Hb5.out.lt); clear hbn; replace Hb6 := hide Hb6) | (refine n_storew (by rfl) (T := 26) (x := (.tmp 6)) (y := (.tmp 19)) rfl (g := w2.heap.size) rfl (vs := pC fun _ => 0) rfl (by first | exact pC_one _ | exact allC_one _ | (simp [Value.oneCell']; done)) Hb6.out rfl ru_s1 ?_; clear Hb6; intro w4 Hb6 hun; replace Hb6 := hide Hb6; replace HB := hide (hun.keep w.heap.size w (by omega) HB.out); replace Hb3 := hide (Hb3.out.upd hun (by omega)); replace Hb5 := hide (Hb5.out.upd hun (by omega)); clear hun))
      exact bodyPost_ret (results2 rfl (reads_row (g := w2.heap.size) rfl Hb6.out Try.underlying26 rfl ru_s1) (reads_tmp rfl)) rfl ⟨rfl, HB.out⟩
end Go.Proofs.Ytbnpgecpanfpiaa
