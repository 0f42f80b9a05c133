/- Signed numbers: Valid, IsZero, CutPrefix, FormatInt, ParseInt, walked. -/
import Derived.WalkKit
import Derived.KernelRfl
import Derived.RowKit3
import Derived.Deep.LoopGhost
import Derived.Deep.QuietTactic
import Derived.BigQuiet
import Derived.WideLaws
import Derived.Laws.Rows
import Derived.Below
import Derived.Deep.Draws
import Derived.Outline
import Derived.LoopN
import Derived.Handy
import Derived.Laws.Externs
import Derived.Laws.BitsAllLaws
import Derived.Laws.BitsLemmas
import Derived.Deep.DeepCutAuto
import Derived.Deep.CutBlock
import Derived.Deep.RegionHeld3
import Derived.Test.YthikkajjnfeigaaDB
import Derived.Test.YthikkajjnfeigaaDU
namespace Go.Proofs.Ythikkajjnfeigaa
open Go.RowKit
set_option linter.unusedVariables false
set_option linter.unusedSimpArgs false
def negB (l : List UInt8) : Bool := l.head? == some 45
theorem cut_list (s : ByteArray) : (s.extract 1 s.size).data.toList = s.data.toList.drop 1 := by
  rw [Lib.extract_data]
  simp only [List.drop_one]
  exact List.take_of_length_le (by simp)
theorem head_list (s : ByteArray) (h : 0 < s.size) : ((s.extract 0 1).toList == [45]) = negB s.data.toList := by
  rw [toList_data, Lib.extract_data]
  have hl : 0 < s.data.toList.length := h
  cases hs : s.data.toList with
  | nil => rw [hs] at hl; simp at hl
  | cons c l =>
    simp [negB]
set_option maxHeartbeats 2000000 in
theorem hasp_c (s : ByteArray) (hs : s.size ≤ 1000000) (w : World) :
    Calls Try.prog 46 #[.string s, .string ⟨#[45]⟩] w fun e w' => e = .returned (.bool (negB s.data.toList)) ∧ w = w' := by
  have hlen : s.data.toList.length = s.size := rfl
  by_cases h0 : s.size = 0
  · have hl : s.data.toList = [] := List.eq_nil_of_length_eq_zero h0
    rw [hl, show negB [] = false from rfl]
    have hz : (s.size : Int) < 1 := by omega
    have hz2 : ¬ (1 : Int) ≤ (s.size : Int) := by omega
    clear h0 hl hlen
    go_enter Try.func46, Try.ntmps46
    go_wp2
    go_ret
    exact ⟨rfl, rfl⟩
  · have hp : (1 : Int) ≤ (s.size : Int) := by omega
    have hh := head_list s (by omega)
    obtain ⟨b, eb⟩ : ∃ b, negB s.data.toList = b := ⟨_, rfl⟩
    rw [eb] at hh ⊢
    clear eb h0 hlen
    go_enter Try.func46, Try.ntmps46
    go_wp2
    go_ret
    exact ⟨rfl, rfl⟩
def restS (s : ByteArray) : ByteArray := if negB s.data.toList = true then s.extract 1 s.size else s
def restL (l : List UInt8) : List UInt8 := if negB l = true then l.drop 1 else l
theorem restS_list (s : ByteArray) : (restS s).data.toList = restL s.data.toList := by
  unfold restS restL
  split
  · exact cut_list s
  · rfl
theorem restS_size (s : ByteArray) : (restS s).size ≤ s.size := by
  unfold restS
  split
  · rw [ByteArray.size_extract]; omega
  · exact Nat.le_refl _
theorem neg_pos {s : ByteArray} (h : negB s.data.toList = true) : 0 < s.size := by
  rcases Nat.eq_zero_or_pos s.size with h0 | h0
  · have hl : s.data.toList = [] := List.eq_nil_of_length_eq_zero h0
    rw [hl] at h
    cases h
  · exact h0
theorem neg_head {s : ByteArray} (hp : 0 < s.size) : negB s.data.toList = decide (s[0] = 45) := by
  unfold negB
  rw [List.head?_eq_getElem?, List.getElem?_eq_getElem (show 0 < s.data.toList.length from hp)]
  have e : s.data.toList[0]'hp = s[0] := rfl
  rw [Bool.eq_iff_iff, beq_iff_eq, decide_eq_true_eq, ← e, Option.some.injEq]
theorem neg_yes {s : ByteArray} (hp : 0 < s.size) (h : negB s.data.toList = true) : ((s[0].toNat : Int) == 45) = true := by
  rw [neg_head hp, decide_eq_true_eq] at h
  rw [h]
  rfl
theorem neg_no {s : ByteArray} (hp : 0 < s.size) (h : negB s.data.toList = false) : ((s[0].toNat : Int) == 45) = false := by
  rw [neg_head hp, decide_eq_false_iff_not] at h
  rw [beq_eq_false_iff_ne]
  intro e
  apply h
  apply UInt8.toNat_inj.1
  show s[0].toNat = 45
  omega
set_option maxHeartbeats 2000000 in
theorem cutp0_c (s : ByteArray) (hs : s.size ≤ 1000000) (w : World) :
    Calls Try.prog 41 #[.string s, .string ⟨#[45]⟩] w fun e w' => e = .returned (.tuple #[.string (restS s), .bool (negB s.data.toList)]) ∧ w = w' := by
  have HH := fun w => hasp_c s hs w
  by_cases h : negB s.data.toList = true
  · have hp := neg_pos h
    have h1 : (1 : Int) ≤ (s.size : Int) := by omega
    rw [restS, if_pos h, h]
    rw [h] at HH
    replace HH := hide HH
    clear h hp
    go_enter Try.func41, Try.ntmps41
    go_wp2_with fail
    refine (HH.out _).mono ?_
    rintro e w' ⟨rfl, rfl⟩
    go_wp2
    go_ret2
    exact ⟨rfl, rfl⟩
  · have h' : negB s.data.toList = false := by simpa using h
    rw [restS, if_neg h, h']
    rw [h'] at HH
    replace HH := hide HH
    clear h h'
    go_enter Try.func41, Try.ntmps41
    go_wp2_with fail
    refine (HH.out _).mono ?_
    rintro e w' ⟨rfl, rfl⟩
    go_wp2
    go_ret2
    exact ⟨rfl, rfl⟩
theorem cutp_c (s : ByteArray) (hs : s.size ≤ 1000000) (w : World) :
    Calls Try.prog 30 #[.string s, .string ⟨#[45]⟩] w fun e w' => e = .returned (.tuple #[.string (restS s), .bool (negB s.data.toList)]) ∧ w = w' := by
  have HH := hide (fun w => cutp0_c s hs w)
  go_enter Try.func30, Try.ntmps30
  go_wp2_with fail
  refine (HH.out _).mono ?_
  rintro e w' ⟨rfl, rfl⟩
  go_wp2
  go_ret2
  exact ⟨rfl, rfl⟩
/-- a signed number is well formed -/
def iok (b : Bool) (A : Nat) : Bool := !b || !decide (A = 0)
theorem iok_zero {A : Nat} (h : iok true A = false) : decide (A = 0) = true := by simpa [iok] using h
theorem iok_one {A : Nat} (h : iok true A = true) : decide (A = 0) = false := by simpa [iok] using h
def fiS (b : Bool) (A : Nat) : List UInt8 := if b = true ∧ A = 0 then [] else if b = true then 45 :: decL A else decL A
def piE (l : List UInt8) : Int := if prE (restL l) ≠ 0 then prE (restL l) else if iok (negB l) (prV (restL l)) = true then 0 else 3
def piB (l : List UInt8) : Bool := if piE l = 0 then negB l else false
def piV (l : List UInt8) : Nat := if piE l = 0 then prV (restL l) else 0
theorem pi_ways (l : List UInt8) : (prE (restL l) ≠ 0 ∧ piB l = false ∧ piV l = 0 ∧ piE l = prE (restL l)) ∨ (prE (restL l) = 0 ∧ iok (negB l) (prV (restL l)) = false ∧ piB l = false ∧ piV l = 0 ∧ piE l = 3) ∨ (prE (restL l) = 0 ∧ iok (negB l) (prV (restL l)) = true ∧ piB l = negB l ∧ piV l = prV (restL l) ∧ piE l = 0) := by
  unfold piB piV
  by_cases h1 : prE (restL l) = 0
  · by_cases h2 : iok (negB l) (prV (restL l)) = true
    · have e : piE l = 0 := by unfold piE; rw [if_neg (fun h => h h1), if_pos h2]
      exact .inr (.inr ⟨h1, h2, by rw [if_pos e], by rw [if_pos e], e⟩)
    · have e : piE l = 3 := by unfold piE; rw [if_neg (fun h => h h1), if_neg h2]
      exact .inr (.inl ⟨h1, by simpa using h2, by rw [if_neg (by rw [e]; decide)], by rw [if_neg (by rw [e]; decide)], e⟩)
  · have e : piE l = prE (restL l) := by unfold piE; rw [if_pos h1]
    exact .inl ⟨h1, by rw [if_neg (by rw [e]; exact h1)], by rw [if_neg (by rw [e]; exact h1)], e⟩
theorem dv_s0 : (Try.prog.info? 24).map (·.size) = some 4 := by kernel_rfl
theorem dv_s1 : (Try.prog.info? 33).map (·.size) = some 5 := by kernel_rfl
theorem dv_z2 : (Try.prog.info? 33).map (fun i => (i.zero, i.size)) = some (some (.agg #[.bool false, .int .u64 0, .int .u64 0, .int .u64 0, .int .u64 0]), 5) := by kernel_rfl
theorem dv_z3 : (Try.prog.info? 24).map (fun i => (i.zero, i.size)) = some (some (.agg #[.int .u64 0, .int .u64 0, .int .u64 0, .int .u64 0]), 4) := by kernel_rfl
set_option maxHeartbeats 2000000 in
theorem ivalid_c {A : Nat} (hA : A < M256) (b : Bool) (w : World) :
    Calls Try.prog 31 #[.agg #[.bool b, .int .u64 (lim A 0), .int .u64 (lim A 1), .int .u64 (lim A 2), .int .u64 (lim A 3)]] w fun e w' => e = .returned (.bool (iok b A)) ∧ Below w.heap.size w w' := by
  have hz := zero_test' hA
  cases b
  · rw [show iok false A = true from rfl]
    clear hz
    go_enter Try.func31, Try.ntmps31
    go_wp2_with (first | (refine n_box (by rfl) (T := 33) (x := (.tmp 0)) rfl (v := .agg (#[.bool false, .int .u64 (lim A 0), .int .u64 (lim A 1), .int .u64 (lim A 2), .int .u64 (lim A 3)])) rfl (ds := #[.bool false, .int .u64 (lim A 0), .int .u64 (lim A 1), .int .u64 (lim A 2), .int .u64 (lim A 3)]) rfl ?_; intro w1 Hb1 hbn; have HB := hide hbn; clear hbn; replace Hb1 := hide Hb1) | (refine n_load (by rfl) (T := 4) (x := (.tmp 3)) rfl (g := w.heap.size) (o := 0) rfl Hb1.out (v := .bool false) (by rfl) Try.underlying4 rfl ?_))
    go_ret
    exact ⟨rfl, HB.out⟩
  · rw [show iok true A = !decide (A = 0) from rfl]
    obtain ⟨z, ez⟩ : ∃ z, decide (A = 0) = z := ⟨_, rfl⟩
    rw [ez] at hz ⊢
    clear ez
    go_enter Try.func31, Try.ntmps31
    go_wp2_with (first | (refine n_box (by rfl) (T := 33) (x := (.tmp 0)) rfl (v := .agg (#[.bool true, .int .u64 (lim A 0), .int .u64 (lim A 1), .int .u64 (lim A 2), .int .u64 (lim A 3)])) rfl (ds := #[.bool true, .int .u64 (lim A 0), .int .u64 (lim A 1), .int .u64 (lim A 2), .int .u64 (lim A 3)]) rfl ?_; intro w1 Hb1 hbn; have HB := hide hbn; clear hbn; replace Hb1 := hide Hb1) | (refine n_load (by rfl) (T := 4) (x := (.tmp 3)) rfl (g := w.heap.size) (o := 0) rfl Hb1.out (v := .bool true) (by rfl) Try.underlying4 rfl ?_) | (refine n_loads (by rfl) (T := 24) (x := (.tmp 7)) rfl (g := w.heap.size) (o := 1) rfl Hb1.out (ds := #[.int .u64 (lim A 0), .int .u64 (lim A 1), .int .u64 (lim A 2), .int .u64 (lim A 3)]) (by rfl) Try.underlying24 rfl dv_s0 ?_))
    go_ret
    exact ⟨rfl, HB.out⟩
set_option maxHeartbeats 2000000 in
theorem isz_c {A : Nat} (hA : A < M256) (w : World) :
    Calls Try.prog 32 #[.agg #[.int .u64 (lim A 0), .int .u64 (lim A 1), .int .u64 (lim A 2), .int .u64 (lim A 3)]] w fun e w' => e = .returned (.bool (decide (A = 0))) ∧ Below w.heap.size w w' := by
  have hz := zero_test' hA
  obtain ⟨z, ez⟩ : ∃ z, decide (A = 0) = z := ⟨_, rfl⟩
  rw [ez] at hz ⊢
  clear ez
  go_enter Try.func32, Try.ntmps32
  go_wp2_with (first | (refine n_box (by rfl) (T := 24) (x := (.tmp 0)) rfl (v := .agg (#[.int .u64 (lim A 0), .int .u64 (lim A 1), .int .u64 (lim A 2), .int .u64 (lim A 3)])) rfl (ds := #[.int .u64 (lim A 0), .int .u64 (lim A 1), .int .u64 (lim A 2), .int .u64 (lim A 3)]) rfl ?_; intro w1 Hb1 hbn; have HB := hide hbn; clear hbn; replace Hb1 := hide Hb1) | (refine n_loadw (by rfl) (T := 24) (x := (.tmp 1)) rfl (g := w.heap.size) rfl Hb1.out Try.underlying24 rfl dv_s0 ?_))
  go_ret
  exact ⟨rfl, HB.out⟩
theorem fi_ways {A : Nat} (b : Bool) : (b = true ∧ A = 0 ∧ fiS b A = []) ∨ (b = true ∧ A ≠ 0 ∧ fiS b A = 45 :: decL A) ∨ (b = false ∧ fiS b A = decL A) := by
  unfold fiS
  cases b
  · exact .inr (.inr ⟨rfl, by rw [if_neg (by simp), if_neg (by simp)]⟩)
  · by_cases h : A = 0
    · exact .inl ⟨rfl, h, if_pos ⟨rfl, h⟩⟩
    · exact .inr (.inl ⟨rfl, h, by rw [if_neg (fun hh => h hh.2), if_pos rfl]⟩)
set_option maxHeartbeats 4000000 in
theorem fint_c {A : Nat} (hA : A < M256) (b : Bool) (w : World) :
    Calls Try.prog 16 #[.agg #[.bool b, .int .u64 (lim A 0), .int .u64 (lim A 1), .int .u64 (lim A 2), .int .u64 (lim A 3)]] w fun e w' => e = .returned (.string ⟨(fiS b A).toArray⟩) ∧ Below w.heap.size w w' := by
  have HF := fun w => format_c hA w
  have hl := decL_len (Nat.lt_trans hA m256_78)
  have hcat := str_cons 45 (decL A)
  have hTl3 : ((1 + (decL A).length : Nat) : Int) ≤ 9223372036854775807 := by omega
  rcases fi_ways (A := A) b with ⟨rfl, h, e⟩ | ⟨rfl, h, e⟩ | ⟨rfl, e⟩
  · rw [e]
    have HV := fun w => ivalid_c hA true w
    clear HF hl hcat hTl3 e
    rw [show iok true A = false by rw [h]; rfl] at HV
    replace HV := hide HV
    clear h
    go_enter Try.func16, Try.ntmps16
    go_wp2_with (first | (refine n_box (by rfl) (T := 33) (x := (.tmp 0)) rfl (v := .agg (#[.bool true, .int .u64 (lim A 0), .int .u64 (lim A 1), .int .u64 (lim A 2), .int .u64 (lim A 3)])) rfl (ds := #[.bool true, .int .u64 (lim A 0), .int .u64 (lim A 1), .int .u64 (lim A 2), .int .u64 (lim A 3)]) rfl ?_; intro w1 Hb1 hbn; have HB := hide hbn; clear hbn; replace Hb1 := hide Hb1) | (refine n_loadw (by rfl) (T := 33) (x := (.tmp 1)) rfl (g := w.heap.size) rfl Hb1.out Try.underlying33 rfl dv_s1 ?_))
    refine (HV.out _).mono ?_
    rintro e w2 ⟨rfl, hbc⟩
    replace HB := hide (HB.out.trans (hbc.mono HB.out.size))
    replace Hb1 := hide (Hb1.out.below hbc Hb1.out.lt)
    clear hbc
    go_wp2_with fail
    go_ret
    exact ⟨rfl, HB.out⟩
  · rw [e]
    have HV := fun w => ivalid_c hA true w
    rw [show iok true A = true by unfold iok; simp [h]] at HV
    obtain ⟨l, el⟩ : ∃ l, decL A = l := ⟨_, rfl⟩
    rw [el] at HF hcat hTl3 ⊢
    replace HV := hide HV
    replace HF := hide HF
    clear el hl h e
    go_enter Try.func16, Try.ntmps16
    go_wp2_with (first | (refine n_box (by rfl) (T := 33) (x := (.tmp 0)) rfl (v := .agg (#[.bool true, .int .u64 (lim A 0), .int .u64 (lim A 1), .int .u64 (lim A 2), .int .u64 (lim A 3)])) rfl (ds := #[.bool true, .int .u64 (lim A 0), .int .u64 (lim A 1), .int .u64 (lim A 2), .int .u64 (lim A 3)]) rfl ?_; intro w1 Hb1 hbn; have HB := hide hbn; clear hbn; replace Hb1 := hide Hb1) | (refine n_loadw (by rfl) (T := 33) (x := (.tmp 1)) rfl (g := w.heap.size) rfl Hb1.out Try.underlying33 rfl dv_s1 ?_))
    refine (HV.out _).mono ?_
    rintro e w2 ⟨rfl, hbc⟩
    replace HB := hide (HB.out.trans (hbc.mono HB.out.size))
    replace Hb1 := hide (Hb1.out.below hbc Hb1.out.lt)
    clear hbc
    go_wp2_with (first | (refine n_load (by rfl) (T := 4) (x := (.tmp 8)) rfl (g := w.heap.size) (o := 0) rfl Hb1.out (v := .bool true) (by rfl) Try.underlying4 rfl ?_) | (refine n_loads (by rfl) (T := 24) (x := (.tmp 10)) rfl (g := w.heap.size) (o := 1) rfl Hb1.out (ds := #[.int .u64 (lim A 0), .int .u64 (lim A 1), .int .u64 (lim A 2), .int .u64 (lim A 3)]) (by rfl) Try.underlying24 rfl dv_s0 ?_))
    refine (HF.out _).mono ?_
    rintro e w3 ⟨rfl, hbc⟩
    replace HB := hide (HB.out.trans (hbc.mono HB.out.size))
    replace Hb1 := hide (Hb1.out.below hbc Hb1.out.lt)
    clear hbc
    go_wp2_with fail
    go_ret
    exact ⟨rfl, HB.out⟩
  · rw [e]
    have HV := fun w => ivalid_c hA false w
    rw [show iok false A = true from rfl] at HV
    replace HV := hide HV
    replace HF := hide HF
    clear hl hcat hTl3 e
    go_enter Try.func16, Try.ntmps16
    go_wp2_with (first | (refine n_box (by rfl) (T := 33) (x := (.tmp 0)) rfl (v := .agg (#[.bool false, .int .u64 (lim A 0), .int .u64 (lim A 1), .int .u64 (lim A 2), .int .u64 (lim A 3)])) rfl (ds := #[.bool false, .int .u64 (lim A 0), .int .u64 (lim A 1), .int .u64 (lim A 2), .int .u64 (lim A 3)]) rfl ?_; intro w1 Hb1 hbn; have HB := hide hbn; clear hbn; replace Hb1 := hide Hb1) | (refine n_loadw (by rfl) (T := 33) (x := (.tmp 1)) rfl (g := w.heap.size) rfl Hb1.out Try.underlying33 rfl dv_s1 ?_))
    refine (HV.out _).mono ?_
    rintro e w2 ⟨rfl, hbc⟩
    replace HB := hide (HB.out.trans (hbc.mono HB.out.size))
    replace Hb1 := hide (Hb1.out.below hbc Hb1.out.lt)
    clear hbc
    go_wp2_with (first | (refine n_load (by rfl) (T := 4) (x := (.tmp 8)) rfl (g := w.heap.size) (o := 0) rfl Hb1.out (v := .bool false) (by rfl) Try.underlying4 rfl ?_) | (refine n_loads (by rfl) (T := 24) (x := (.tmp 14)) rfl (g := w.heap.size) (o := 1) rfl Hb1.out (ds := #[.int .u64 (lim A 0), .int .u64 (lim A 1), .int .u64 (lim A 2), .int .u64 (lim A 3)]) (by rfl) Try.underlying24 rfl dv_s0 ?_))
    refine (HF.out _).mono ?_
    rintro e w3 ⟨rfl, hbc⟩
    replace HB := hide (HB.out.trans (hbc.mono HB.out.size))
    replace Hb1 := hide (Hb1.out.below hbc Hb1.out.lt)
    clear hbc
    go_wp2_with fail
    go_ret
    exact ⟨rfl, HB.out⟩
set_option maxHeartbeats 4000000 in
theorem rfint_c {A : Nat} (hA : A < M256) (b : Bool) (w : World) :
    Calls Try.prog 17 #[.agg #[.bool b, .int .u64 (lim A 0), .int .u64 (lim A 1), .int .u64 (lim A 2), .int .u64 (lim A 3)]] w fun e w' => e = .returned (.string ⟨(fiS b A).toArray⟩) ∧ Below w.heap.size w w' := by
  have HF := fun w => rformat_c hA w
  have hl := decL_len (Nat.lt_trans hA m256_78)
  have hcat := str_cons 45 (decL A)
  have hTl3 : ((1 + (decL A).length : Nat) : Int) ≤ 9223372036854775807 := by omega
  rcases fi_ways (A := A) b with ⟨rfl, h, e⟩ | ⟨rfl, h, e⟩ | ⟨rfl, e⟩
  · rw [e]
    have HV := fun w => isz_c hA w
    clear HF hl hcat hTl3 e
    rw [show decide (A = 0) = true by rw [h]; rfl] at HV
    replace HV := hide HV
    clear h
    go_enter Try.func17, Try.ntmps17
    go_wp2_with (first | (refine n_box (by rfl) (T := 33) (x := (.tmp 0)) rfl (v := .agg (#[.bool true, .int .u64 (lim A 0), .int .u64 (lim A 1), .int .u64 (lim A 2), .int .u64 (lim A 3)])) rfl (ds := #[.bool true, .int .u64 (lim A 0), .int .u64 (lim A 1), .int .u64 (lim A 2), .int .u64 (lim A 3)]) rfl ?_; intro w1 Hb1 hbn; have HB := hide hbn; clear hbn; replace Hb1 := hide Hb1) | (refine n_load (by rfl) (T := 4) (x := (.tmp 3)) rfl (g := w.heap.size) (o := 0) rfl Hb1.out (v := .bool true) (by rfl) Try.underlying4 rfl ?_) | (refine n_loads (by rfl) (T := 24) (x := (.tmp 6)) rfl (g := w.heap.size) (o := 1) rfl Hb1.out (ds := #[.int .u64 (lim A 0), .int .u64 (lim A 1), .int .u64 (lim A 2), .int .u64 (lim A 3)]) (by rfl) Try.underlying24 rfl dv_s0 ?_))
    refine (HV.out _).mono ?_
    rintro e w2 ⟨rfl, hbc⟩
    replace HB := hide (HB.out.trans (hbc.mono HB.out.size))
    replace Hb1 := hide (Hb1.out.below hbc Hb1.out.lt)
    clear hbc
    go_wp2_with fail
    go_ret
    exact ⟨rfl, HB.out⟩
  · rw [e]
    have HV := fun w => isz_c hA w
    rw [decide_eq_false h] at HV
    obtain ⟨l, el⟩ : ∃ l, decL A = l := ⟨_, rfl⟩
    rw [el] at HF hcat hTl3 ⊢
    replace HV := hide HV
    replace HF := hide HF
    clear el hl h e
    go_enter Try.func17, Try.ntmps17
    go_wp2_with (first | (refine n_box (by rfl) (T := 33) (x := (.tmp 0)) rfl (v := .agg (#[.bool true, .int .u64 (lim A 0), .int .u64 (lim A 1), .int .u64 (lim A 2), .int .u64 (lim A 3)])) rfl (ds := #[.bool true, .int .u64 (lim A 0), .int .u64 (lim A 1), .int .u64 (lim A 2), .int .u64 (lim A 3)]) rfl ?_; intro w1 Hb1 hbn; have HB := hide hbn; clear hbn; replace Hb1 := hide Hb1) | (refine n_load (by rfl) (T := 4) (x := (.tmp 3)) rfl (g := w.heap.size) (o := 0) rfl Hb1.out (v := .bool true) (by rfl) Try.underlying4 rfl ?_) | (refine n_loads (by rfl) (T := 24) (x := (.tmp 6)) rfl (g := w.heap.size) (o := 1) rfl Hb1.out (ds := #[.int .u64 (lim A 0), .int .u64 (lim A 1), .int .u64 (lim A 2), .int .u64 (lim A 3)]) (by rfl) Try.underlying24 rfl dv_s0 ?_))
    refine (HV.out _).mono ?_
    rintro e w2 ⟨rfl, hbc⟩
    replace HB := hide (HB.out.trans (hbc.mono HB.out.size))
    replace Hb1 := hide (Hb1.out.below hbc Hb1.out.lt)
    clear hbc
    go_wp2_with (first | (refine n_load (by rfl) (T := 4) (x := (.tmp 10)) rfl (g := w.heap.size) (o := 0) rfl Hb1.out (v := .bool true) (by rfl) Try.underlying4 rfl ?_) | (refine n_loads (by rfl) (T := 24) (x := (.tmp 12)) rfl (g := w.heap.size) (o := 1) rfl Hb1.out (ds := #[.int .u64 (lim A 0), .int .u64 (lim A 1), .int .u64 (lim A 2), .int .u64 (lim A 3)]) (by rfl) Try.underlying24 rfl dv_s0 ?_))
    refine (HF.out _).mono ?_
    rintro e w3 ⟨rfl, hbc⟩
    replace HB := hide (HB.out.trans (hbc.mono HB.out.size))
    replace Hb1 := hide (Hb1.out.below hbc Hb1.out.lt)
    clear hbc
    go_wp2_with fail
    go_ret
    exact ⟨rfl, HB.out⟩
  · rw [e]
    replace HF := hide HF
    clear hl hcat hTl3 e
    go_enter Try.func17, Try.ntmps17
    go_wp2_with (first | (refine n_box (by rfl) (T := 33) (x := (.tmp 0)) rfl (v := .agg (#[.bool false, .int .u64 (lim A 0), .int .u64 (lim A 1), .int .u64 (lim A 2), .int .u64 (lim A 3)])) rfl (ds := #[.bool false, .int .u64 (lim A 0), .int .u64 (lim A 1), .int .u64 (lim A 2), .int .u64 (lim A 3)]) rfl ?_; intro w1 Hb1 hbn; have HB := hide hbn; clear hbn; replace Hb1 := hide Hb1) | (refine n_load (by rfl) (T := 4) (x := (.tmp 3)) rfl (g := w.heap.size) (o := 0) rfl Hb1.out (v := .bool false) (by rfl) Try.underlying4 rfl ?_) | (refine n_load (by rfl) (T := 4) (x := (.tmp 10)) rfl (g := w.heap.size) (o := 0) rfl Hb1.out (v := .bool false) (by rfl) Try.underlying4 rfl ?_) | (refine n_loads (by rfl) (T := 24) (x := (.tmp 16)) rfl (g := w.heap.size) (o := 1) rfl Hb1.out (ds := #[.int .u64 (lim A 0), .int .u64 (lim A 1), .int .u64 (lim A 2), .int .u64 (lim A 3)]) (by rfl) Try.underlying24 rfl dv_s0 ?_))
    refine (HF.out _).mono ?_
    rintro e w2 ⟨rfl, hbc⟩
    replace HB := hide (HB.out.trans (hbc.mono HB.out.size))
    replace Hb1 := hide (Hb1.out.below hbc Hb1.out.lt)
    clear hbc
    go_wp2_with fail
    go_ret
    exact ⟨rfl, HB.out⟩
set_option maxHeartbeats 8000000 in
theorem pint_c (s : ByteArray) (hs : s.size ≤ 1000000) (w : World) :
    Calls Try.prog 13 #[.string s] w fun e w' => e = .returned (.tuple #[.agg #[.bool (piB s.data.toList), .int .u64 (lim (piV s.data.toList) 0), .int .u64 (lim (piV s.data.toList) 1), .int .u64 (lim (piV s.data.toList) 2), .int .u64 (lim (piV s.data.toList) 3)], .int .i64 (piE s.data.toList)]) ∧ Below w.heap.size w w' := by
  have HC := fun w => cutp_c s hs w
  obtain ⟨r, er⟩ : ∃ r, restS s = r := ⟨_, rfl⟩
  have hrl : r.data.toList = restL s.data.toList := by rw [← er]; exact restS_list s
  have HP := fun w => parse_c r (by rw [← er]; exact Nat.le_trans (restS_size s) hs) w
  rw [hrl] at HP
  have hlt := prV_lt (restL s.data.toList)
  have hway := pi_ways s.data.toList
  rw [er] at HC
  obtain ⟨b, eb⟩ : ∃ b, negB s.data.toList = b := ⟨_, rfl⟩
  obtain ⟨N, eN⟩ : ∃ N, prV (restL s.data.toList) = N := ⟨_, rfl⟩
  obtain ⟨E, eE⟩ : ∃ N, prE (restL s.data.toList) = N := ⟨_, rfl⟩
  rw [eb] at HC hway
  rw [eN, eE] at HP hway
  rw [eN] at hlt
  have HV := fun w => ivalid_c hlt b w
  replace HC := hide HC
  replace HP := hide HP
  rcases hway with ⟨hE, e1, e2, e3⟩ | ⟨rfl, hv, e1, e2, e3⟩ | ⟨rfl, hv, e1, e2, e3⟩
  · have hE' : (E != 0) = true := by simpa using hE
    rw [e1, e2, e3, lim_zero, lim_zero, lim_zero, lim_zero]
    clear e1 e2 e3 eb eN eE HV er hrl hE
    go_enter Try.func13, Try.ntmps13
    go_wp2_with (first | (refine n_alloc (by rfl) (T := 33) rfl dv_z2 (ds := #[.bool false, .int .u64 0, .int .u64 0, .int .u64 0, .int .u64 0]) rfl ?_; intro w1 Hb2 hbn; have HB := hide hbn; clear hbn; replace Hb2 := hide Hb2))
    refine (HC.out _).mono ?_
    rintro e w1' ⟨rfl, rfl⟩
    go_wp2_with fail
    refine (HP.out _).mono ?_
    rintro e w2 ⟨rfl, hbc⟩
    replace HB := hide (HB.out.trans (hbc.mono HB.out.size))
    replace Hb2 := hide (Hb2.out.below hbc Hb2.out.lt)
    clear hbc
    go_wp2_with (first | (refine n_alloc (by rfl) (T := 24) rfl dv_z3 (ds := #[.int .u64 0, .int .u64 0, .int .u64 0, .int .u64 0]) rfl ?_; intro w3 Hb6 hbn; have hsz_w2 := HB.out.size; have lt_b2_b6 := Hb2.out.lt; replace HB := hide (HB.out.trans (hbn.mono HB.out.size)); replace Hb2 := hide (Hb2.out.below hbn Hb2.out.lt); clear hbn; replace Hb6 := hide Hb6) | (refine n_storew (by rfl) (T := 24) (x := (.tmp 6)) (y := (.tmp 17)) rfl (g := w2.heap.size) rfl (vs := #[.int .u64 (lim N 0), .int .u64 (lim N 1), .int .u64 (lim N 2), .int .u64 (lim N 3)]) rfl (by first | (simp [Value.oneCell']; done)) Hb6.out rfl dv_s0 ?_; clear Hb6; intro w4 Hb6 hun; replace Hb6 := hide Hb6; replace HB := hide (hun.keep w.heap.size w (by omega) HB.out); replace Hb2 := hide (Hb2.out.upd hun (by omega)); clear hun) | (refine n_loadw (by rfl) (T := 24) (x := (.tmp 6)) rfl (g := w2.heap.size) rfl Hb6.out Try.underlying24 rfl dv_s0 ?_) | (refine n_alloc (by rfl) (T := 33) rfl dv_z2 (ds := #[.bool false, .int .u64 0, .int .u64 0, .int .u64 0, .int .u64 0]) rfl ?_; intro w5 Hb8 hbn; have hsz_w4 := HB.out.size; have lt_b2_b8 := Hb2.out.lt; have lt_b6_b8 := Hb6.out.lt; replace HB := hide (HB.out.trans (hbn.mono HB.out.size)); replace Hb2 := hide (Hb2.out.below hbn Hb2.out.lt); replace Hb6 := hide (Hb6.out.below hbn Hb6.out.lt); clear hbn; replace Hb8 := hide Hb8) | (refine n_storew (by rfl) (T := 33) (x := (.tmp 8)) (y := (.tmp 21)) rfl (g := w4.heap.size) rfl (vs := #[.bool b, .int .u64 (lim N 0), .int .u64 (lim N 1), .int .u64 (lim N 2), .int .u64 (lim N 3)]) rfl (by first | (simp [Value.oneCell']; done)) Hb8.out rfl dv_s1 ?_; clear Hb8; intro w6 Hb8 hun; replace Hb8 := hide Hb8; replace HB := hide (hun.keep w.heap.size w (by omega) HB.out); replace Hb2 := hide (Hb2.out.upd hun (by omega)); replace Hb6 := hide (Hb6.out.upd hun (by omega)); clear hun) | (refine n_storew (by rfl) (T := 33) (x := (.tmp 2)) (y := (.tmp 25)) rfl (g := w.heap.size) rfl (vs := #[.bool false, .int .u64 0, .int .u64 0, .int .u64 0, .int .u64 0]) rfl (by first | (simp [Value.oneCell']; done)) Hb2.out rfl dv_s1 ?_; clear Hb2; intro w7 Hb2 hun; replace Hb2 := hide Hb2; replace HB := hide (hun.keep w.heap.size w (by omega) HB.out); replace Hb6 := hide (Hb6.out.upd hun (by omega)); replace Hb8 := hide (Hb8.out.upd hun (by omega)); clear hun))
    exact bodyPost_ret (results2 rfl (reads_row (g := w.heap.size) rfl Hb2.out Try.underlying33 rfl dv_s1) (reads_tmp rfl)) rfl ⟨rfl, HB.out⟩
  · rw [e1, e2, e3, lim_zero, lim_zero, lim_zero, lim_zero]
    rw [hv] at HV
    replace HV := hide HV
    clear e1 e2 e3 eb eN eE er hrl hv
    go_enter Try.func13, Try.ntmps13
    go_wp2_with (first | (refine n_alloc (by rfl) (T := 33) rfl dv_z2 (ds := #[.bool false, .int .u64 0, .int .u64 0, .int .u64 0, .int .u64 0]) rfl ?_; intro w1 Hb2 hbn; have HB := hide hbn; clear hbn; replace Hb2 := hide Hb2))
    refine (HC.out _).mono ?_
    rintro e w1' ⟨rfl, rfl⟩
    go_wp2_with fail
    refine (HP.out _).mono ?_
    rintro e w2 ⟨rfl, hbc⟩
    replace HB := hide (HB.out.trans (hbc.mono HB.out.size))
    replace Hb2 := hide (Hb2.out.below hbc Hb2.out.lt)
    clear hbc
    go_wp2_with (first | (refine n_alloc (by rfl) (T := 24) rfl dv_z3 (ds := #[.int .u64 0, .int .u64 0, .int .u64 0, .int .u64 0]) rfl ?_; intro w3 Hb6 hbn; have hsz_w2 := HB.out.size; have lt_b2_b6 := Hb2.out.lt; replace HB := hide (HB.out.trans (hbn.mono HB.out.size)); replace Hb2 := hide (Hb2.out.below hbn Hb2.out.lt); clear hbn; replace Hb6 := hide Hb6) | (refine n_storew (by rfl) (T := 24) (x := (.tmp 6)) (y := (.tmp 17)) rfl (g := w2.heap.size) rfl (vs := #[.int .u64 (lim N 0), .int .u64 (lim N 1), .int .u64 (lim N 2), .int .u64 (lim N 3)]) rfl (by first | (simp [Value.oneCell']; done)) Hb6.out rfl dv_s0 ?_; clear Hb6; intro w4 Hb6 hun; replace Hb6 := hide Hb6; replace HB := hide (hun.keep w.heap.size w (by omega) HB.out); replace Hb2 := hide (Hb2.out.upd hun (by omega)); clear hun) | (refine n_loadw (by rfl) (T := 24) (x := (.tmp 6)) rfl (g := w2.heap.size) rfl Hb6.out Try.underlying24 rfl dv_s0 ?_) | (refine n_alloc (by rfl) (T := 33) rfl dv_z2 (ds := #[.bool false, .int .u64 0, .int .u64 0, .int .u64 0, .int .u64 0]) rfl ?_; intro w5 Hb8 hbn; have hsz_w4 := HB.out.size; have lt_b2_b8 := Hb2.out.lt; have lt_b6_b8 := Hb6.out.lt; replace HB := hide (HB.out.trans (hbn.mono HB.out.size)); replace Hb2 := hide (Hb2.out.below hbn Hb2.out.lt); replace Hb6 := hide (Hb6.out.below hbn Hb6.out.lt); clear hbn; replace Hb8 := hide Hb8) | (refine n_storew (by rfl) (T := 33) (x := (.tmp 8)) (y := (.tmp 21)) rfl (g := w4.heap.size) rfl (vs := #[.bool b, .int .u64 (lim N 0), .int .u64 (lim N 1), .int .u64 (lim N 2), .int .u64 (lim N 3)]) rfl (by first | (simp [Value.oneCell']; done)) Hb8.out rfl dv_s1 ?_; clear Hb8; intro w6 Hb8 hun; replace Hb8 := hide Hb8; replace HB := hide (hun.keep w.heap.size w (by omega) HB.out); replace Hb2 := hide (Hb2.out.upd hun (by omega)); replace Hb6 := hide (Hb6.out.upd hun (by omega)); clear hun) | (refine n_loadw (by rfl) (T := 33) (x := (.tmp 8)) rfl (g := w4.heap.size) rfl Hb8.out Try.underlying33 rfl dv_s1 ?_))
    refine (HV.out _).mono ?_
    rintro e w7 ⟨rfl, hbc⟩
    replace HB := hide (HB.out.trans (hbc.mono HB.out.size))
    replace Hb2 := hide (Hb2.out.below hbc Hb2.out.lt)
    replace Hb6 := hide (Hb6.out.below hbc Hb6.out.lt)
    replace Hb8 := hide (Hb8.out.below hbc Hb8.out.lt)
    clear hbc
    go_wp2_with (first | (refine n_storew (by rfl) (T := 33) (x := (.tmp 2)) (y := (.tmp 31)) rfl (g := w.heap.size) rfl (vs := #[.bool false, .int .u64 0, .int .u64 0, .int .u64 0, .int .u64 0]) rfl (by first | (simp [Value.oneCell']; done)) Hb2.out rfl dv_s1 ?_; clear Hb2; intro w8 Hb2 hun; replace Hb2 := hide Hb2; replace HB := hide (hun.keep w.heap.size w (by omega) HB.out); replace Hb6 := hide (Hb6.out.upd hun (by omega)); replace Hb8 := hide (Hb8.out.upd hun (by omega)); clear hun))
    exact bodyPost_ret (results2 rfl (reads_row (g := w.heap.size) rfl Hb2.out Try.underlying33 rfl dv_s1) (reads_tmp rfl)) rfl ⟨rfl, HB.out⟩
  · rw [e1, e2, e3]
    rw [hv] at HV
    replace HV := hide HV
    clear e1 e2 e3 eb eN eE er hrl hv
    go_enter Try.func13, Try.ntmps13
    go_wp2_with (first | (refine n_alloc (by rfl) (T := 33) rfl dv_z2 (ds := #[.bool false, .int .u64 0, .int .u64 0, .int .u64 0, .int .u64 0]) rfl ?_; intro w1 Hb2 hbn; have HB := hide hbn; clear hbn; replace Hb2 := hide Hb2))
    refine (HC.out _).mono ?_
    rintro e w1' ⟨rfl, rfl⟩
    go_wp2_with fail
    refine (HP.out _).mono ?_
    rintro e w2 ⟨rfl, hbc⟩
    replace HB := hide (HB.out.trans (hbc.mono HB.out.size))
    replace Hb2 := hide (Hb2.out.below hbc Hb2.out.lt)
    clear hbc
    go_wp2_with (first | (refine n_alloc (by rfl) (T := 24) rfl dv_z3 (ds := #[.int .u64 0, .int .u64 0, .int .u64 0, .int .u64 0]) rfl ?_; intro w3 Hb6 hbn; have hsz_w2 := HB.out.size; have lt_b2_b6 := Hb2.out.lt; replace HB := hide (HB.out.trans (hbn.mono HB.out.size)); replace Hb2 := hide (Hb2.out.below hbn Hb2.out.lt); clear hbn; replace Hb6 := hide Hb6) | (refine n_storew (by rfl) (T := 24) (x := (.tmp 6)) (y := (.tmp 17)) rfl (g := w2.heap.size) rfl (vs := #[.int .u64 (lim N 0), .int .u64 (lim N 1), .int .u64 (lim N 2), .int .u64 (lim N 3)]) rfl (by first | (simp [Value.oneCell']; done)) Hb6.out rfl dv_s0 ?_; clear Hb6; intro w4 Hb6 hun; replace Hb6 := hide Hb6; replace HB := hide (hun.keep w.heap.size w (by omega) HB.out); replace Hb2 := hide (Hb2.out.upd hun (by omega)); clear hun) | (refine n_loadw (by rfl) (T := 24) (x := (.tmp 6)) rfl (g := w2.heap.size) rfl Hb6.out Try.underlying24 rfl dv_s0 ?_) | (refine n_alloc (by rfl) (T := 33) rfl dv_z2 (ds := #[.bool false, .int .u64 0, .int .u64 0, .int .u64 0, .int .u64 0]) rfl ?_; intro w5 Hb8 hbn; have hsz_w4 := HB.out.size; have lt_b2_b8 := Hb2.out.lt; have lt_b6_b8 := Hb6.out.lt; replace HB := hide (HB.out.trans (hbn.mono HB.out.size)); replace Hb2 := hide (Hb2.out.below hbn Hb2.out.lt); replace Hb6 := hide (Hb6.out.below hbn Hb6.out.lt); clear hbn; replace Hb8 := hide Hb8) | (refine n_storew (by rfl) (T := 33) (x := (.tmp 8)) (y := (.tmp 21)) rfl (g := w4.heap.size) rfl (vs := #[.bool b, .int .u64 (lim N 0), .int .u64 (lim N 1), .int .u64 (lim N 2), .int .u64 (lim N 3)]) rfl (by first | (simp [Value.oneCell']; done)) Hb8.out rfl dv_s1 ?_; clear Hb8; intro w6 Hb8 hun; replace Hb8 := hide Hb8; replace HB := hide (hun.keep w.heap.size w (by omega) HB.out); replace Hb2 := hide (Hb2.out.upd hun (by omega)); replace Hb6 := hide (Hb6.out.upd hun (by omega)); clear hun) | (refine n_loadw (by rfl) (T := 33) (x := (.tmp 8)) rfl (g := w4.heap.size) rfl Hb8.out Try.underlying33 rfl dv_s1 ?_))
    refine (HV.out _).mono ?_
    rintro e w7 ⟨rfl, hbc⟩
    replace HB := hide (HB.out.trans (hbc.mono HB.out.size))
    replace Hb2 := hide (Hb2.out.below hbc Hb2.out.lt)
    replace Hb6 := hide (Hb6.out.below hbc Hb6.out.lt)
    replace Hb8 := hide (Hb8.out.below hbc Hb8.out.lt)
    clear hbc
    go_wp2_with (first | (refine n_loadw (by rfl) (T := 33) (x := (.tmp 8)) rfl (g := w4.heap.size) rfl Hb8.out Try.underlying33 rfl dv_s1 ?_) | (refine n_storew (by rfl) (T := 33) (x := (.tmp 2)) (y := (.tmp 32)) rfl (g := w.heap.size) rfl (vs := #[.bool b, .int .u64 (lim N 0), .int .u64 (lim N 1), .int .u64 (lim N 2), .int .u64 (lim N 3)]) rfl (by first | (simp [Value.oneCell']; done)) Hb2.out rfl dv_s1 ?_; clear Hb2; intro w8 Hb2 hun; replace Hb2 := hide Hb2; replace HB := hide (hun.keep w.heap.size w (by omega) HB.out); replace Hb6 := hide (Hb6.out.upd hun (by omega)); replace Hb8 := hide (Hb8.out.upd hun (by omega)); clear hun))
    exact bodyPost_ret (results2 rfl (reads_row (g := w.heap.size) rfl Hb2.out Try.underlying33 rfl dv_s1) (reads_tmp rfl)) rfl ⟨rfl, HB.out⟩
set_option maxHeartbeats 8000000 in
theorem rpint_c (s : ByteArray) (hs : s.size ≤ 1000000) (w : World) :
    Calls Try.prog 14 #[.string s] w fun e w' => e = .returned (.tuple #[.agg #[.bool (piB s.data.toList), .int .u64 (lim (piV s.data.toList) 0), .int .u64 (lim (piV s.data.toList) 1), .int .u64 (lim (piV s.data.toList) 2), .int .u64 (lim (piV s.data.toList) 3)], .int .i64 (piE s.data.toList)]) ∧ Below w.heap.size w w' := by
  have hlt := prV_lt (restL s.data.toList)
  have hway := pi_ways s.data.toList
  obtain ⟨N, eN⟩ : ∃ N, prV (restL s.data.toList) = N := ⟨_, rfl⟩
  obtain ⟨E, eE⟩ : ∃ N, prE (restL s.data.toList) = N := ⟨_, rfl⟩
  rw [eN, eE] at hway
  rw [eN] at hlt
  have HZ := fun w => isz_c hlt w
  by_cases hneg : negB s.data.toList = true
  · have hp := neg_pos hneg
    have HP := fun w => rparse_c (s.extract 1 s.size) (by rw [ByteArray.size_extract]; omega) w
    rw [cut_list, show s.data.toList.drop 1 = restL s.data.toList by unfold restL; rw [if_pos hneg], eN, eE] at HP
    replace HP := hide HP
    have h0 : (0 : Int) < (s.size : Int) := by omega
    have h1 : (1 : Int) ≤ (s.size : Int) := by omega
    have h45 := neg_yes hp hneg
    rw [hneg] at hway
    clear hneg
    rcases hway with ⟨hE, e1, e2, e3⟩ | ⟨rfl, hv, e1, e2, e3⟩ | ⟨rfl, hv, e1, e2, e3⟩
    · have hE' : (E != 0) = true := by simpa using hE
      rw [e1, e2, e3, lim_zero, lim_zero, lim_zero, lim_zero]
      clear e1 e2 e3 eN eE HZ hE
      go_enter Try.func14, Try.ntmps14
      go_wp2_with (first | (refine n_alloc (by rfl) (T := 33) rfl dv_z2 (ds := #[.bool false, .int .u64 0, .int .u64 0, .int .u64 0, .int .u64 0]) rfl ?_; intro w1 Hb2 hbn; have HB := hide hbn; clear hbn; replace Hb2 := hide Hb2))
      refine (HP.out _).mono ?_
      rintro e w2 ⟨rfl, hbc⟩
      replace HB := hide (HB.out.trans (hbc.mono HB.out.size))
      replace Hb2 := hide (Hb2.out.below hbc Hb2.out.lt)
      clear hbc
      go_wp2_with (first | (refine n_alloc (by rfl) (T := 24) rfl dv_z3 (ds := #[.int .u64 0, .int .u64 0, .int .u64 0, .int .u64 0]) rfl ?_; intro w3 Hb6 hbn; have hsz_w2 := HB.out.size; have lt_b2_b6 := Hb2.out.lt; replace HB := hide (HB.out.trans (hbn.mono HB.out.size)); replace Hb2 := hide (Hb2.out.below hbn Hb2.out.lt); clear hbn; replace Hb6 := hide Hb6) | (refine n_storew (by rfl) (T := 24) (x := (.tmp 6)) (y := (.tmp 23)) rfl (g := w2.heap.size) rfl (vs := #[.int .u64 (lim N 0), .int .u64 (lim N 1), .int .u64 (lim N 2), .int .u64 (lim N 3)]) rfl (by first | (simp [Value.oneCell']; done)) Hb6.out rfl dv_s0 ?_; clear Hb6; intro w4 Hb6 hun; replace Hb6 := hide Hb6; replace HB := hide (hun.keep w.heap.size w (by omega) HB.out); replace Hb2 := hide (Hb2.out.upd hun (by omega)); clear hun) | (refine n_storew (by rfl) (T := 33) (x := (.tmp 2)) (y := (.tmp 27)) rfl (g := w.heap.size) rfl (vs := #[.bool false, .int .u64 0, .int .u64 0, .int .u64 0, .int .u64 0]) rfl (by first | (simp [Value.oneCell']; done)) Hb2.out rfl dv_s1 ?_; clear Hb2; intro w5 Hb2 hun; replace Hb2 := hide Hb2; replace HB := hide (hun.keep w.heap.size w (by omega) HB.out); replace Hb6 := hide (Hb6.out.upd hun (by omega)); clear hun))
      exact bodyPost_ret (results2 rfl (reads_row (g := w.heap.size) rfl Hb2.out Try.underlying33 rfl dv_s1) (reads_tmp rfl)) rfl ⟨rfl, HB.out⟩
    · rw [e1, e2, e3, lim_zero, lim_zero, lim_zero, lim_zero]
      rw [iok_zero hv] at HZ
      replace HZ := hide HZ
      clear e1 e2 e3 eN eE hv
      go_enter Try.func14, Try.ntmps14
      go_wp2_with (first | (refine n_alloc (by rfl) (T := 33) rfl dv_z2 (ds := #[.bool false, .int .u64 0, .int .u64 0, .int .u64 0, .int .u64 0]) rfl ?_; intro w1 Hb2 hbn; have HB := hide hbn; clear hbn; replace Hb2 := hide Hb2))
      refine (HP.out _).mono ?_
      rintro e w2 ⟨rfl, hbc⟩
      replace HB := hide (HB.out.trans (hbc.mono HB.out.size))
      replace Hb2 := hide (Hb2.out.below hbc Hb2.out.lt)
      clear hbc
      go_wp2_with (first | (refine n_alloc (by rfl) (T := 24) rfl dv_z3 (ds := #[.int .u64 0, .int .u64 0, .int .u64 0, .int .u64 0]) rfl ?_; intro w3 Hb6 hbn; have hsz_w2 := HB.out.size; have lt_b2_b6 := Hb2.out.lt; replace HB := hide (HB.out.trans (hbn.mono HB.out.size)); replace Hb2 := hide (Hb2.out.below hbn Hb2.out.lt); clear hbn; replace Hb6 := hide Hb6) | (refine n_storew (by rfl) (T := 24) (x := (.tmp 6)) (y := (.tmp 23)) rfl (g := w2.heap.size) rfl (vs := #[.int .u64 (lim N 0), .int .u64 (lim N 1), .int .u64 (lim N 2), .int .u64 (lim N 3)]) rfl (by first | (simp [Value.oneCell']; done)) Hb6.out rfl dv_s0 ?_; clear Hb6; intro w4 Hb6 hun; replace Hb6 := hide Hb6; replace HB := hide (hun.keep w.heap.size w (by omega) HB.out); replace Hb2 := hide (Hb2.out.upd hun (by omega)); clear hun) | (refine n_loadw (by rfl) (T := 24) (x := (.tmp 6)) rfl (g := w2.heap.size) rfl Hb6.out Try.underlying24 rfl dv_s0 ?_))
      refine (HZ.out _).mono ?_
      rintro e w5 ⟨rfl, hbc⟩
      replace HB := hide (HB.out.trans (hbc.mono HB.out.size))
      replace Hb2 := hide (Hb2.out.below hbc Hb2.out.lt)
      replace Hb6 := hide (Hb6.out.below hbc Hb6.out.lt)
      clear hbc
      go_wp2_with (first | (refine n_storew (by rfl) (T := 33) (x := (.tmp 2)) (y := (.tmp 34)) rfl (g := w.heap.size) rfl (vs := #[.bool false, .int .u64 0, .int .u64 0, .int .u64 0, .int .u64 0]) rfl (by first | (simp [Value.oneCell']; done)) Hb2.out rfl dv_s1 ?_; clear Hb2; intro w6 Hb2 hun; replace Hb2 := hide Hb2; replace HB := hide (hun.keep w.heap.size w (by omega) HB.out); replace Hb6 := hide (Hb6.out.upd hun (by omega)); clear hun))
      exact bodyPost_ret (results2 rfl (reads_row (g := w.heap.size) rfl Hb2.out Try.underlying33 rfl dv_s1) (reads_tmp rfl)) rfl ⟨rfl, HB.out⟩
    · rw [e1, e2, e3]
      rw [iok_one hv] at HZ
      replace HZ := hide HZ
      clear e1 e2 e3 eN eE hv
      go_enter Try.func14, Try.ntmps14
      go_wp2_with (first | (refine n_alloc (by rfl) (T := 33) rfl dv_z2 (ds := #[.bool false, .int .u64 0, .int .u64 0, .int .u64 0, .int .u64 0]) rfl ?_; intro w1 Hb2 hbn; have HB := hide hbn; clear hbn; replace Hb2 := hide Hb2))
      refine (HP.out _).mono ?_
      rintro e w2 ⟨rfl, hbc⟩
      replace HB := hide (HB.out.trans (hbc.mono HB.out.size))
      replace Hb2 := hide (Hb2.out.below hbc Hb2.out.lt)
      clear hbc
      go_wp2_with (first | (refine n_alloc (by rfl) (T := 24) rfl dv_z3 (ds := #[.int .u64 0, .int .u64 0, .int .u64 0, .int .u64 0]) rfl ?_; intro w3 Hb6 hbn; have hsz_w2 := HB.out.size; have lt_b2_b6 := Hb2.out.lt; replace HB := hide (HB.out.trans (hbn.mono HB.out.size)); replace Hb2 := hide (Hb2.out.below hbn Hb2.out.lt); clear hbn; replace Hb6 := hide Hb6) | (refine n_storew (by rfl) (T := 24) (x := (.tmp 6)) (y := (.tmp 23)) rfl (g := w2.heap.size) rfl (vs := #[.int .u64 (lim N 0), .int .u64 (lim N 1), .int .u64 (lim N 2), .int .u64 (lim N 3)]) rfl (by first | (simp [Value.oneCell']; done)) Hb6.out rfl dv_s0 ?_; clear Hb6; intro w4 Hb6 hun; replace Hb6 := hide Hb6; replace HB := hide (hun.keep w.heap.size w (by omega) HB.out); replace Hb2 := hide (Hb2.out.upd hun (by omega)); clear hun) | (refine n_loadw (by rfl) (T := 24) (x := (.tmp 6)) rfl (g := w2.heap.size) rfl Hb6.out Try.underlying24 rfl dv_s0 ?_))
      refine (HZ.out _).mono ?_
      rintro e w5 ⟨rfl, hbc⟩
      replace HB := hide (HB.out.trans (hbc.mono HB.out.size))
      replace Hb2 := hide (Hb2.out.below hbc Hb2.out.lt)
      replace Hb6 := hide (Hb6.out.below hbc Hb6.out.lt)
      clear hbc
      go_wp2_with (first | (refine n_loadw (by rfl) (T := 24) (x := (.tmp 6)) rfl (g := w2.heap.size) rfl Hb6.out Try.underlying24 rfl dv_s0 ?_) | (refine n_storew (by rfl) (T := 33) (x := (.tmp 2)) (y := (.tmp 37)) rfl (g := w.heap.size) rfl (vs := #[.bool true, .int .u64 (lim N 0), .int .u64 (lim N 1), .int .u64 (lim N 2), .int .u64 (lim N 3)]) rfl (by first | (simp [Value.oneCell']; done)) Hb2.out rfl dv_s1 ?_; clear Hb2; intro w6 Hb2 hun; replace Hb2 := hide Hb2; replace HB := hide (hun.keep w.heap.size w (by omega) HB.out); replace Hb6 := hide (Hb6.out.upd hun (by omega)); clear hun))
      exact bodyPost_ret (results2 rfl (reads_row (g := w.heap.size) rfl Hb2.out Try.underlying33 rfl dv_s1) (reads_tmp rfl)) rfl ⟨rfl, HB.out⟩
  · have hneg' : negB s.data.toList = false := by simpa using hneg
    have HP := fun w => rparse_c s hs w
    rw [show prV s.data.toList = N by rw [← eN, restL, if_neg hneg], show prE s.data.toList = E by rw [← eE, restL, if_neg hneg]] at HP
    replace HP := hide HP
    have h45 : s.size = 0 ∨ ∃ h : 0 < s.size, ((s[0].toNat : Int) == 45) = false := by
      rcases Nat.eq_zero_or_pos s.size with h | h
      · exact .inl h
      · exact .inr ⟨h, neg_no h hneg'⟩
    rw [hneg'] at hway
    clear hneg hneg'
    rcases h45 with h0 | ⟨hp, h45⟩
    · have h0' : ¬ (0 : Int) < (s.size : Int) := by omega
      have h0'' : (s.size : Int) ≤ 0 := by omega
      clear h0
      rcases hway with ⟨hE, e1, e2, e3⟩ | ⟨rfl, hv, e1, e2, e3⟩ | ⟨rfl, hv, e1, e2, e3⟩
      · have hE' : (E != 0) = true := by simpa using hE
        rw [e1, e2, e3, lim_zero, lim_zero, lim_zero, lim_zero]
        clear e1 e2 e3 eN eE HZ hE
        go_enter Try.func14, Try.ntmps14
        go_wp2_with (first | (refine n_alloc (by rfl) (T := 33) rfl dv_z2 (ds := #[.bool false, .int .u64 0, .int .u64 0, .int .u64 0, .int .u64 0]) rfl ?_; intro w1 Hb2 hbn; have HB := hide hbn; clear hbn; replace Hb2 := hide Hb2))
        refine (HP.out _).mono ?_
        rintro e w2 ⟨rfl, hbc⟩
        replace HB := hide (HB.out.trans (hbc.mono HB.out.size))
        replace Hb2 := hide (Hb2.out.below hbc Hb2.out.lt)
        clear hbc
        go_wp2_with (first | (refine n_alloc (by rfl) (T := 24) rfl dv_z3 (ds := #[.int .u64 0, .int .u64 0, .int .u64 0, .int .u64 0]) rfl ?_; intro w3 Hb6 hbn; have hsz_w2 := HB.out.size; have lt_b2_b6 := Hb2.out.lt; replace HB := hide (HB.out.trans (hbn.mono HB.out.size)); replace Hb2 := hide (Hb2.out.below hbn Hb2.out.lt); clear hbn; replace Hb6 := hide Hb6) | (refine n_storew (by rfl) (T := 24) (x := (.tmp 6)) (y := (.tmp 23)) rfl (g := w2.heap.size) rfl (vs := #[.int .u64 (lim N 0), .int .u64 (lim N 1), .int .u64 (lim N 2), .int .u64 (lim N 3)]) rfl (by first | (simp [Value.oneCell']; done)) Hb6.out rfl dv_s0 ?_; clear Hb6; intro w4 Hb6 hun; replace Hb6 := hide Hb6; replace HB := hide (hun.keep w.heap.size w (by omega) HB.out); replace Hb2 := hide (Hb2.out.upd hun (by omega)); clear hun) | (refine n_storew (by rfl) (T := 33) (x := (.tmp 2)) (y := (.tmp 27)) rfl (g := w.heap.size) rfl (vs := #[.bool false, .int .u64 0, .int .u64 0, .int .u64 0, .int .u64 0]) rfl (by first | (simp [Value.oneCell']; done)) Hb2.out rfl dv_s1 ?_; clear Hb2; intro w5 Hb2 hun; replace Hb2 := hide Hb2; replace HB := hide (hun.keep w.heap.size w (by omega) HB.out); replace Hb6 := hide (Hb6.out.upd hun (by omega)); clear hun))
        exact bodyPost_ret (results2 rfl (reads_row (g := w.heap.size) rfl Hb2.out Try.underlying33 rfl dv_s1) (reads_tmp rfl)) rfl ⟨rfl, HB.out⟩
      · exact absurd hv (by simp [iok])
      · rw [e1, e2, e3]
        clear HZ
        clear e1 e2 e3 eN eE hv
        go_enter Try.func14, Try.ntmps14
        go_wp2_with (first | (refine n_alloc (by rfl) (T := 33) rfl dv_z2 (ds := #[.bool false, .int .u64 0, .int .u64 0, .int .u64 0, .int .u64 0]) rfl ?_; intro w1 Hb2 hbn; have HB := hide hbn; clear hbn; replace Hb2 := hide Hb2))
        refine (HP.out _).mono ?_
        rintro e w2 ⟨rfl, hbc⟩
        replace HB := hide (HB.out.trans (hbc.mono HB.out.size))
        replace Hb2 := hide (Hb2.out.below hbc Hb2.out.lt)
        clear hbc
        go_wp2_with (first | (refine n_alloc (by rfl) (T := 24) rfl dv_z3 (ds := #[.int .u64 0, .int .u64 0, .int .u64 0, .int .u64 0]) rfl ?_; intro w3 Hb6 hbn; have hsz_w2 := HB.out.size; have lt_b2_b6 := Hb2.out.lt; replace HB := hide (HB.out.trans (hbn.mono HB.out.size)); replace Hb2 := hide (Hb2.out.below hbn Hb2.out.lt); clear hbn; replace Hb6 := hide Hb6) | (refine n_storew (by rfl) (T := 24) (x := (.tmp 6)) (y := (.tmp 23)) rfl (g := w2.heap.size) rfl (vs := #[.int .u64 (lim N 0), .int .u64 (lim N 1), .int .u64 (lim N 2), .int .u64 (lim N 3)]) rfl (by first | (simp [Value.oneCell']; done)) Hb6.out rfl dv_s0 ?_; clear Hb6; intro w4 Hb6 hun; replace Hb6 := hide Hb6; replace HB := hide (hun.keep w.heap.size w (by omega) HB.out); replace Hb2 := hide (Hb2.out.upd hun (by omega)); clear hun) | (refine n_loadw (by rfl) (T := 24) (x := (.tmp 6)) rfl (g := w2.heap.size) rfl Hb6.out Try.underlying24 rfl dv_s0 ?_) | (refine n_storew (by rfl) (T := 33) (x := (.tmp 2)) (y := (.tmp 37)) rfl (g := w.heap.size) rfl (vs := #[.bool false, .int .u64 (lim N 0), .int .u64 (lim N 1), .int .u64 (lim N 2), .int .u64 (lim N 3)]) rfl (by first | (simp [Value.oneCell']; done)) Hb2.out rfl dv_s1 ?_; clear Hb2; intro w5 Hb2 hun; replace Hb2 := hide Hb2; replace HB := hide (hun.keep w.heap.size w (by omega) HB.out); replace Hb6 := hide (Hb6.out.upd hun (by omega)); clear hun))
        exact bodyPost_ret (results2 rfl (reads_row (g := w.heap.size) rfl Hb2.out Try.underlying33 rfl dv_s1) (reads_tmp rfl)) rfl ⟨rfl, HB.out⟩
    · have h0 : (0 : Int) < (s.size : Int) := by omega
      rcases hway with ⟨hE, e1, e2, e3⟩ | ⟨rfl, hv, e1, e2, e3⟩ | ⟨rfl, hv, e1, e2, e3⟩
      · have hE' : (E != 0) = true := by simpa using hE
        rw [e1, e2, e3, lim_zero, lim_zero, lim_zero, lim_zero]
        clear e1 e2 e3 eN eE HZ hE
        go_enter Try.func14, Try.ntmps14
        go_wp2_with (first | (refine n_alloc (by rfl) (T := 33) rfl dv_z2 (ds := #[.bool false, .int .u64 0, .int .u64 0, .int .u64 0, .int .u64 0]) rfl ?_; intro w1 Hb2 hbn; have HB := hide hbn; clear hbn; replace Hb2 := hide Hb2))
        refine (HP.out _).mono ?_
        rintro e w2 ⟨rfl, hbc⟩
        replace HB := hide (HB.out.trans (hbc.mono HB.out.size))
        replace Hb2 := hide (Hb2.out.below hbc Hb2.out.lt)
        clear hbc
        go_wp2_with (first | (refine n_alloc (by rfl) (T := 24) rfl dv_z3 (ds := #[.int .u64 0, .int .u64 0, .int .u64 0, .int .u64 0]) rfl ?_; intro w3 Hb6 hbn; have hsz_w2 := HB.out.size; have lt_b2_b6 := Hb2.out.lt; replace HB := hide (HB.out.trans (hbn.mono HB.out.size)); replace Hb2 := hide (Hb2.out.below hbn Hb2.out.lt); clear hbn; replace Hb6 := hide Hb6) | (refine n_storew (by rfl) (T := 24) (x := (.tmp 6)) (y := (.tmp 23)) rfl (g := w2.heap.size) rfl (vs := #[.int .u64 (lim N 0), .int .u64 (lim N 1), .int .u64 (lim N 2), .int .u64 (lim N 3)]) rfl (by first | (simp [Value.oneCell']; done)) Hb6.out rfl dv_s0 ?_; clear Hb6; intro w4 Hb6 hun; replace Hb6 := hide Hb6; replace HB := hide (hun.keep w.heap.size w (by omega) HB.out); replace Hb2 := hide (Hb2.out.upd hun (by omega)); clear hun) | (refine n_storew (by rfl) (T := 33) (x := (.tmp 2)) (y := (.tmp 27)) rfl (g := w.heap.size) rfl (vs := #[.bool false, .int .u64 0, .int .u64 0, .int .u64 0, .int .u64 0]) rfl (by first | (simp [Value.oneCell']; done)) Hb2.out rfl dv_s1 ?_; clear Hb2; intro w5 Hb2 hun; replace Hb2 := hide Hb2; replace HB := hide (hun.keep w.heap.size w (by omega) HB.out); replace Hb6 := hide (Hb6.out.upd hun (by omega)); clear hun))
        exact bodyPost_ret (results2 rfl (reads_row (g := w.heap.size) rfl Hb2.out Try.underlying33 rfl dv_s1) (reads_tmp rfl)) rfl ⟨rfl, HB.out⟩
      · exact absurd hv (by simp [iok])
      · rw [e1, e2, e3]
        clear HZ
        clear e1 e2 e3 eN eE hv
        go_enter Try.func14, Try.ntmps14
        go_wp2_with (first | (refine n_alloc (by rfl) (T := 33) rfl dv_z2 (ds := #[.bool false, .int .u64 0, .int .u64 0, .int .u64 0, .int .u64 0]) rfl ?_; intro w1 Hb2 hbn; have HB := hide hbn; clear hbn; replace Hb2 := hide Hb2))
        refine (HP.out _).mono ?_
        rintro e w2 ⟨rfl, hbc⟩
        replace HB := hide (HB.out.trans (hbc.mono HB.out.size))
        replace Hb2 := hide (Hb2.out.below hbc Hb2.out.lt)
        clear hbc
        go_wp2_with (first | (refine n_alloc (by rfl) (T := 24) rfl dv_z3 (ds := #[.int .u64 0, .int .u64 0, .int .u64 0, .int .u64 0]) rfl ?_; intro w3 Hb6 hbn; have hsz_w2 := HB.out.size; have lt_b2_b6 := Hb2.out.lt; replace HB := hide (HB.out.trans (hbn.mono HB.out.size)); replace Hb2 := hide (Hb2.out.below hbn Hb2.out.lt); clear hbn; replace Hb6 := hide Hb6) | (refine n_storew (by rfl) (T := 24) (x := (.tmp 6)) (y := (.tmp 23)) rfl (g := w2.heap.size) rfl (vs := #[.int .u64 (lim N 0), .int .u64 (lim N 1), .int .u64 (lim N 2), .int .u64 (lim N 3)]) rfl (by first | (simp [Value.oneCell']; done)) Hb6.out rfl dv_s0 ?_; clear Hb6; intro w4 Hb6 hun; replace Hb6 := hide Hb6; replace HB := hide (hun.keep w.heap.size w (by omega) HB.out); replace Hb2 := hide (Hb2.out.upd hun (by omega)); clear hun) | (refine n_loadw (by rfl) (T := 24) (x := (.tmp 6)) rfl (g := w2.heap.size) rfl Hb6.out Try.underlying24 rfl dv_s0 ?_) | (refine n_storew (by rfl) (T := 33) (x := (.tmp 2)) (y := (.tmp 37)) rfl (g := w.heap.size) rfl (vs := #[.bool false, .int .u64 (lim N 0), .int .u64 (lim N 1), .int .u64 (lim N 2), .int .u64 (lim N 3)]) rfl (by first | (simp [Value.oneCell']; done)) Hb2.out rfl dv_s1 ?_; clear Hb2; intro w5 Hb2 hun; replace Hb2 := hide Hb2; replace HB := hide (hun.keep w.heap.size w (by omega) HB.out); replace Hb6 := hide (Hb6.out.upd hun (by omega)); clear hun))
        exact bodyPost_ret (results2 rfl (reads_row (g := w.heap.size) rfl Hb2.out Try.underlying33 rfl dv_s1) (reads_tmp rfl)) rfl ⟨rfl, HB.out⟩
end Go.Proofs.Ythikkajjnfeigaa
