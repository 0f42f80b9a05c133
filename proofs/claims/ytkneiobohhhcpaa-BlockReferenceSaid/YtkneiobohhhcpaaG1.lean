/- block: Genesis, Next. -/
import Derived.WalkKit
import Derived.KernelRfl
import Derived.RowKit3
import Derived.Deep.LoopGhost
import Derived.Deep.QuietTactic
import Derived.BigQuiet
import Derived.WideLaws
import Derived.Laws.Rows
import Derived.Below
import Derived.Deep.Draws
import Derived.Outline
import Derived.LoopN
import Derived.Handy
import Derived.Laws.Externs
import Derived.Laws.BitsAllLaws
import Derived.Laws.BitsLemmas
import Derived.Deep.DeepCutAuto
import Derived.Deep.CutBlock
import Derived.Deep.RegionHeld3
import Derived.Test.YtkneiobohhhcpaaG0
import Derived.Test.YtkneiobohhhcpaaF3
import Derived.Test.YtkneiobohhhcpaaRB
namespace Go.Proofs.Ytkneiobohhhcpaa
open Go.RowKit
set_option linter.unusedVariables false
set_option linter.unusedSimpArgs false
theorem sizeBk : (Try.prog.info? 30).map (·.size) = some 7 := by kernel_rfl
abbrev Z7 : Array Value := #[.int .u64 0, .int .u64 0, .int .u64 0, .int .u64 0, .int .u64 0, .int .u64 0, .int .u64 0]
theorem one7 (a b c d e f g : Int) : (#[Value.int .u64 a, .int .u64 b, .int .u64 c, .int .u64 d, .int .u64 e, .int .u64 f, .int .u64 g] : Array Value).all (·.oneCell') = true := by simp [Value.oneCell']
def geE (P : Nat → Int) : Int := feE 0 P
def geB (P : Nat → Int) (y : Int) : Int := if feE 0 P = 0 then y else 0
set_option maxRecDepth 20000 in
set_option maxHeartbeats 8000000 in
theorem bgen_c (P : Nat → Int) (hP : PW P) (w : World) :
    Calls Try.prog 9 #[.agg (pC P)] w fun e w' => e = .returned (.tuple #[.agg #[.int .u64 (geB P 1), .int .u64 0, .int .u64 0, .int .u64 (geB P (lim (feV 0 P) 0)), .int .u64 (geB P (lim (feV 0 P) 1)), .int .u64 (geB P (lim (feV 0 P) 2)), .int .u64 (geB P (lim (feV 0 P) 3))], .int .i64 (geE P)]) ∧ Below w.heap.size w w' := by
  have HF := hide (fun w => fee_c P hP (b := 0) (by omega) (by omega) w)
  have HP := hide ((PBlk.new w P).alloc (.cells Z7 30))
  have HZ := hide (RBlk.new (w.alloc (.cells (pC P) 27)) Z7 30)
  simp only [World.size_alloc] at HZ
  have HB := hide (show Below w.heap.size w ((w.alloc (.cells (pC P) 27)).alloc (.cells Z7 30)) from ((Below.refl _ _).alloc (Nat.le_refl _) _).alloc (by simp) _)
  unfold geE geB
  obtain ⟨E, hE⟩ : ∃ E, feE 0 P = E := ⟨_, rfl⟩
  rw [hE] at HF ⊢
  clear hE
  by_cases h : E = 0
  · subst h
    rw [if_pos rfl, if_pos rfl, if_pos rfl, if_pos rfl, if_pos rfl]
    go_enter Try.func9, Try.ntmps9
    go_wp2_with (refine wpList_load_row26 (P := P) rfl (.tmp 1) rfl rfl HP.out ?_)
    refine (HF.out _).mono ?_
    rintro e w1 ⟨rfl, hb1⟩
    have hs1 := hb1.size
    try simp only [World.size_alloc, World.size_setCell, World.size_drew, size_drewN] at hs1
    replace HB := hide (HB.out.trans (hb1.mono (by first | (simp; done) | (simp; omega) | omega)))
    replace HZ := hide (HZ.out.below hb1 (by first | (simp; done) | (simp; omega) | exact HZ.out.lt))
    replace HP := hide (HP.out.below hb1 (by first | (simp; done) | (simp; omega) | exact HP.out.lt))
    have hzl1 := HZ.out.lt
    clear hb1
    go_wp2_with (refine wpList_store_rowR (by rfl) (.tmp 2) (.tmp 16) rfl rfl rfl (HZ.out.alloc _) rfl sizeBk (one7 _ _ _ _ _ _ _) ?_; intro wz HZz hSz; replace HZz := hide HZz; have hBz := hide (hSz.1 w.heap.size w (by omega) (HB.out.alloc (by omega) _)); clear hSz)
    exact bodyPost_ret (results_rowR2 rfl rfl HZz.out Try.underlying30 rfl sizeBk) rfl ⟨rfl, hBz.out⟩
  · rw [if_neg h, if_neg h, if_neg h, if_neg h, if_neg h]
    have h' : (E != 0) = true := by simpa using h
    go_enter Try.func9, Try.ntmps9
    go_wp2_with (refine wpList_load_row26 (P := P) rfl (.tmp 1) rfl rfl HP.out ?_)
    refine (HF.out _).mono ?_
    rintro e w1 ⟨rfl, hb1⟩
    have hs1 := hb1.size
    try simp only [World.size_alloc, World.size_setCell, World.size_drew, size_drewN] at hs1
    replace HB := hide (HB.out.trans (hb1.mono (by first | (simp; done) | (simp; omega) | omega)))
    replace HZ := hide (HZ.out.below hb1 (by first | (simp; done) | (simp; omega) | exact HZ.out.lt))
    replace HP := hide (HP.out.below hb1 (by first | (simp; done) | (simp; omega) | exact HP.out.lt))
    have hzl1 := HZ.out.lt
    clear hb1
    go_wp2_with (refine wpList_store_rowR (by rfl) (.tmp 2) (.tmp 13) rfl rfl rfl (HZ.out.alloc _) rfl sizeBk (one7 _ _ _ _ _ _ _) ?_; intro wz HZz hSz; replace HZz := hide HZz; have hBz := hide (hSz.1 w.heap.size w (by omega) (HB.out.alloc (by omega) _)); clear hSz)
    exact bodyPost_ret (results_rowR2 rfl rfl HZz.out Try.underlying30 rfl sizeBk) rfl ⟨rfl, hBz.out⟩
def nxE (n t s : Int) (P : Nat → Int) : Int := if s < 1 ∨ s > 1048576 then 2 else if fiV P ≠ 0 then 15 else if 18446744073709551615 ≤ n ∨ 18446744073709551616 ≤ t + s then 4 else 0
def nxB (n t s : Int) (P : Nat → Int) (y : Int) : Int := if nxE n t s P = 0 then y else 0
set_option maxRecDepth 20000 in
set_option maxHeartbeats 16000000 in
theorem next_c (n t g f0 f1 f2 f3 s b : Int) (P : Nat → Int) (hP : PW P) (n0 : 0 ≤ n) (n1 : n < 18446744073709551616) (t0 : 0 ≤ t) (t1 : t < 18446744073709551616) (s0 : 0 ≤ s) (s1 : s < 18446744073709551616) (b0 : 0 ≤ b) (b1 : b < 18446744073709551616) (w : World) :
    Calls Try.prog 11 #[.agg #[.int .u64 n, .int .u64 t, .int .u64 g, .int .u64 f0, .int .u64 f1, .int .u64 f2, .int .u64 f3], .int .u64 s, .int .u64 b, .agg (pC P)] w fun e w' => e = .returned (.tuple #[.agg #[.int .u64 (nxB n t s P (n + 1)), .int .u64 (nxB n t s P (t + s)), .int .u64 0, .int .u64 (nxB n t s P (lim (feV b P) 0)), .int .u64 (nxB n t s P (lim (feV b P) 1)), .int .u64 (nxB n t s P (lim (feV b P) 2)), .int .u64 (nxB n t s P (lim (feV b P) 3))], .int .i64 (nxE n t s P)]) ∧ Below w.heap.size w w' := by
  have L1 := fun w => add_law (x := n) (y := 1) (c := 0) n0 (by omega) (by omega) (by omega) w
  have L2 := fun w => add_law (x := t) (y := s) (c := 0) t0 s0 (by omega) (by omega) w
  have HV := hide (fun w => validP_c P hP w)
  have HF := hide (fun w => fee_c P hP b0 b1 w)
  have HP := hide ((PBlk.new (w.alloc (.cells #[.int .u64 n, .int .u64 t, .int .u64 g, .int .u64 f0, .int .u64 f1, .int .u64 f2, .int .u64 f3] 30)) P).alloc (.cells Z7 30))
  have HZ := hide (RBlk.new ((w.alloc (.cells #[.int .u64 n, .int .u64 t, .int .u64 g, .int .u64 f0, .int .u64 f1, .int .u64 f2, .int .u64 f3] 30)).alloc (.cells (pC P) 27)) Z7 30)
  simp only [World.size_alloc] at HP HZ
  have HB := hide (show Below w.heap.size w (((w.alloc (.cells #[.int .u64 n, .int .u64 t, .int .u64 g, .int .u64 f0, .int .u64 f1, .int .u64 f2, .int .u64 f3] 30)).alloc (.cells (pC P) 27)).alloc (.cells Z7 30)) from (((Below.refl _ _).alloc (Nat.le_refl _) _).alloc (by simp) _).alloc (by simp; omega) _)
  obtain ⟨x1, ex1⟩ : ∃ x, sm n 1 0 = x := ⟨_, rfl⟩
  obtain ⟨y1, ey1⟩ : ∃ x, cy n 1 0 = x := ⟨_, rfl⟩
  obtain ⟨x2, ex2⟩ : ∃ x, sm t s 0 = x := ⟨_, rfl⟩
  obtain ⟨y2, ey2⟩ : ∃ x, cy t s 0 = x := ⟨_, rfl⟩
  rw [ex1, ey1] at L1
  rw [ex2, ey2] at L2
  unfold sm at ex1 ex2
  unfold cy at ey1 ey2
  by_cases hs : s < 1 ∨ s > 1048576
  · have e1 : nxE n t s P = 2 := if_pos hs
    unfold nxB
    rw [e1]
    simp only [show ¬ ((2 : Int) = 0) by decide, if_false]
    clear e1 ex1 ex2 ey1 ey2 HV HF
    rcases hs with hs | hs
    · go_enter Try.func11, Try.ntmps11
      go_wp2_with (refine wpList_store_rowR (by rfl) (.tmp 8) (.tmp 36) rfl rfl rfl (HZ.out) rfl sizeBk (one7 _ _ _ _ _ _ _) ?_; intro wz HZz hSz; replace HZz := hide HZz; have hBz := hide (hSz.1 w.heap.size w (by omega) (HB.out)); clear hSz)
      exact bodyPost_ret (results_rowR2 rfl rfl HZz.out Try.underlying30 rfl sizeBk) rfl ⟨rfl, hBz.out⟩
    · have hs1 : 1 ≤ s := by omega
      have hs2 : 1048576 < s := hs
      go_enter Try.func11, Try.ntmps11
      go_wp2_with (refine wpList_store_rowR (by rfl) (.tmp 8) (.tmp 36) rfl rfl rfl (HZ.out) rfl sizeBk (one7 _ _ _ _ _ _ _) ?_; intro wz HZz hSz; replace HZz := hide HZz; have hBz := hide (hSz.1 w.heap.size w (by omega) (HB.out)); clear hSz)
      exact bodyPost_ret (results_rowR2 rfl rfl HZz.out Try.underlying30 rfl sizeBk) rfl ⟨rfl, hBz.out⟩
  have hs1 : 1 ≤ s := by omega
  have hs2 : s ≤ 1048576 := by omega
  by_cases hv : fiV P = 0
  · have hf := (fe_val hP hv b0 b1).1
    rw [hf] at HF
    rw [hv] at HV
    by_cases ho : 18446744073709551615 ≤ n ∨ 18446744073709551616 ≤ t + s
    · have e1 : nxE n t s P = 4 := by rw [nxE, if_neg hs, if_neg (fun h => h hv), if_pos ho]
      unfold nxB
      rw [e1]
      simp only [show ¬ ((4 : Int) = 0) by decide, if_false]
      by_cases hy : y1 = 0
      · have hy1 : (y1 != 0) = false := by simpa using hy
        have hy2 : (y2 != 0) = true := by simp; omega
        clear e1 ex1 ex2 ey1 ey2 HF hs ho hv hf
        subst hy
        go_enter Try.func11, Try.ntmps11
        go_wp2_with (refine wpList_load_row26 (P := P) rfl (.tmp 7) rfl rfl HP.out ?_)
        refine (HV.out _).mono ?_
        rintro e w1 ⟨rfl, hb1⟩
        have hs1 := hb1.size
        try simp only [World.size_alloc, World.size_setCell, World.size_drew, size_drewN] at hs1
        replace HB := hide (HB.out.trans (hb1.mono (by first | (simp; done) | (simp; omega) | omega)))
        replace HZ := hide (HZ.out.below hb1 (by first | (simp; done) | (simp; omega) | exact HZ.out.lt))
        replace HP := hide (HP.out.below hb1 (by first | (simp; done) | (simp; omega) | exact HP.out.lt))
        have hzl1 := HZ.out.lt
        clear hb1
        go_wp2_with (refine wpList_store_rowR (by rfl) (.tmp 8) (.tmp 49) rfl rfl rfl (HZ.out) rfl sizeBk (one7 _ _ _ _ _ _ _) ?_; intro wz HZz hSz; replace HZz := hide HZz; have hBz := hide (hSz.1 w.heap.size w (by omega) (HB.out)); clear hSz)
        exact bodyPost_ret (results_rowR2 rfl rfl HZz.out Try.underlying30 rfl sizeBk) rfl ⟨rfl, hBz.out⟩
      · have hy1 : (y1 != 0) = true := by simpa using hy
        clear e1 ex1 ex2 ey1 ey2 HF hs ho hy hv hf
        go_enter Try.func11, Try.ntmps11
        go_wp2_with (refine wpList_load_row26 (P := P) rfl (.tmp 7) rfl rfl HP.out ?_)
        refine (HV.out _).mono ?_
        rintro e w1 ⟨rfl, hb1⟩
        have hs1 := hb1.size
        try simp only [World.size_alloc, World.size_setCell, World.size_drew, size_drewN] at hs1
        replace HB := hide (HB.out.trans (hb1.mono (by first | (simp; done) | (simp; omega) | omega)))
        replace HZ := hide (HZ.out.below hb1 (by first | (simp; done) | (simp; omega) | exact HZ.out.lt))
        replace HP := hide (HP.out.below hb1 (by first | (simp; done) | (simp; omega) | exact HP.out.lt))
        have hzl1 := HZ.out.lt
        clear hb1
        go_wp2_with (refine wpList_store_rowR (by rfl) (.tmp 8) (.tmp 49) rfl rfl rfl (HZ.out) rfl sizeBk (one7 _ _ _ _ _ _ _) ?_; intro wz HZz hSz; replace HZz := hide HZz; have hBz := hide (hSz.1 w.heap.size w (by omega) (HB.out)); clear hSz)
        exact bodyPost_ret (results_rowR2 rfl rfl HZz.out Try.underlying30 rfl sizeBk) rfl ⟨rfl, hBz.out⟩
    · have e1 : nxE n t s P = 0 := by rw [nxE, if_neg hs, if_neg (fun h => h hv), if_neg ho]
      unfold nxB
      rw [e1]
      simp only [if_true]
      obtain rfl : y1 = 0 := by omega
      obtain rfl : y2 = 0 := by omega
      obtain rfl : x1 = n + 1 := by omega
      obtain rfl : x2 = t + s := by omega
      clear e1 ex1 ex2 ey1 ey2 hs ho hv hf
      go_enter Try.func11, Try.ntmps11
      go_wp2_with (refine wpList_load_row26 (P := P) rfl (.tmp 7) rfl rfl HP.out ?_)
      refine (HV.out _).mono ?_
      rintro e w1 ⟨rfl, hb1⟩
      have hs1 := hb1.size
      try simp only [World.size_alloc, World.size_setCell, World.size_drew, size_drewN] at hs1
      replace HB := hide (HB.out.trans (hb1.mono (by first | (simp; done) | (simp; omega) | omega)))
      replace HZ := hide (HZ.out.below hb1 (by first | (simp; done) | (simp; omega) | exact HZ.out.lt))
      replace HP := hide (HP.out.below hb1 (by first | (simp; done) | (simp; omega) | exact HP.out.lt))
      have hzl1 := HZ.out.lt
      clear hb1
      go_wp2_with (refine wpList_load_row26 (P := P) rfl (.tmp 7) rfl rfl HP.out ?_)
      refine (HF.out _).mono ?_
      rintro e w2 ⟨rfl, hb2⟩
      have hs2 := hb2.size
      try simp only [World.size_alloc, World.size_setCell, World.size_drew, size_drewN] at hs2
      replace HB := hide (HB.out.trans (hb2.mono (by first | (simp; done) | (simp; omega) | omega)))
      replace HZ := hide (HZ.out.below hb2 (by first | (simp; done) | (simp; omega) | exact HZ.out.lt))
      replace HP := hide (HP.out.below hb2 (by first | (simp; done) | (simp; omega) | exact HP.out.lt))
      have hzl2 := HZ.out.lt
      clear hb2
      go_wp2_with (refine wpList_store_rowR (by rfl) (.tmp 8) (.tmp 63) rfl rfl rfl (HZ.out.alloc _) rfl sizeBk (one7 _ _ _ _ _ _ _) ?_; intro wz HZz hSz; replace HZz := hide HZz; have hBz := hide (hSz.1 w.heap.size w (by omega) (HB.out.alloc (by omega) _)); clear hSz)
      exact bodyPost_ret (results_rowR2 rfl rfl HZz.out Try.underlying30 rfl sizeBk) rfl ⟨rfl, hBz.out⟩
  · have e1 : nxE n t s P = 15 := by rw [nxE, if_neg hs, if_pos hv]
    have hv' : (fiV P == 0) = false := by simpa using hv
    unfold nxB
    rw [e1]
    rw [hv'] at HV
    simp only [show ¬ ((15 : Int) = 0) by decide, if_false]
    clear e1 ex1 ex2 ey1 ey2 hs HF hv hv'
    go_enter Try.func11, Try.ntmps11
    go_wp2_with (refine wpList_load_row26 (P := P) rfl (.tmp 7) rfl rfl HP.out ?_)
    refine (HV.out _).mono ?_
    rintro e w1 ⟨rfl, hb1⟩
    have hs1 := hb1.size
    try simp only [World.size_alloc, World.size_setCell, World.size_drew, size_drewN] at hs1
    replace HB := hide (HB.out.trans (hb1.mono (by first | (simp; done) | (simp; omega) | omega)))
    replace HZ := hide (HZ.out.below hb1 (by first | (simp; done) | (simp; omega) | exact HZ.out.lt))
    replace HP := hide (HP.out.below hb1 (by first | (simp; done) | (simp; omega) | exact HP.out.lt))
    have hzl1 := HZ.out.lt
    clear hb1
    go_wp2_with (refine wpList_store_rowR (by rfl) (.tmp 8) (.tmp 41) rfl rfl rfl (HZ.out) rfl sizeBk (one7 _ _ _ _ _ _ _) ?_; intro wz HZz hSz; replace HZz := hide HZz; have hBz := hide (hSz.1 w.heap.size w (by omega) (HB.out)); clear hSz)
    exact bodyPost_ret (results_rowR2 rfl rfl HZz.out Try.underlying30 rfl sizeBk) rfl ⟨rfl, hBz.out⟩
end Go.Proofs.Ytkneiobohhhcpaa
