/-
  The walk of the reference's Range of layer 44.
-/
import Derived.Test.YtmlopbolekddnaaRef44D
namespace Go.Proofs.Ytmlopbolekddnaa
set_option linter.unusedVariables false
open Go.RowKit

theorem rng_ver (l : List Ms) (a b : Int) : (if (corL l).length = 0 then (((0, 0), 6) : (Int × Int) × Int) else (bndF a b (corL l), 0)) = if (verL l).length = 0 then ((0, 0), 6) else (bndF a b (verL l), 0) := by
  have h := ver_pos (l := l)
  by_cases hz : (corL l).length = 0
  · rw [if_pos hz, if_pos (by omega)]
  · have hv : ¬ (verL l).length = 0 := by omega
    rw [if_neg hz, if_neg hv]
    have e := (bnd_is a b (l := corL l) (fun q => hz (by rw [q]; rfl))).uniq (bnd_is a b (l := verL l) (fun q => hv (by rw [q]; rfl))) (fun p => mem_verL.symm)
    rw [e]
theorem region_no (l : List Ms) (v : Value) (w : World) (h : LstAt l v w) (hc : chkL l = 0) (hf : fullB l = false) :
    Calls Try.prog 35 #[v] w fun e w' => e = .returned (.tuple #[.slice none 0 0, .int .i64 14]) ∧ Below w.heap.size w w' := by
  refine (region_any l v w h).mono ?_
  rintro e w' ⟨⟨_, h2, _⟩ | ⟨_, rfl⟩, hb⟩
  · rw [hf] at h2; cases h2
  · refine ⟨?_, hb⟩
    unfold regE
    rw [if_pos hc]
theorem region_yes (l : List Ms) (v : Value) (w : World) (h : LstAt l v w) (hc : chkL l = 0) (hf : fullB l = true) :
    Calls Try.prog 35 #[v] w fun e w' => (∃ u, e = .returned (.tuple #[u, .int .i64 0]) ∧ OV w.heap.size w' u (verL l)) ∧ Below w.heap.size w w' := by
  refine (region_any l v w h).mono ?_
  rintro e w' ⟨⟨_, _, h3⟩ | ⟨h1, _⟩, hb⟩
  · exact ⟨h3, hb⟩
  · exact absurd ⟨hc, hf⟩ h1
set_option maxHeartbeats 4000000 in
set_option maxRecDepth 100000 in
theorem rngref_any (l : List Ms) (a b : Int) (v : Value) (w : World) (h : LstAt l v w) :
    Calls Try.prog 18 #[v, .int .i64 a, .int .i64 b] w (RetI (rngF l a b) w) := by
  have CH := fun w hv => chkref_any l v w hv
  have O := Lib.hid (out2_new w 30)
  have HL := Lib.hid (h.below ((Below.refl _ _).alloc (Nat.le_refl _) (.cells #[.int .i64 0, .int .i64 0] 30)))
  have HB0 := Lib.hid ((Below.refl w.heap.size w).alloc (Nat.le_refl _) (.cells #[.int .i64 0, .int .i64 0] 30))
  clear h
  by_cases hc : chkL l = 0
  · obtain ⟨he, hl⟩ := ed_of hc
    rw [hc] at CH
    have HCH := Lib.hid CH
    have E0 : rngF l a b = if abB a b = true then (if fullB l = true then (if (verL l).length = 0 then ((0, 0), 6) else (bndF a b (verL l), 0)) else ((0, 0), 14)) else ((0, 0), 1) := by unfold rngF; rw [if_pos hc, rng_ver]
    have FU := fun w hv hf => region_no l v w hv hc hf
    have CO := fun w hv hf => region_yes l v w hv hc hf
    clear CH hc
    by_cases hab : abB a b = true
    · have hab' := of_decide_eq_true hab
      obtain ⟨a0, a1, b0, b1⟩ := hab'
      have k1 : decide (256 < a) = false := by simp; omega
      have k2 : decide (a < -256) = false := by simp; omega
      have k3 : decide (256 < b) = false := by simp; omega
      have k4 : decide (b < -256) = false := by simp; omega
      have FI := Lib.hid (show ∀ p ∈ verL l, FitP a b p from fun p hp => fit_of (a := a) (b := b) he ⟨a0, a1, b0, b1⟩ p (mem_verL.1 hp))
      rw [if_pos hab] at E0
      clear hab he
      cases hf : fullB l with
      | false =>
        have HFU := Lib.hid fun w hv => FU w hv hf
        clear CO
        have E := Lib.hid (show rngF l a b = ((0, 0), 14) by rw [E0, hf]; rfl)
        clear FU hf E0
        go_enter Try.func18, Try.ntmps18
        go_wp2_with fail
        generalize w.alloc (.cells #[.int .i64 0, .int .i64 0] 30) = w0 at *
        refine (HCH.out _ HL.out).mono ?_
        rintro e w1 ⟨rfl, hb1⟩
        have O1 := Lib.hid (O.out.below hb1)
        have HB1 := Lib.hid (HB0.out.trans (hb1.mono HB0.out.size))
        have HL1 := Lib.hid (HL.out.below hb1)
        clear hb1
        go_wp2_with fail
        refine (HFU.out _ HL1.out).mono ?_
        rintro e w2 ⟨rfl, hb2⟩
        have O2 := O1.out.below hb2
        have o0 := O2.c0
        have o1 := O2.c1
        have o2 := O2.f0
        have o3 := O2.f1
        have HB2 := Lib.hid (HB1.out.trans (hb2.mono HB1.out.size))
        clear hb2 O2
        go_wp2_with fail
        exact bodyPost_ret (v := .tuple #[.agg #[.int .i64 0, .int .i64 0], .int .i64 14]) (by simp [results, Try.results18, go_sem, o0, o1]) rfl ⟨by rw [E.out], below_set2 HB2.out (Nat.le_refl _) _ _⟩
      | true =>
        have HCO := Lib.hid fun w hv => CO w hv hf
        clear CO
        have E1 : rngF l a b = if (verL l).length = 0 then ((0, 0), 6) else (bndF a b (verL l), 0) := by rw [E0, hf]; rfl
        clear FU hf E0
        by_cases hz : (verL l).length = 0
        · have E := Lib.hid (E1.trans (if_pos hz))
          have gz : (((verL l).length : Int) == 0) = true := by rw [beq_iff_eq]; omega
          clear E1 hz
          go_enter Try.func18, Try.ntmps18
          go_wp2_with fail
          generalize w.alloc (.cells #[.int .i64 0, .int .i64 0] 30) = w0 at *
          refine (HCH.out _ HL.out).mono ?_
          rintro e w1 ⟨rfl, hb1⟩
          have O1 := Lib.hid (O.out.below hb1)
          have HB1 := Lib.hid (HB0.out.trans (hb1.mono HB0.out.size))
          have HL1 := Lib.hid (HL.out.below hb1)
          clear hb1
          go_wp2_with fail
          refine (HCO.out _ HL1.out).mono ?_
          rintro e w3 ⟨⟨u, rfl, hoc⟩, hb3⟩
          obtain ⟨p, cap, rfl⟩ := ov_len hoc
          have O3 := O1.out.below hb3
          have o0 := O3.c0
          have o1 := O3.c1
          have o2 := O3.f0
          have o3 := O3.f1
          have HB3 := Lib.hid (HB1.out.trans (hb3.mono HB1.out.size))
          clear hb3 hoc O3
          go_wp2_with fail
          exact bodyPost_ret (v := .tuple #[.agg #[.int .i64 0, .int .i64 0], .int .i64 6]) (by simp [results, Try.results18, go_sem, o0, o1]) rfl ⟨by rw [E.out], below_set2 HB3.out (Nat.le_refl _) _ _⟩
        · have E := Lib.hid (E1.trans (if_neg hz))
          have gz : (((verL l).length : Int) == 0) = false := by rw [beq_eq_false_iff_ne]; omega
          clear E1 hz
          have BN := Lib.hid fun B v w hv => span_any (verL l) a b B v w hv FI.out
          generalize bndF a b (verL l) = r at *
          obtain ⟨r0, r1⟩ := r
          go_enter Try.func18, Try.ntmps18
          go_wp2_with fail
          generalize w.alloc (.cells #[.int .i64 0, .int .i64 0] 30) = w0 at *
          refine (HCH.out _ HL.out).mono ?_
          rintro e w1 ⟨rfl, hb1⟩
          have O1 := Lib.hid (O.out.below hb1)
          have HB1 := Lib.hid (HB0.out.trans (hb1.mono HB0.out.size))
          have HL1 := Lib.hid (HL.out.below hb1)
          clear hb1
          go_wp2_with fail
          refine (HCO.out _ HL1.out).mono ?_
          rintro e w3 ⟨⟨u, rfl, hoc⟩, hb3⟩
          have BN3 := Lib.hid (BN.out _ _ _ hoc)
          obtain ⟨p, cap, rfl⟩ := ov_len hoc
          have O3 := Lib.hid (O1.out.below hb3)
          have HB3 := Lib.hid (HB1.out.trans (hb3.mono HB1.out.size))
          clear hb3 hoc
          go_wp2_with fail
          refine BN3.out.mono ?_
          rintro e w4 ⟨rfl, hb4⟩
          have O4 := O3.out.below hb4
          have o0 := O4.c0
          have o1 := O4.c1
          have o2 := O4.f0
          have o3 := O4.f1
          have HB4 := Lib.hid (HB3.out.trans (hb4.mono HB3.out.size))
          clear hb4 O4
          go_wp2_with fail
          exact bodyPost_ret (v := .tuple #[.agg #[.int .i64 r0, .int .i64 r1], .int .i64 0]) (by simp [results, Try.results18, go_sem, o0, o1]) rfl ⟨by rw [E.out], below_set2 HB4.out (Nat.le_refl _) _ _⟩
    · have E := Lib.hid (E0.trans (if_neg hab))
      have hn : ¬ (-256 ≤ a ∧ a ≤ 256 ∧ -256 ≤ b ∧ b ≤ 256) := fun q => hab (decide_eq_true q)
      clear E0 hab he
      have key : (decide (256 < a) = true) ∨ (decide (256 < a) = false ∧ decide (a < -256) = true) ∨ (decide (256 < a) = false ∧ decide (a < -256) = false ∧ decide (256 < b) = true) ∨ (decide (256 < a) = false ∧ decide (a < -256) = false ∧ decide (256 < b) = false ∧ decide (b < -256) = true) := by
        simp only [decide_eq_true_eq, decide_eq_false_iff_not]
        omega
      clear hn
      rcases key with k1 | ⟨k1, k2⟩ | ⟨k1, k2, k3⟩ | ⟨k1, k2, k3, k4⟩
      all_goals
        go_enter Try.func18, Try.ntmps18
        go_wp2_with fail
        generalize w.alloc (.cells #[.int .i64 0, .int .i64 0] 30) = w0 at *
        refine (HCH.out _ HL.out).mono ?_
        rintro e w1 ⟨rfl, hb1⟩
        have O1 := O.out.below hb1
        have o0 := O1.c0
        have o1 := O1.c1
        have o2 := O1.f0
        have o3 := O1.f1
        have HB1 := Lib.hid (HB0.out.trans (hb1.mono HB0.out.size))
        clear hb1 O1
        go_wp2_with fail
        exact bodyPost_ret (v := .tuple #[.agg #[.int .i64 0, .int .i64 0], .int .i64 1]) (by simp [results, Try.results18, go_sem, o0, o1]) rfl ⟨by rw [E.out], below_set2 HB1.out (Nat.le_refl _) _ _⟩
  · have g : (chkL l != 0) = true := by simpa using hc
    have HCH := Lib.hid CH
    have E := Lib.hid (show rngF l a b = ((0, 0), chkL l) by unfold rngF; rw [if_neg hc])
    clear CH hc
    generalize chkL l = c at *
    go_enter Try.func18, Try.ntmps18
    go_wp2_with fail
    generalize w.alloc (.cells #[.int .i64 0, .int .i64 0] 30) = w0 at *
    refine (HCH.out _ HL.out).mono ?_
    rintro e w1 ⟨rfl, hb1⟩
    have O1 := O.out.below hb1
    have o0 := O1.c0
    have o1 := O1.c1
    have o2 := O1.f0
    have o3 := O1.f1
    have HB1 := Lib.hid (HB0.out.trans (hb1.mono HB0.out.size))
    clear hb1 O1
    go_wp2_with fail
    exact bodyPost_ret (v := .tuple #[.agg #[.int .i64 0, .int .i64 0], .int .i64 c]) (by simp [results, Try.results18, go_sem, o0, o1]) rfl ⟨by rw [E.out], below_set2 HB1.out (Nat.le_refl _) _ _⟩
end Go.Proofs.Ytmlopbolekddnaa
