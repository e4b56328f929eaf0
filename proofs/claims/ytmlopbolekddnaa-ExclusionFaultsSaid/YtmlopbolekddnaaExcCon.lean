/-
  The walks of layer 44's Consistent and Range.
-/
import Derived.Test.YtmlopbolekddnaaExcBnd
namespace Go.Proofs.Ytmlopbolekddnaa
set_option linter.unusedVariables false
open Go.RowKit

theorem oc_len {B : Nat} {w : World} {v : Value} {l : List Cr} (h : OC B w v l) : ∃ p cap, v = .slice p l.length cap := by
  rcases oc_cases h with ⟨rfl, rfl⟩ | ⟨g, cap, rfl, _⟩
  · exact ⟨none, 0, rfl⟩
  · exact ⟨_, _, rfl⟩
def conF (l : List Ms) : Bool × Int := if chkL l = 0 then (if fullB l = true then (decide (0 < (corL l).length), 0) else (false, 14)) else (false, chkL l)
theorem ed_of {l : List Ms} (h : chkL l = 0) : (∀ m ∈ l, EdM m) ∧ l.length ≤ 17 := ⟨fun m hm => ((chkL_ok h).2 m hm).ed, by have := (chkL_ok h).1; omega⟩
set_option maxHeartbeats 1000000 in
theorem con_any (l : List Ms) (v : Value) (w : World) (h : LstAt l v w) :
    Calls Try.prog 15 #[v] w fun e w' => e = .returned (.tuple #[.bool (conF l).1, .int .i64 (conF l).2]) ∧ Below w.heap.size w w' := by
  have CH := fun w hv => check_any l v w hv
  have H := Lib.hid h
  clear h
  by_cases hc : chkL l = 0
  · obtain ⟨he, hl⟩ := ed_of hc
    rw [hc] at CH
    have HCH := Lib.hid CH
    have FU := fun w hv => full_any l v w hv he hl
    have CO := Lib.hid fun w hv => corners_any l v w hv he hl
    have E0 : conF l = if fullB l = true then (decide (0 < (corL l).length), 0) else (false, 14) := by unfold conF; rw [if_pos hc]
    clear CH hc he
    cases hf : fullB l with
    | false =>
      rw [hf] at FU
      have HFU := Lib.hid FU
      have E := Lib.hid (show conF l = (false, 14) by rw [E0, hf]; rfl)
      clear FU hf E0
      go_enter Try.func15, Try.ntmps15
      go_wp2_with (first
        | (go_at_call 25; refine (HCH.out _ H.out).mono ?_; rintro e w1 ⟨rfl, hb1⟩)
        | (go_at_call 33; refine (HFU.out _ (H.out.below hb1)).mono ?_; rintro e w2 ⟨rfl, hb2⟩))
      go_ret2
      exact ⟨by rw [E.out]; rfl, hb1.trans (hb2.mono hb1.size)⟩
    | true =>
      rw [hf] at FU
      have HFU := Lib.hid FU
      have E := Lib.hid (show conF l = (decide (0 < (corL l).length), 0) by rw [E0, hf]; rfl)
      clear FU hf E0
      go_enter Try.func15, Try.ntmps15
      go_wp2_with fail
      refine (HCH.out _ H.out).mono ?_
      rintro e w1 ⟨rfl, hb1⟩
      have HB1 := Lib.hid hb1
      clear hb1
      go_wp2_with fail
      refine (HFU.out _ (H.out.below HB1.out)).mono ?_
      rintro e w2 ⟨rfl, hb2⟩
      have HB2 := Lib.hid (HB1.out.trans (hb2.mono HB1.out.size))
      clear hb2
      go_wp2_with fail
      refine (CO.out _ (H.out.below HB2.out)).mono ?_
      rintro e w3 ⟨⟨u, rfl, hoc⟩, hb3⟩
      obtain ⟨p, cap, rfl⟩ := oc_len hoc
      have HB3 := Lib.hid (HB2.out.trans (hb3.mono HB2.out.size))
      clear hb3 hoc
      go_wp2
      go_ret2
      exact ⟨by rw [E.out]; simp, HB3.out⟩
  · have g : (chkL l != 0) = true := by simpa using hc
    have HCH := Lib.hid CH
    have E := Lib.hid (show conF l = (false, chkL l) by unfold conF; rw [if_neg hc])
    clear CH hc
    generalize chkL l = c at *
    go_enter Try.func15, Try.ntmps15
    go_wp2_with (go_at_call 25; refine (HCH.out _ H.out).mono ?_; rintro e w1 ⟨rfl, hb1⟩)
    go_ret2
    exact ⟨by rw [E.out]; rfl, hb1⟩
structure SmAB (a b : Int) : Prop where
  a0 : -256 ≤ a
  a1 : a ≤ 256
  b0 : -256 ≤ b
  b1 : b ≤ 256
theorem fit_of {l : List Ms} {a b : Int} (he : ∀ m ∈ l, EdM m) (h : SmAB a b) : ∀ p ∈ corL l, FitP a b p := by
  intro p hp
  have hc := mem_corL.1 hp
  have hpos := hc.pos
  obtain ⟨m, hm, n, hn, hd, s, t, rfl⟩ := hc.of
  have sm := cross_sm (he m hm) (he n hn) (edge_sm (he m hm) s) (edge_sm (he n hn) t)
  generalize crossC m n (edgeC m s) (edgeC n t) = p at *
  have x := mul_abs (X := 256) (Y := 6597069766656) h.a0 h.a1 sm.x0 sm.x1
  have y := mul_abs (X := 256) (Y := 6597069766656) h.b0 h.b1 sm.y0 sm.y1
  exact ⟨hpos, sm.d1, by omega, by omega, by omega, by omega⟩
def abB (a b : Int) : Bool := decide (-256 ≤ a ∧ a ≤ 256 ∧ -256 ≤ b ∧ b ≤ 256)
def rngF (l : List Ms) (a b : Int) : (Int × Int) × Int :=
  if chkL l = 0 then (if abB a b = true then (if fullB l = true then (if (corL l).length = 0 then ((0, 0), 6) else (bndF a b (corL l), 0)) else ((0, 0), 14)) else ((0, 0), 1)) else ((0, 0), chkL l)
def RetI (r : (Int × Int) × Int) (w : World) (e : Ending) (w' : World) : Prop := e = .returned (.tuple #[.agg #[.int .i64 r.1.1, .int .i64 r.1.2], .int .i64 r.2]) ∧ Below w.heap.size w w'
set_option maxHeartbeats 4000000 in
set_option maxRecDepth 100000 in
theorem range_any (l : List Ms) (a b : Int) (v : Value) (w : World) (h : LstAt l v w) :
    Calls Try.prog 17 #[v, .int .i64 a, .int .i64 b] w (RetI (rngF l a b) w) := by
  have CH := fun w hv => check_any l v w hv
  have O := Lib.hid (out2_new w 30)
  have HL := Lib.hid (h.below ((Below.refl _ _).alloc (Nat.le_refl _) (.cells #[.int .i64 0, .int .i64 0] 30)))
  have HB0 := Lib.hid ((Below.refl w.heap.size w).alloc (Nat.le_refl _) (.cells #[.int .i64 0, .int .i64 0] 30))
  clear h
  by_cases hc : chkL l = 0
  · obtain ⟨he, hl⟩ := ed_of hc
    rw [hc] at CH
    have HCH := Lib.hid CH
    have E0 : rngF l a b = if abB a b = true then (if fullB l = true then (if (corL l).length = 0 then ((0, 0), 6) else (bndF a b (corL l), 0)) else ((0, 0), 14)) else ((0, 0), 1) := by unfold rngF; rw [if_pos hc]
    clear CH hc
    by_cases hab : abB a b = true
    · have hab' := of_decide_eq_true hab
      obtain ⟨a0, a1, b0, b1⟩ := hab'
      have k1 : decide (256 < a) = false := by simp; omega
      have k2 : decide (a < -256) = false := by simp; omega
      have k3 : decide (256 < b) = false := by simp; omega
      have k4 : decide (b < -256) = false := by simp; omega
      have FI := Lib.hid (fit_of (a := a) (b := b) he ⟨a0, a1, b0, b1⟩)
      have FU := fun w hv => full_any l v w hv he hl
      have CO := Lib.hid fun w hv => corners_any l v w hv he hl
      rw [if_pos hab] at E0
      clear hab he
      cases hf : fullB l with
      | false =>
        rw [hf] at FU
        have HFU := Lib.hid FU
        have E := Lib.hid (show rngF l a b = ((0, 0), 14) by rw [E0, hf]; rfl)
        clear FU hf E0
        go_enter Try.func17, Try.ntmps17
        go_wp2_with fail
        generalize w.alloc (.cells #[.int .i64 0, .int .i64 0] 30) = w0 at *
        refine (HCH.out _ HL.out).mono ?_
        rintro e w1 ⟨rfl, hb1⟩
        have O1 := Lib.hid (O.out.below hb1)
        have HB1 := Lib.hid (HB0.out.trans (hb1.mono HB0.out.size))
        have HL1 := Lib.hid (HL.out.below hb1)
        clear hb1
        go_wp2_with fail
        refine (HFU.out _ HL1.out).mono ?_
        rintro e w2 ⟨rfl, hb2⟩
        have O2 := O1.out.below hb2
        have o0 := O2.c0
        have o1 := O2.c1
        have o2 := O2.f0
        have o3 := O2.f1
        have HB2 := Lib.hid (HB1.out.trans (hb2.mono HB1.out.size))
        clear hb2 O2
        go_wp2_with fail
        exact bodyPost_ret (v := .tuple #[.agg #[.int .i64 0, .int .i64 0], .int .i64 14]) (by simp [results, Try.results17, go_sem, o0, o1]) rfl ⟨by rw [E.out], below_set2 HB2.out (Nat.le_refl _) _ _⟩
      | true =>
        rw [hf] at FU
        have HFU := Lib.hid FU
        have E1 : rngF l a b = if (corL l).length = 0 then ((0, 0), 6) else (bndF a b (corL l), 0) := by rw [E0, hf]; rfl
        clear FU hf E0
        by_cases hz : (corL l).length = 0
        · have E := Lib.hid (E1.trans (if_pos hz))
          have gz : (((corL l).length : Int) == 0) = true := by rw [beq_iff_eq]; omega
          clear E1 hz
          go_enter Try.func17, Try.ntmps17
          go_wp2_with fail
          generalize w.alloc (.cells #[.int .i64 0, .int .i64 0] 30) = w0 at *
          refine (HCH.out _ HL.out).mono ?_
          rintro e w1 ⟨rfl, hb1⟩
          have O1 := Lib.hid (O.out.below hb1)
          have HB1 := Lib.hid (HB0.out.trans (hb1.mono HB0.out.size))
          have HL1 := Lib.hid (HL.out.below hb1)
          clear hb1
          go_wp2_with fail
          refine (HFU.out _ HL1.out).mono ?_
          rintro e w2 ⟨rfl, hb2⟩
          have O2 := Lib.hid (O1.out.below hb2)
          have HB2 := Lib.hid (HB1.out.trans (hb2.mono HB1.out.size))
          have HL2 := Lib.hid (HL1.out.below hb2)
          clear hb2
          go_wp2_with fail
          refine (CO.out _ HL2.out).mono ?_
          rintro e w3 ⟨⟨u, rfl, hoc⟩, hb3⟩
          obtain ⟨p, cap, rfl⟩ := oc_len hoc
          have O3 := O2.out.below hb3
          have o0 := O3.c0
          have o1 := O3.c1
          have o2 := O3.f0
          have o3 := O3.f1
          have HB3 := Lib.hid (HB2.out.trans (hb3.mono HB2.out.size))
          clear hb3 hoc O3
          go_wp2_with fail
          exact bodyPost_ret (v := .tuple #[.agg #[.int .i64 0, .int .i64 0], .int .i64 6]) (by simp [results, Try.results17, go_sem, o0, o1]) rfl ⟨by rw [E.out], below_set2 HB3.out (Nat.le_refl _) _ _⟩
        · have E := Lib.hid (E1.trans (if_neg hz))
          have gz : (((corL l).length : Int) == 0) = false := by rw [beq_eq_false_iff_ne]; omega
          clear E1 hz
          have BN := Lib.hid fun B v w hv => bounds_any (corL l) a b B v w hv FI.out
          generalize bndF a b (corL l) = r at *
          obtain ⟨r0, r1⟩ := r
          go_enter Try.func17, Try.ntmps17
          go_wp2_with fail
          generalize w.alloc (.cells #[.int .i64 0, .int .i64 0] 30) = w0 at *
          refine (HCH.out _ HL.out).mono ?_
          rintro e w1 ⟨rfl, hb1⟩
          have O1 := Lib.hid (O.out.below hb1)
          have HB1 := Lib.hid (HB0.out.trans (hb1.mono HB0.out.size))
          have HL1 := Lib.hid (HL.out.below hb1)
          clear hb1
          go_wp2_with fail
          refine (HFU.out _ HL1.out).mono ?_
          rintro e w2 ⟨rfl, hb2⟩
          have O2 := Lib.hid (O1.out.below hb2)
          have HB2 := Lib.hid (HB1.out.trans (hb2.mono HB1.out.size))
          have HL2 := Lib.hid (HL1.out.below hb2)
          clear hb2
          go_wp2_with fail
          refine (CO.out _ HL2.out).mono ?_
          rintro e w3 ⟨⟨u, rfl, hoc⟩, hb3⟩
          have BN3 := Lib.hid (BN.out _ _ _ hoc)
          obtain ⟨p, cap, rfl⟩ := oc_len hoc
          have O3 := Lib.hid (O2.out.below hb3)
          have HB3 := Lib.hid (HB2.out.trans (hb3.mono HB2.out.size))
          clear hb3 hoc
          go_wp2_with fail
          refine BN3.out.mono ?_
          rintro e w4 ⟨rfl, hb4⟩
          have O4 := O3.out.below hb4
          have o0 := O4.c0
          have o1 := O4.c1
          have o2 := O4.f0
          have o3 := O4.f1
          have HB4 := Lib.hid (HB3.out.trans (hb4.mono HB3.out.size))
          clear hb4 O4
          go_wp2_with fail
          exact bodyPost_ret (v := .tuple #[.agg #[.int .i64 r0, .int .i64 r1], .int .i64 0]) (by simp [results, Try.results17, go_sem, o0, o1]) rfl ⟨by rw [E.out], below_set2 HB4.out (Nat.le_refl _) _ _⟩
    · have E := Lib.hid (E0.trans (if_neg hab))
      have hn : ¬ (-256 ≤ a ∧ a ≤ 256 ∧ -256 ≤ b ∧ b ≤ 256) := fun q => hab (decide_eq_true q)
      clear E0 hab he
      have key : (decide (256 < a) = true) ∨ (decide (256 < a) = false ∧ decide (a < -256) = true) ∨ (decide (256 < a) = false ∧ decide (a < -256) = false ∧ decide (256 < b) = true) ∨ (decide (256 < a) = false ∧ decide (a < -256) = false ∧ decide (256 < b) = false ∧ decide (b < -256) = true) := by
        simp only [decide_eq_true_eq, decide_eq_false_iff_not]
        omega
      clear hn
      rcases key with k1 | ⟨k1, k2⟩ | ⟨k1, k2, k3⟩ | ⟨k1, k2, k3, k4⟩
      all_goals
        go_enter Try.func17, Try.ntmps17
        go_wp2_with fail
        generalize w.alloc (.cells #[.int .i64 0, .int .i64 0] 30) = w0 at *
        refine (HCH.out _ HL.out).mono ?_
        rintro e w1 ⟨rfl, hb1⟩
        have O1 := O.out.below hb1
        have o0 := O1.c0
        have o1 := O1.c1
        have o2 := O1.f0
        have o3 := O1.f1
        have HB1 := Lib.hid (HB0.out.trans (hb1.mono HB0.out.size))
        clear hb1 O1
        go_wp2_with fail
        exact bodyPost_ret (v := .tuple #[.agg #[.int .i64 0, .int .i64 0], .int .i64 1]) (by simp [results, Try.results17, go_sem, o0, o1]) rfl ⟨by rw [E.out], below_set2 HB1.out (Nat.le_refl _) _ _⟩
  · have g : (chkL l != 0) = true := by simpa using hc
    have HCH := Lib.hid CH
    have E := Lib.hid (show rngF l a b = ((0, 0), chkL l) by unfold rngF; rw [if_neg hc])
    clear CH hc
    generalize chkL l = c at *
    go_enter Try.func17, Try.ntmps17
    go_wp2_with fail
    generalize w.alloc (.cells #[.int .i64 0, .int .i64 0] 30) = w0 at *
    refine (HCH.out _ HL.out).mono ?_
    rintro e w1 ⟨rfl, hb1⟩
    have O1 := O.out.below hb1
    have o0 := O1.c0
    have o1 := O1.c1
    have o2 := O1.f0
    have o3 := O1.f1
    have HB1 := Lib.hid (HB0.out.trans (hb1.mono HB0.out.size))
    clear hb1 O1
    go_wp2_with fail
    exact bodyPost_ret (v := .tuple #[.agg #[.int .i64 0, .int .i64 0], .int .i64 c]) (by simp [results, Try.results17, go_sem, o0, o1]) rfl ⟨by rw [E.out], below_set2 HB1.out (Nat.le_refl _) _ _⟩
end Go.Proofs.Ytmlopbolekddnaa
