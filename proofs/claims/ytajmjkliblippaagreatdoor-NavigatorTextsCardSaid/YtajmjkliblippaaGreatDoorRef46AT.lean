/-
  The reference's Valid, Check and Start.
-/
import Derived.Test.YtajmjkliblippaaGreatDoorM83
import Derived.Test.YtajmjkliblippaaGreatDoorM64
import Derived.Test.YtajmjkliblippaaGreatDoorStart46T
namespace Go.Proofs.YtajmjkliblippaaGreatDoor
set_option linter.unusedVariables false
open Go.RowKit

theorem r45_within (x lo hi : Int) (w : World) : Calls Tryz.prog 59 #[.int .i64 x, .int .i64 lo, .int .i64 hi] w fun e w' => e = .returned (.bool (frm x lo hi)) ∧ Below w.heap.size w w' := by
  have E : frm x lo hi = (decide (lo ≤ x) && decide (x ≤ hi)) := rfl
  generalize frm x lo hi = r at *
  cases h : decide (lo ≤ x) <;> cases h2 : decide (x ≤ hi) <;> rw [h, h2] at E <;> simp at E <;> subst E
  all_goals
    go_enter Tryz.func59, Tryz.ntmps59
    go_wp2
    go_ret
    exact ⟨rfl, Below.refl _ _⟩
theorem r46_within (x lo hi : Int) (w : World) : Calls Tryz.prog 32 #[.int .i64 x, .int .i64 lo, .int .i64 hi] w fun e w' => e = .returned (.bool (frm x lo hi)) ∧ Below w.heap.size w w' := by
  have E : frm x lo hi = (decide (lo ≤ x) && decide (x ≤ hi)) := rfl
  generalize frm x lo hi = r at *
  cases h : decide (lo ≤ x) <;> cases h2 : decide (x ≤ hi) <;> rw [h, h2] at E <;> simp at E <;> subst E
  all_goals
    go_enter Tryz.func32, Tryz.ntmps32
    go_wp2
    go_ret
    exact ⟨rfl, Below.refl _ _⟩
set_option maxHeartbeats 4000000 in
theorem r10_valid (x y : Int) (w : World) : Calls Tryz.prog 58 #[.agg #[.int .i64 x, .int .i64 y]] w fun e w' => e = .returned (.bool (vldP x y)) ∧ Below w.heap.size w w' := by
  have key : (decide (-2000000 ≤ x) = false ∧ vldP x y = false) ∨ (decide (-2000000 ≤ x) = true ∧ decide (x ≤ 2000000) = false ∧ vldP x y = false) ∨ (decide (-2000000 ≤ x) = true ∧ decide (x ≤ 2000000) = true ∧ decide (-2000000 ≤ y) = false ∧ vldP x y = false) ∨ (decide (-2000000 ≤ x) = true ∧ decide (x ≤ 2000000) = true ∧ decide (-2000000 ≤ y) = true ∧ decide (y ≤ 2000000) = false ∧ vldP x y = false) ∨ (decide (-2000000 ≤ x) = true ∧ decide (x ≤ 2000000) = true ∧ decide (-2000000 ≤ y) = true ∧ decide (y ≤ 2000000) = true ∧ vldP x y = true) := by
    unfold vldP
    simp only [decide_eq_true_eq, decide_eq_false_iff_not]
    omega
  rcases key with ⟨g0, E⟩ | ⟨g0, g1, E⟩ | ⟨g0, g1, g2, E⟩ | ⟨g0, g1, g2, g3, E⟩ | ⟨g0, g1, g2, g3, E⟩
  all_goals
    rw [E]
    clear E
    go_enter Tryz.func58, Tryz.ntmps58
    go_wp2
    go_ret
    exact ⟨rfl, (Below.refl _ _).alloc (Nat.le_refl _) _⟩
set_option maxHeartbeats 40000000 in
set_option maxRecDepth 100000 in
theorem r45_valid (b : Bx4) (w : World) : Calls Tryz.prog 31 #[.agg #[.int .i64 b.cx, .int .i64 b.cy, .int .i64 b.x, .int .i64 b.y]] w fun e w' => e = .returned (.bool (bxV b)) ∧ Below w.heap.size w w' := by
  obtain ⟨cx, cy, x, y⟩ := b
  simp only
  have E : bxV ⟨cx, cy, x, y⟩ = (vldP cx cy && frm x 0 2000000 && frm y 0 2000000) := by
    rw [Bool.eq_iff_iff, bxV_iff]
    unfold vldP frm
    simp only [Bool.and_eq_true, decide_eq_true_eq]
    omega
  have VP := Lib.hid fun w => r10_valid cx cy w
  have VX := Lib.hid fun w => r45_within x 0 2000000 w
  have VY := Lib.hid fun w => r45_within y 0 2000000 w
  generalize bxV ⟨cx, cy, x, y⟩ = q at *
  generalize vldP cx cy = a at *
  generalize frm x 0 2000000 = c at *
  generalize frm y 0 2000000 = d at *
  subst E
  cases a with
  | false =>
    clear VX VY
    obtain ⟨KB, HB⟩ := ent1 w #[.int .i64 cx, .int .i64 cy, .int .i64 x, .int .i64 y] 25
    go_enter Tryz.func31, Tryz.ntmps31
    obtain ⟨yB_0, yB_1, yB_2, yB_3, yB_z⟩ := blk4 KB
    go_wp2_with fail
    clear yB_0 yB_1 yB_2 yB_3 yB_z
    generalize w.alloc (.cells #[.int .i64 cx, .int .i64 cy, .int .i64 x, .int .i64 y] 25) = w0 at *
    refine (VP.out _).mono ?_
    rintro e1 w1 ⟨rfl, hb1⟩
    replace HB := hT HB hb1
    replace KB := hK KB hb1
    clear hb1
    go_wp2
    go_ret
    exact ⟨rfl, HB.out⟩
  | true =>
    cases c with
    | false =>
      clear VY
      obtain ⟨KB, HB⟩ := ent1 w #[.int .i64 cx, .int .i64 cy, .int .i64 x, .int .i64 y] 25
      go_enter Tryz.func31, Tryz.ntmps31
      obtain ⟨yB_0, yB_1, yB_2, yB_3, yB_z⟩ := blk4 KB
      go_wp2_with fail
      clear yB_0 yB_1 yB_2 yB_3 yB_z
      generalize w.alloc (.cells #[.int .i64 cx, .int .i64 cy, .int .i64 x, .int .i64 y] 25) = w0 at *
      refine (VP.out _).mono ?_
      rintro e1 w1 ⟨rfl, hb1⟩
      replace HB := hT HB hb1
      replace KB := hK KB hb1
      clear hb1
      obtain ⟨yB_0, yB_1, yB_2, yB_3, yB_z⟩ := blk4 KB
      go_wp2_with fail
      refine (VX.out _).mono ?_
      rintro e2 w2 ⟨rfl, hb2⟩
      replace HB := hT HB hb2
      replace KB := hK KB hb2
      clear yB_0 yB_1 yB_2 yB_3 yB_z
      clear hb2
      go_wp2
      go_ret
      exact ⟨rfl, HB.out⟩
    | true =>
      simp only [Bool.true_and]
      obtain ⟨KB, HB⟩ := ent1 w #[.int .i64 cx, .int .i64 cy, .int .i64 x, .int .i64 y] 25
      go_enter Tryz.func31, Tryz.ntmps31
      obtain ⟨yB_0, yB_1, yB_2, yB_3, yB_z⟩ := blk4 KB
      go_wp2_with fail
      clear yB_0 yB_1 yB_2 yB_3 yB_z
      generalize w.alloc (.cells #[.int .i64 cx, .int .i64 cy, .int .i64 x, .int .i64 y] 25) = w0 at *
      refine (VP.out _).mono ?_
      rintro e1 w1 ⟨rfl, hb1⟩
      replace HB := hT HB hb1
      replace KB := hK KB hb1
      clear hb1
      obtain ⟨yB_0, yB_1, yB_2, yB_3, yB_z⟩ := blk4 KB
      go_wp2_with fail
      refine (VX.out _).mono ?_
      rintro e2 w2 ⟨rfl, hb2⟩
      replace HB := hT HB hb2
      replace KB := hK KB hb2
      clear yB_0 yB_1 yB_2 yB_3 yB_z
      clear hb2
      obtain ⟨yB_0, yB_1, yB_2, yB_3, yB_z⟩ := blk4 KB
      go_wp2_with fail
      refine (VY.out _).mono ?_
      rintro e3 w3 ⟨rfl, hb3⟩
      replace HB := hT HB hb3
      replace KB := hK KB hb3
      clear yB_0 yB_1 yB_2 yB_3 yB_z
      clear hb3
      go_wp2
      go_ret
      exact ⟨rfl, HB.out⟩
set_option maxHeartbeats 40000000 in
set_option maxRecDepth 100000 in
theorem rcheck_any (b : Bx4) (t m : Int) (w : World) : Calls Tryz.prog 15 #[.agg #[.int .i64 b.cx, .int .i64 b.cy, .int .i64 b.x, .int .i64 b.y, .int .i64 t, .int .i64 m]] w fun e w' => e = .returned (.int .i64 (chkS b t m)) ∧ Below w.heap.size w w' := by
  have VB := Lib.hid fun w => r45_valid b w
  have WT := Lib.hid fun w => r46_within t 0 1099511627776 w
  have E0 : chkS b t m = if bxV b = true then (if 0 ≤ t ∧ t ≤ 1099511627776 ∧ 0 ≤ m ∧ m ≤ 1000 then 0 else 2) else 1 := rfl
  have EW : frm t 0 1099511627776 = (decide (0 ≤ t) && decide (t ≤ 1099511627776)) := rfl
  generalize chkS b t m = q at *
  obtain ⟨cx, cy, x, y⟩ := b
  simp only at VB
  generalize bxV ⟨cx, cy, x, y⟩ = a at *
  cases a with
  | false =>
    rw [if_neg (by decide)] at E0
    subst E0
    clear WT EW
    obtain ⟨KS, HB⟩ := ent1 w #[.int .i64 cx, .int .i64 cy, .int .i64 x, .int .i64 y, .int .i64 t, .int .i64 m] 27
    go_enter Tryz.func15, Tryz.ntmps15
    obtain ⟨yS_0, yS_1, yS_2, yS_3, yS_4, yS_5, yS_z⟩ := blk6 KS
    go_wp2_with fail
    clear yS_0 yS_1 yS_2 yS_3 yS_4 yS_5 yS_z
    generalize w.alloc (.cells #[.int .i64 cx, .int .i64 cy, .int .i64 x, .int .i64 y, .int .i64 t, .int .i64 m] 27) = w0 at *
    refine (VB.out _).mono ?_
    rintro e1 w1 ⟨rfl, hb1⟩
    replace HB := hT HB hb1
    replace KS := hK KS hb1
    clear hb1
    go_wp2
    go_ret
    exact ⟨rfl, HB.out⟩
  | true =>
    rw [if_pos rfl] at E0
    by_cases ht : 0 ≤ t ∧ t ≤ 1099511627776
    · have ew : frm t 0 1099511627776 = true := by rw [EW]; simp [ht.1, ht.2]
      rw [ew] at WT
      by_cases h1 : m < 0
      · have g1 : decide (m < 0) = true := by simpa using h1
        rw [if_neg (by omega)] at E0
        subst E0
        clear h1 ht ew EW
        obtain ⟨KS, HB⟩ := ent1 w #[.int .i64 cx, .int .i64 cy, .int .i64 x, .int .i64 y, .int .i64 t, .int .i64 m] 27
        go_enter Tryz.func15, Tryz.ntmps15
        obtain ⟨yS_0, yS_1, yS_2, yS_3, yS_4, yS_5, yS_z⟩ := blk6 KS
        go_wp2_with fail
        clear yS_0 yS_1 yS_2 yS_3 yS_4 yS_5 yS_z
        generalize w.alloc (.cells #[.int .i64 cx, .int .i64 cy, .int .i64 x, .int .i64 y, .int .i64 t, .int .i64 m] 27) = w0 at *
        refine (VB.out _).mono ?_
        rintro e1 w1 ⟨rfl, hb1⟩
        replace HB := hT HB hb1
        replace KS := hK KS hb1
        clear hb1
        obtain ⟨yS_0, yS_1, yS_2, yS_3, yS_4, yS_5, yS_z⟩ := blk6 KS
        go_wp2_with fail
        refine (WT.out _).mono ?_
        rintro e2 w2 ⟨rfl, hb2⟩
        replace HB := hT HB hb2
        replace KS := hK KS hb2
        clear yS_0 yS_1 yS_2 yS_3 yS_4 yS_5 yS_z
        clear hb2
        obtain ⟨yS_0, yS_1, yS_2, yS_3, yS_4, yS_5, yS_z⟩ := blk6 KS
        go_wp2
        go_ret
        exact ⟨rfl, HB.out⟩
      · have g1 : decide (m < 0) = false := by simpa using h1
        by_cases h2 : 1000 < m
        · have g2 : decide (1000 < m) = true := by simpa using h2
          rw [if_neg (by omega)] at E0
          subst E0
          clear h1 h2 ht ew EW
          obtain ⟨KS, HB⟩ := ent1 w #[.int .i64 cx, .int .i64 cy, .int .i64 x, .int .i64 y, .int .i64 t, .int .i64 m] 27
          go_enter Tryz.func15, Tryz.ntmps15
          obtain ⟨yS_0, yS_1, yS_2, yS_3, yS_4, yS_5, yS_z⟩ := blk6 KS
          go_wp2_with fail
          clear yS_0 yS_1 yS_2 yS_3 yS_4 yS_5 yS_z
          generalize w.alloc (.cells #[.int .i64 cx, .int .i64 cy, .int .i64 x, .int .i64 y, .int .i64 t, .int .i64 m] 27) = w0 at *
          refine (VB.out _).mono ?_
          rintro e1 w1 ⟨rfl, hb1⟩
          replace HB := hT HB hb1
          replace KS := hK KS hb1
          clear hb1
          obtain ⟨yS_0, yS_1, yS_2, yS_3, yS_4, yS_5, yS_z⟩ := blk6 KS
          go_wp2_with fail
          refine (WT.out _).mono ?_
          rintro e2 w2 ⟨rfl, hb2⟩
          replace HB := hT HB hb2
          replace KS := hK KS hb2
          clear yS_0 yS_1 yS_2 yS_3 yS_4 yS_5 yS_z
          clear hb2
          obtain ⟨yS_0, yS_1, yS_2, yS_3, yS_4, yS_5, yS_z⟩ := blk6 KS
          go_wp2
          go_ret
          exact ⟨rfl, HB.out⟩
        · have g2 : decide (1000 < m) = false := by simpa using h2
          rw [if_pos (by omega)] at E0
          subst E0
          clear h1 h2 ht ew EW
          obtain ⟨KS, HB⟩ := ent1 w #[.int .i64 cx, .int .i64 cy, .int .i64 x, .int .i64 y, .int .i64 t, .int .i64 m] 27
          go_enter Tryz.func15, Tryz.ntmps15
          obtain ⟨yS_0, yS_1, yS_2, yS_3, yS_4, yS_5, yS_z⟩ := blk6 KS
          go_wp2_with fail
          clear yS_0 yS_1 yS_2 yS_3 yS_4 yS_5 yS_z
          generalize w.alloc (.cells #[.int .i64 cx, .int .i64 cy, .int .i64 x, .int .i64 y, .int .i64 t, .int .i64 m] 27) = w0 at *
          refine (VB.out _).mono ?_
          rintro e1 w1 ⟨rfl, hb1⟩
          replace HB := hT HB hb1
          replace KS := hK KS hb1
          clear hb1
          obtain ⟨yS_0, yS_1, yS_2, yS_3, yS_4, yS_5, yS_z⟩ := blk6 KS
          go_wp2_with fail
          refine (WT.out _).mono ?_
          rintro e2 w2 ⟨rfl, hb2⟩
          replace HB := hT HB hb2
          replace KS := hK KS hb2
          clear yS_0 yS_1 yS_2 yS_3 yS_4 yS_5 yS_z
          clear hb2
          obtain ⟨yS_0, yS_1, yS_2, yS_3, yS_4, yS_5, yS_z⟩ := blk6 KS
          go_wp2
          go_ret
          exact ⟨rfl, HB.out⟩
    · have ew : frm t 0 1099511627776 = false := by rw [EW]; simp; omega
      rw [ew] at WT
      rw [if_neg (by omega)] at E0
      subst E0
      clear ht ew EW
      obtain ⟨KS, HB⟩ := ent1 w #[.int .i64 cx, .int .i64 cy, .int .i64 x, .int .i64 y, .int .i64 t, .int .i64 m] 27
      go_enter Tryz.func15, Tryz.ntmps15
      obtain ⟨yS_0, yS_1, yS_2, yS_3, yS_4, yS_5, yS_z⟩ := blk6 KS
      go_wp2_with fail
      clear yS_0 yS_1 yS_2 yS_3 yS_4 yS_5 yS_z
      generalize w.alloc (.cells #[.int .i64 cx, .int .i64 cy, .int .i64 x, .int .i64 y, .int .i64 t, .int .i64 m] 27) = w0 at *
      refine (VB.out _).mono ?_
      rintro e1 w1 ⟨rfl, hb1⟩
      replace HB := hT HB hb1
      replace KS := hK KS hb1
      clear hb1
      obtain ⟨yS_0, yS_1, yS_2, yS_3, yS_4, yS_5, yS_z⟩ := blk6 KS
      go_wp2_with fail
      refine (WT.out _).mono ?_
      rintro e2 w2 ⟨rfl, hb2⟩
      replace HB := hT HB hb2
      replace KS := hK KS hb2
      clear yS_0 yS_1 yS_2 yS_3 yS_4 yS_5 yS_z
      clear hb2
      obtain ⟨yS_0, yS_1, yS_2, yS_3, yS_4, yS_5, yS_z⟩ := blk6 KS
      go_wp2
      go_ret
      exact ⟨rfl, HB.out⟩
set_option maxHeartbeats 40000000 in
set_option maxRecDepth 100000 in
theorem rstart_good (b : Bx4) (t : Int) (w : World) (h : chkS b t 0 = 0) : Calls Tryz.prog 13 #[.agg #[.int .i64 b.cx, .int .i64 b.cy, .int .i64 b.x, .int .i64 b.y], .int .i64 t] w fun e w' => e = .returned (.tuple #[.agg #[.int .i64 b.cx, .int .i64 b.cy, .int .i64 b.x, .int .i64 b.y, .int .i64 t, .int .i64 0], .int .i64 0]) ∧ Below w.heap.size w w' := by
  have C0 := fun w => rcheck_any b t 0 w
  rw [h] at C0
  have RC := Lib.hid C0
  clear C0 h
  obtain ⟨cx, cy, x, y⟩ := b
  simp only at RC
  obtain ⟨KB, KZ, HB⟩ := ent2 w #[.int .i64 cx, .int .i64 cy, .int .i64 x, .int .i64 y] 25 #[.int .i64 0, .int .i64 0, .int .i64 0, .int .i64 0, .int .i64 0, .int .i64 0] 27
  go_enter Tryz.func13, Tryz.ntmps13
  go_upto_region 1 with (fail)
  generalize (w.alloc (.cells #[.int .i64 cx, .int .i64 cy, .int .i64 x, .int .i64 y] 25)).alloc (.cells #[.int .i64 0, .int .i64 0, .int .i64 0, .int .i64 0, .int .i64 0, .int .i64 0] 27) = w0 at *
  obtain ⟨yB_0, yB_1, yB_2, yB_3, yB_z⟩ := blk4 KB
  go_upto_region 2 with (fail)
  obtain ⟨KN, hb1⟩ := alB w0 #[.int .i64 cx, .int .i64 cy, .int .i64 x, .int .i64 y, .int .i64 t, .int .i64 0] 27
  have hnN := HB.out.size
  have nzN_B := KB.out.lt
  have nzN_Z := KZ.out.lt
  replace HB := hT HB hb1
  replace KB := hK KB hb1
  replace KZ := hK KZ hb1
  clear yB_0 yB_1 yB_2 yB_3 yB_z
  clear hb1
  generalize w0.alloc (.cells #[.int .i64 cx, .int .i64 cy, .int .i64 x, .int .i64 y, .int .i64 t, .int .i64 0] 27) = w1 at *
  generalize w0.heap.size = bN at *
  have neN_B : bN ≠ w.heap.size := by omega
  have neN_Z : bN ≠ (w.heap.size + 1) := by omega
  clear nzN_B nzN_Z
  obtain ⟨yN_0, yN_1, yN_2, yN_3, yN_4, yN_5, yN_z⟩ := blk6 KN
  go_wp2_with fail
  refine (RC.out _).mono ?_
  rintro e2 w2 ⟨rfl, hb2⟩
  replace HB := hT HB hb2
  replace KB := hK KB hb2
  replace KZ := hK KZ hb2
  replace KN := hK KN hb2
  clear yN_0 yN_1 yN_2 yN_3 yN_4 yN_5 yN_z
  clear hb2
  obtain ⟨yZ_0, yZ_1, yZ_2, yZ_3, yZ_4, yZ_5, yZ_z, yZ_f0, yZ_f1, yZ_f2, yZ_f3, yZ_f4, yZ_f5⟩ := blf6 KZ
  obtain ⟨yN_0, yN_1, yN_2, yN_3, yN_4, yN_5, yN_z⟩ := blk6 KN
  go_wp2
  have hs := st6 w2 (w.heap.size + 1) 0 (.int .i64 cx) 1 (.int .i64 cy) 2 (.int .i64 x) 3 (.int .i64 y) 4 (.int .i64 t) 5 (.int .i64 0)
  replace KB := oB hs KB (by omega)
  replace KZ := Lib.hid (blk_set (blk_set (blk_set (blk_set (blk_set (blk_set KZ.out (j := 0) (by simp) (.int .i64 cx)) (j := 1) (by simp) (.int .i64 cy)) (j := 2) (by simp) (.int .i64 x)) (j := 3) (by simp) (.int .i64 y)) (j := 4) (by simp) (.int .i64 t)) (j := 5) (by simp) (.int .i64 0))
  replace KN := oB hs KN (by omega)
  replace HB := oH hs HB (by omega)
  clear hs
  clear yZ_0 yZ_1 yZ_2 yZ_3 yZ_4 yZ_5 yZ_z yZ_f0 yZ_f1 yZ_f2 yZ_f3 yZ_f4 yZ_f5 yN_0 yN_1 yN_2 yN_3 yN_4 yN_5 yN_z
  generalize (((((w2.setCell ⟨(w.heap.size + 1), 0, none⟩ (.int .i64 cx)).setCell ⟨(w.heap.size + 1), 1, none⟩ (.int .i64 cy)).setCell ⟨(w.heap.size + 1), 2, none⟩ (.int .i64 x)).setCell ⟨(w.heap.size + 1), 3, none⟩ (.int .i64 y)).setCell ⟨(w.heap.size + 1), 4, none⟩ (.int .i64 t)).setCell ⟨(w.heap.size + 1), 5, none⟩ (.int .i64 0) = w3 at *
  simp only [List.set] at KZ
  obtain ⟨yZ_0, yZ_1, yZ_2, yZ_3, yZ_4, yZ_5, yZ_z⟩ := blk6 KZ
  refine bodyPost_ret (v := .tuple #[.agg #[.int .i64 cx, .int .i64 cy, .int .i64 x, .int .i64 y, .int .i64 t, .int .i64 0], .int .i64 0]) (by simp [results, Tryz.results13, go_sem, yZ_0, yZ_1, yZ_2, yZ_3, yZ_4, yZ_5]) rfl ⟨rfl, HB.out⟩
set_option maxHeartbeats 40000000 in
set_option maxRecDepth 100000 in
theorem rstart_bad (b : Bx4) (t : Int) (w : World) (h : chkS b t 0 ≠ 0) : Calls Tryz.prog 13 #[.agg #[.int .i64 b.cx, .int .i64 b.cy, .int .i64 b.x, .int .i64 b.y], .int .i64 t] w fun e w' => e = .returned (.tuple #[.agg #[.int .i64 0, .int .i64 0, .int .i64 0, .int .i64 0, .int .i64 0, .int .i64 0], .int .i64 (chkS b t 0)]) ∧ Below w.heap.size w w' := by
  have RC := Lib.hid fun w => rcheck_any b t 0 w
  have ge : (chkS b t 0 != 0) = true := by simpa using h
  clear h
  generalize chkS b t 0 = e at *
  obtain ⟨cx, cy, x, y⟩ := b
  simp only at RC
  obtain ⟨KB, KZ, HB⟩ := ent2 w #[.int .i64 cx, .int .i64 cy, .int .i64 x, .int .i64 y] 25 #[.int .i64 0, .int .i64 0, .int .i64 0, .int .i64 0, .int .i64 0, .int .i64 0] 27
  go_enter Tryz.func13, Tryz.ntmps13
  go_upto_region 1 with (fail)
  generalize (w.alloc (.cells #[.int .i64 cx, .int .i64 cy, .int .i64 x, .int .i64 y] 25)).alloc (.cells #[.int .i64 0, .int .i64 0, .int .i64 0, .int .i64 0, .int .i64 0, .int .i64 0] 27) = w0 at *
  obtain ⟨yB_0, yB_1, yB_2, yB_3, yB_z⟩ := blk4 KB
  go_upto_region 2 with (fail)
  obtain ⟨KN, hb1⟩ := alB w0 #[.int .i64 cx, .int .i64 cy, .int .i64 x, .int .i64 y, .int .i64 t, .int .i64 0] 27
  have hnN := HB.out.size
  have nzN_B := KB.out.lt
  have nzN_Z := KZ.out.lt
  replace HB := hT HB hb1
  replace KB := hK KB hb1
  replace KZ := hK KZ hb1
  clear yB_0 yB_1 yB_2 yB_3 yB_z
  clear hb1
  generalize w0.alloc (.cells #[.int .i64 cx, .int .i64 cy, .int .i64 x, .int .i64 y, .int .i64 t, .int .i64 0] 27) = w1 at *
  generalize w0.heap.size = bN at *
  have neN_B : bN ≠ w.heap.size := by omega
  have neN_Z : bN ≠ (w.heap.size + 1) := by omega
  clear nzN_B nzN_Z
  obtain ⟨yN_0, yN_1, yN_2, yN_3, yN_4, yN_5, yN_z⟩ := blk6 KN
  go_wp2_with fail
  refine (RC.out _).mono ?_
  rintro e2 w2 ⟨rfl, hb2⟩
  replace HB := hT HB hb2
  replace KB := hK KB hb2
  replace KZ := hK KZ hb2
  replace KN := hK KN hb2
  clear yN_0 yN_1 yN_2 yN_3 yN_4 yN_5 yN_z
  clear hb2
  obtain ⟨yZ_0, yZ_1, yZ_2, yZ_3, yZ_4, yZ_5, yZ_z, yZ_f0, yZ_f1, yZ_f2, yZ_f3, yZ_f4, yZ_f5⟩ := blf6 KZ
  go_wp2
  have hs := st6 w2 (w.heap.size + 1) 0 (.int .i64 0) 1 (.int .i64 0) 2 (.int .i64 0) 3 (.int .i64 0) 4 (.int .i64 0) 5 (.int .i64 0)
  replace KB := oB hs KB (by omega)
  replace KZ := Lib.hid (blk_set (blk_set (blk_set (blk_set (blk_set (blk_set KZ.out (j := 0) (by simp) (.int .i64 0)) (j := 1) (by simp) (.int .i64 0)) (j := 2) (by simp) (.int .i64 0)) (j := 3) (by simp) (.int .i64 0)) (j := 4) (by simp) (.int .i64 0)) (j := 5) (by simp) (.int .i64 0))
  replace KN := oB hs KN (by omega)
  replace HB := oH hs HB (by omega)
  clear hs
  clear yZ_0 yZ_1 yZ_2 yZ_3 yZ_4 yZ_5 yZ_z yZ_f0 yZ_f1 yZ_f2 yZ_f3 yZ_f4 yZ_f5
  generalize (((((w2.setCell ⟨(w.heap.size + 1), 0, none⟩ (.int .i64 0)).setCell ⟨(w.heap.size + 1), 1, none⟩ (.int .i64 0)).setCell ⟨(w.heap.size + 1), 2, none⟩ (.int .i64 0)).setCell ⟨(w.heap.size + 1), 3, none⟩ (.int .i64 0)).setCell ⟨(w.heap.size + 1), 4, none⟩ (.int .i64 0)).setCell ⟨(w.heap.size + 1), 5, none⟩ (.int .i64 0) = w3 at *
  simp only [List.set] at KZ
  obtain ⟨yZ_0, yZ_1, yZ_2, yZ_3, yZ_4, yZ_5, yZ_z⟩ := blk6 KZ
  refine bodyPost_ret (v := .tuple #[.agg #[.int .i64 0, .int .i64 0, .int .i64 0, .int .i64 0, .int .i64 0, .int .i64 0], .int .i64 e]) (by simp [results, Tryz.results13, go_sem, yZ_0, yZ_1, yZ_2, yZ_3, yZ_4, yZ_5]) rfl ⟨rfl, HB.out⟩
end Go.Proofs.YtajmjkliblippaaGreatDoor
