/-
  The walks of roots rounded up, of distances and courses between points, and of boxes, the program's and the reference's.
-/
import Derived.Test.YtnnafjmfbnnnjaaDoorSensorOne
import Derived.Test.YtnnafjmfbnnnjaaDoorSqrtRef
import Derived.Test.YtnnafjmfbnnnjaaDoorAtanRef
import Derived.Lib.QuietBelow
namespace Go.Proofs.YtnnafjmfbnnnjaaDoor
set_option linter.unusedVariables false
open Go.RowKit Tr Sq

theorem isq_sq_bd {n : Int} (h0 : 0 ≤ n) (h1 : n ≤ 4611686018427387904) : 0 ≤ isq n ∧ isq n ≤ 2147483648 ∧ 0 ≤ isq n * isq n ∧ isq n * isq n ≤ 4611686018427387904 := by
  have a := isq_is h0 (by omega)
  have b := isq_mono h1 (by decide)
  have c : isq 4611686018427387904 = 2147483648 := by decide
  have d := a.le
  have e := Sq.sq_nonneg (isq n)
  have f := a.nn
  omega
theorem sqrtup_any (n : Int) (w : World) (h0 : 0 ≤ n) (h1 : n ≤ 4611686018427387904) :
    Calls Tryd.prog 48 #[.int .i64 n] w fun e w' => e = .returned (.int .i64 (sqU n)) ∧ w = w' := by
  obtain ⟨a0, a1, a2, a3⟩ := isq_sq_bd h0 h1
  by_cases hn : 0 < n
  · have g1 : decide (0 < n) = true := by simpa using hn
    by_cases hs : isq n * isq n < n
    · have g2 : decide (isq n * isq n < n) = true := by simpa using hs
      have E := Lib.hid (show sqU n = isq n + 1 by unfold sqU; rw [if_pos ⟨hn, hs⟩])
      go_enter Tryd.func48, Tryd.ntmps48
      go_wp2_with (go_at_call 53; refine (sqrt_any _ _ (by omega) (by omega)).mono ?_; rintro e w' ⟨rfl, rfl⟩)
      go_ret
      exact ⟨ret_int E.out.symm, rfl⟩
    · have g2 : decide (isq n * isq n < n) = false := by simpa using hs
      have E := Lib.hid (show sqU n = isq n by unfold sqU; rw [if_neg (fun h => hs h.2)])
      go_enter Tryd.func48, Tryd.ntmps48
      go_wp2_with (go_at_call 53; refine (sqrt_any _ _ (by omega) (by omega)).mono ?_; rintro e w' ⟨rfl, rfl⟩)
      go_ret
      exact ⟨ret_int E.out.symm, rfl⟩
  · have g1 : decide (0 < n) = false := by simpa using hn
    have E := Lib.hid (show sqU n = isq n by unfold sqU; rw [if_neg (fun h => hn h.1)])
    go_enter Tryd.func48, Tryd.ntmps48
    go_wp2_with (go_at_call 53; refine (sqrt_any _ _ (by omega) (by omega)).mono ?_; rintro e w' ⟨rfl, rfl⟩)
    go_ret
    exact ⟨ret_int E.out.symm, rfl⟩
theorem sqrtup_ref (n : Int) (w : World) (h0 : 0 ≤ n) (h1 : n ≤ 4611686018427387904) :
    Calls Tryd.prog 50 #[.int .i64 n] w fun e w' => e = .returned (.int .i64 (sqU n)) ∧ w = w' := by
  obtain ⟨a0, a1, a2, a3⟩ := isq_sq_bd h0 h1
  by_cases hn : 0 < n
  · have g1 : decide (0 < n) = true := by simpa using hn
    by_cases hs : isq n * isq n < n
    · have g2 : decide (isq n * isq n < n) = true := by simpa using hs
      have E := Lib.hid (show sqU n = isq n + 1 by unfold sqU; rw [if_pos ⟨hn, hs⟩])
      go_enter Tryd.func50, Tryd.ntmps50
      go_wp2_with (go_at_call 76; refine (sqrt_ref _ _ (by omega) (by omega)).mono ?_; rintro e w' ⟨rfl, rfl⟩)
      go_ret
      exact ⟨ret_int E.out.symm, rfl⟩
    · have g2 : decide (isq n * isq n < n) = false := by simpa using hs
      have E := Lib.hid (show sqU n = isq n by unfold sqU; rw [if_neg (fun h => hs h.2)])
      go_enter Tryd.func50, Tryd.ntmps50
      go_wp2_with (go_at_call 76; refine (sqrt_ref _ _ (by omega) (by omega)).mono ?_; rintro e w' ⟨rfl, rfl⟩)
      go_ret
      exact ⟨ret_int E.out.symm, rfl⟩
  · have g1 : decide (0 < n) = false := by simpa using hn
    have E := Lib.hid (show sqU n = isq n by unfold sqU; rw [if_neg (fun h => hn h.1)])
    go_enter Tryd.func50, Tryd.ntmps50
    go_wp2_with (go_at_call 76; refine (sqrt_ref _ _ (by omega) (by omega)).mono ?_; rintro e w' ⟨rfl, rfl⟩)
    go_ret
    exact ⟨ret_int E.out.symm, rfl⟩
theorem vector_any (x y p q : Int) (w : World) (h : (pvB x y && pvB p q) = true) :
    Calls Tryd.prog 52 #[.agg #[.int .i64 x, .int .i64 y], .agg #[.int .i64 p, .int .i64 q]] w fun e w' => e = .returned (.agg #[.int .i64 (p - x), .int .i64 (q - y)]) ∧ Below w.heap.size w w' := by
  obtain ⟨⟨a1, a2, a3, a4⟩, b1, b2, b3, b4⟩ := pv2 h
  clear h
  go_enter Tryd.func52, Tryd.ntmps52
  go_wp2
  exact bodyPost_ret (v := .agg #[.int .i64 (p - x), .int .i64 (q - y)]) (by simp [results, Tryd.results52, go_sem]) rfl ⟨rfl, (((Below.refl _ _).alloc (Nat.le_refl _) _).alloc (by simp) _).alloc (by simp; omega) _⟩
theorem dot_any (a b c d : Int) (w : World) (a0 : -4000000 ≤ a) (a1 : a ≤ 4000000) (b0 : -4000000 ≤ b) (b1 : b ≤ 4000000) (hc : c = a) (hd : d = b) :
    Calls Tryd.prog 54 #[.agg #[.int .i64 a, .int .i64 b], .agg #[.int .i64 c, .int .i64 d]] w fun e w' => e = .returned (.int .i64 (a * a + b * b)) ∧ Below w.heap.size w w' := by
  subst hc hd
  obtain ⟨h1, h2⟩ := sq_bd a0 a1
  obtain ⟨h3, h4⟩ := sq_bd b0 b1
  go_enter Tryd.func54, Tryd.ntmps54
  go_wp2
  go_ret
  exact ⟨rfl, ((Below.refl _ _).alloc (Nat.le_refl _) _).alloc (by simp) _⟩
set_option maxHeartbeats 1000000 in
theorem dist_any (x y p q : Int) (w : World) :
    Calls Tryd.prog 23 #[.agg #[.int .i64 x, .int .i64 y], .agg #[.int .i64 p, .int .i64 q]] w fun e w' => e = .returned (.int .i64 (distI x y p q)) ∧ Below w.heap.size w w' := by
  cases g : (pvB x y && pvB p q) with
  | false =>
    have G := Lib.hid g
    have E := Lib.hid (show distI x y p q = 0 by unfold distI; rw [if_neg (by rw [g]; decide)])
    clear g
    go_enter Tryd.func23, Tryd.ntmps23
    go_wp2_with fail
    refine (line_valid x y p q _ _ (by simp) (by go_simp) (by go_simp) (by go_simp) (by go_simp)).mono ?_
    rw [G.out]
    rintro e w1 ⟨rfl, hb⟩
    go_wp2
    go_ret
    exact ⟨ret_int E.out.symm, ((((Below.refl _ _).alloc (Nat.le_refl _) _).alloc (by simp) _).alloc (by simp; omega) _).trans (hb.mono (by simp; omega))⟩
  | true =>
    have G := Lib.hid g
    have E := Lib.hid (show distI x y p q = isq (d2 x y p q) by unfold distI; rw [if_pos g])
    obtain ⟨⟨a1, a2, a3, a4⟩, b1, b2, b3, b4⟩ := pv2 g
    obtain ⟨e1, e2, e3, e4, e5, e6⟩ := d2_bd g
    unfold d2 at *
    clear g
    go_enter Tryd.func23, Tryd.ntmps23
    go_wp2_with fail
    refine (line_valid x y p q _ _ (by simp) (by go_simp) (by go_simp) (by go_simp) (by go_simp)).mono ?_
    rw [G.out]
    rintro e w1 ⟨rfl, hb⟩
    obtain ⟨hc, hf⟩ := bcell hb
    have hA : Below w.heap.size w w1 := ((((Below.refl _ _).alloc (Nat.le_refl _) _).alloc (by simp) _).alloc (by simp; omega) _).trans (hb.mono (by simp; omega))
    go_wp2_with fail
    refine (vector_any x y p q _ G.out).mono ?_
    rintro e w2 ⟨rfl, hb2⟩
    have hB := hA.trans (hb2.mono hA.size)
    clear hb hc hf hA hb2
    go_wp2_with fail
    refine (dot_any _ _ _ _ _ (by omega) (by omega) (by omega) (by omega) rfl rfl).mono ?_
    rintro e w3 ⟨rfl, hb3⟩
    go_wp2_with (go_at_call 53; refine (sqrt_any _ _ (by omega) (by omega)).mono ?_; rintro e w' ⟨rfl, rfl⟩)
    go_ret
    exact ⟨ret_int E.out.symm, hB.trans ((below_box hb3).mono hB.size)⟩
set_option maxHeartbeats 2000000 in
theorem course_any (x y p q : Int) (w : World) :
    Calls Tryd.prog 36 #[.agg #[.int .i64 x, .int .i64 y], .agg #[.int .i64 p, .int .i64 q]] w fun e w' => e = .returned (.tuple #[.int .i64 (courseF x y p q).1, .int .i64 (courseF x y p q).2]) ∧ Below w.heap.size w w' := by
  cases g : (pvB x y && pvB p q) with
  | false =>
    have G := Lib.hid g
    have E := Lib.hid (show courseF x y p q = (0, 1) by unfold courseF; rw [if_neg (by rw [g]; decide)])
    clear g
    go_enter Tryd.func36, Tryd.ntmps36
    go_wp2_with fail
    refine (line_valid x y p q _ _ (by simp) (by go_simp) (by go_simp) (by go_simp) (by go_simp)).mono ?_
    rw [G.out]
    rintro e w1 ⟨rfl, hb⟩
    go_wp2
    go_ret2
    exact ⟨by rw [E.out]; rfl, ((((Below.refl _ _).alloc (Nat.le_refl _) _).alloc (by simp) _).alloc (by simp; omega) _).trans (hb.mono (by simp; omega))⟩
  | true =>
    have G := Lib.hid g
    obtain ⟨⟨a1, a2, a3, a4⟩, b1, b2, b3, b4⟩ := pv2 g
    by_cases hxy : x = p ∧ y = q
    · have E := Lib.hid (show courseF x y p q = (0, 10) by unfold courseF; rw [if_pos g, if_pos hxy])
      obtain ⟨rfl, rfl⟩ := hxy
      clear g
      go_enter Tryd.func36, Tryd.ntmps36
      go_wp2_with fail
      refine (line_valid x y x y _ _ (by simp) (by go_simp) (by go_simp) (by go_simp) (by go_simp)).mono ?_
      rw [G.out]
      rintro e w1 ⟨rfl, hb⟩
      obtain ⟨hc, hf⟩ := bcell hb
      go_wp2
      go_ret2
      exact ⟨by rw [E.out]; rfl, ((((Below.refl _ _).alloc (Nat.le_refl _) _).alloc (by simp) _).alloc (by simp; omega) _).trans (hb.mono (by simp; omega))⟩
    · have E := Lib.hid (show courseF x y p q = (atanI (p - x) (q - y), 0) by unfold courseF; rw [if_pos g, if_neg hxy])
      have HNE := Lib.hid (show (q - y ≠ 0 ∨ p - x ≠ 0) by omega)
      clear g
      by_cases hx : x = p
      · have hy : (y == q) = false := by simp; intro h; exact hxy ⟨hx, h⟩
        subst hx
        have E2 := Lib.hid (show courseF x y x q = (atanI 0 (q - y), 0) by rw [E.out, Int.sub_self])
        have HN := Lib.hid (show (q - y ≠ 0 ∨ (0 : Int) ≠ 0) by omega)
        clear hxy HNE E
        go_enter Tryd.func36, Tryd.ntmps36
        go_wp2_with fail
        refine (line_valid x y x q _ _ (by simp) (by go_simp) (by go_simp) (by go_simp) (by go_simp)).mono ?_
        rw [G.out]
        rintro e w1 ⟨rfl, hb⟩
        obtain ⟨hc, hf⟩ := bcell hb
        have hA : Below w.heap.size w w1 := ((((Below.refl _ _).alloc (Nat.le_refl _) _).alloc (by simp) _).alloc (by simp; omega) _).trans (hb.mono (by simp; omega))
        go_wp2_with fail
        refine (vector_any x y x q _ G.out).mono ?_
        rintro e w2 ⟨rfl, hb2⟩
        have hB := hA.trans (hb2.mono hA.size)
        clear hb hc hf hA hb2
        go_wp2_with fail
        refine (atan2_ok 0 (q - y) _ (by omega) (by omega) (by omega) (by omega) HN.out).mono ?_
        rintro e w3 ⟨rfl, hb3⟩
        go_wp2
        go_ret2
        exact ⟨by rw [E2.out]; rfl, hB.trans ((below_box hb3).mono hB.size)⟩
      · have hx' : (x == p) = false := by simpa using hx
        clear hxy hx
        go_enter Tryd.func36, Tryd.ntmps36
        go_wp2_with fail
        refine (line_valid x y p q _ _ (by simp) (by go_simp) (by go_simp) (by go_simp) (by go_simp)).mono ?_
        rw [G.out]
        rintro e w1 ⟨rfl, hb⟩
        obtain ⟨hc, hf⟩ := bcell hb
        have hA : Below w.heap.size w w1 := ((((Below.refl _ _).alloc (Nat.le_refl _) _).alloc (by simp) _).alloc (by simp; omega) _).trans (hb.mono (by simp; omega))
        go_wp2_with fail
        refine (vector_any x y p q _ G.out).mono ?_
        rintro e w2 ⟨rfl, hb2⟩
        have hB := hA.trans (hb2.mono hA.size)
        clear hb hc hf hA hb2
        go_wp2_with fail
        refine (atan2_ok (p - x) (q - y) _ (by omega) (by omega) (by omega) (by omega) HNE.out).mono ?_
        rintro e w3 ⟨rfl, hb3⟩
        go_wp2
        go_ret2
        exact ⟨by rw [E.out]; rfl, hB.trans ((below_box hb3).mono hB.size)⟩
theorem r11valid (a b c d e f : Int) (w : World) :
    Calls Tryd.prog 70 #[.agg #[.int .i64 a, .int .i64 b], .agg #[.int .i64 c, .int .i64 d], .agg #[.int .i64 e, .int .i64 f]] w fun en w' => en = .returned (.bool (pvB a b && pvB c d && pvB e f)) ∧ Below w.heap.size w w' := by
  cases g1 : pvB a b with
  | false =>
    go_enter Tryd.func70, Tryd.ntmps70
    go_wp2_with (go_at_call 33; refine (pvalid_ref _ _ _).mono ?_; rintro en w1 ⟨rfl, hb⟩)
    go_ret
    exact ⟨rfl, ((((Below.refl _ _).alloc (Nat.le_refl _) _).alloc (by simp) _).alloc (by simp; omega) _).trans (hb.mono (by simp; omega))⟩
  | true =>
    cases g2 : pvB c d with
    | false =>
      go_enter Tryd.func70, Tryd.ntmps70
      go_wp2_with fail
      refine (pvalid_ref _ _ _).mono ?_
      rw [g1]
      rintro en w1 ⟨rfl, hb⟩
      have hA : Below w.heap.size w w1 := ((((Below.refl _ _).alloc (Nat.le_refl _) _).alloc (by simp) _).alloc (by simp; omega) _).trans (hb.mono (by simp; omega))
      obtain ⟨hc, hf⟩ := bcell hb
      go_wp2_with fail
      refine (pvalid_ref _ _ _).mono ?_
      rw [g2]
      rintro en w2 ⟨rfl, hb2⟩
      go_wp2
      go_ret
      exact ⟨rfl, hA.trans (hb2.mono hA.size)⟩
    | true =>
      cases g3 : pvB e f
      all_goals
        go_enter Tryd.func70, Tryd.ntmps70
        go_wp2_with fail
        refine (pvalid_ref _ _ _).mono ?_
        rw [g1]
        rintro en w1 ⟨rfl, hb⟩
        have hA : Below w.heap.size w w1 := ((((Below.refl _ _).alloc (Nat.le_refl _) _).alloc (by simp) _).alloc (by simp; omega) _).trans (hb.mono (by simp; omega))
        obtain ⟨hc, hf⟩ := bcell hb
        have hz : w.heap.size + 1 + 1 < w1.heap.size := by have := hb.size; simp at this; omega
        go_wp2_with fail
        refine (pvalid_ref _ _ _).mono ?_
        rw [g2]
        rintro en w2 ⟨rfl, hb2⟩
        have hB := hA.trans (hb2.mono hA.size)
        obtain ⟨hc2, hf2⟩ := bcell hb2
        go_wp2_with fail
        refine (pvalid_ref _ _ _).mono ?_
        rw [g3]
        rintro en w3 ⟨rfl, hb3⟩
        go_wp2
        go_ret
        exact ⟨rfl, hB.trans (hb3.mono hB.size)⟩
theorem dot_ref (x y p q : Int) (w : World) (h : (pvB x y && pvB p q) = true) :
    Calls Tryd.prog 39 #[.agg #[.int .i64 x, .int .i64 y], .agg #[.int .i64 p, .int .i64 q], .agg #[.int .i64 x, .int .i64 y], .agg #[.int .i64 p, .int .i64 q]] w fun e w' => e = .returned (.int .i64 (d2 x y p q)) ∧ Below w.heap.size w w' := by
  obtain ⟨⟨a1, a2, a3, a4⟩, b1, b2, b3, b4⟩ := pv2 h
  obtain ⟨e1, e2, e3, e4, e5, e6⟩ := d2_bd h
  clear h
  unfold d2 at *
  go_enter Tryd.func39, Tryd.ntmps39
  go_wp2
  go_ret
  exact ⟨rfl, ((((Below.refl _ _).alloc (Nat.le_refl _) _).alloc (by simp) _).alloc (by simp; omega) _).alloc (by simp; omega) _⟩
theorem pvv {x y p q : Int} {b : Bool} (h : (pvB x y && pvB p q) = b) : (pvB x y && pvB p q && pvB p q) = b := by rw [← h, Bool.and_assoc, Bool.and_self]
set_option maxHeartbeats 1000000 in
theorem dist_ref (x y p q : Int) (w : World) :
    Calls Tryd.prog 55 #[.agg #[.int .i64 x, .int .i64 y], .agg #[.int .i64 p, .int .i64 q]] w fun e w' => e = .returned (.int .i64 (distI x y p q)) ∧ Below w.heap.size w w' := by
  cases g : (pvB x y && pvB p q) with
  | false =>
    have G := Lib.hid (pvv g)
    have E := Lib.hid (show distI x y p q = 0 by unfold distI; rw [if_neg (by rw [g]; decide)])
    clear g
    go_enter Tryd.func55, Tryd.ntmps55
    go_wp2_with fail
    refine (r11valid _ _ _ _ _ _ _).mono ?_
    rw [G.out]
    rintro e w1 ⟨rfl, hb⟩
    go_wp2
    go_ret
    exact ⟨ret_int E.out.symm, (((Below.refl _ _).alloc (Nat.le_refl _) _).alloc (by simp) _).trans (hb.mono (by simp; omega))⟩
  | true =>
    have G := Lib.hid (pvv g)
    have D := Lib.hid (fun w => dot_ref x y p q w g)
    have E := Lib.hid (show distI x y p q = isq (d2 x y p q) by unfold distI; rw [if_pos g])
    obtain ⟨e1, e2, e3, e4, e5, e6⟩ := d2_bd g
    clear g e3 e4 e5 e6
    go_enter Tryd.func55, Tryd.ntmps55
    go_wp2_with fail
    refine (r11valid _ _ _ _ _ _ _).mono ?_
    rw [G.out]
    rintro e w1 ⟨rfl, hb⟩
    obtain ⟨hc, hf⟩ := bcell hb
    have hA : Below w.heap.size w w1 := (((Below.refl _ _).alloc (Nat.le_refl _) _).alloc (by simp) _).trans (hb.mono (by simp; omega))
    go_wp2_with fail
    refine (D.out _).mono ?_
    rintro e w2 ⟨rfl, hb2⟩
    go_wp2_with (go_at_call 76; refine (sqrt_ref _ _ (by omega) (by omega)).mono ?_; rintro e w' ⟨rfl, rfl⟩)
    go_ret
    exact ⟨ret_int E.out.symm, hA.trans (hb2.mono hA.size)⟩
set_option maxHeartbeats 2000000 in
theorem course_ref (x y p q : Int) (w : World) :
    Calls Tryd.prog 40 #[.agg #[.int .i64 x, .int .i64 y], .agg #[.int .i64 p, .int .i64 q]] w fun e w' => e = .returned (.tuple #[.int .i64 (courseF x y p q).1, .int .i64 (courseF x y p q).2]) ∧ Below w.heap.size w w' := by
  cases g : (pvB x y && pvB p q) with
  | false =>
    have G := Lib.hid (pvv g)
    have E := Lib.hid (show courseF x y p q = (0, 1) by unfold courseF; rw [if_neg (by rw [g]; decide)])
    clear g
    go_enter Tryd.func40, Tryd.ntmps40
    go_wp2_with fail
    refine (r11valid _ _ _ _ _ _ _).mono ?_
    rw [G.out]
    rintro e w1 ⟨rfl, hb⟩
    go_wp2
    go_ret2
    exact ⟨by rw [E.out]; rfl, (((Below.refl _ _).alloc (Nat.le_refl _) _).alloc (by simp) _).trans (hb.mono (by simp; omega))⟩
  | true =>
    have G := Lib.hid (pvv g)
    obtain ⟨⟨a1, a2, a3, a4⟩, b1, b2, b3, b4⟩ := pv2 g
    by_cases hxy : x = p ∧ y = q
    · have E := Lib.hid (show courseF x y p q = (0, 10) by unfold courseF; rw [if_pos g, if_pos hxy])
      obtain ⟨rfl, rfl⟩ := hxy
      clear g
      go_enter Tryd.func40, Tryd.ntmps40
      go_wp2_with fail
      refine (r11valid _ _ _ _ _ _ _).mono ?_
      rw [G.out]
      rintro e w1 ⟨rfl, hb⟩
      obtain ⟨hc, hf⟩ := bcell hb
      go_wp2
      go_ret2
      exact ⟨by rw [E.out]; rfl, (((Below.refl _ _).alloc (Nat.le_refl _) _).alloc (by simp) _).trans (hb.mono (by simp; omega))⟩
    · have E := Lib.hid (show courseF x y p q = (atanI (p - x) (q - y), 0) by unfold courseF; rw [if_pos g, if_neg hxy])
      have HNE := Lib.hid (show (q - y ≠ 0 ∨ p - x ≠ 0) by omega)
      clear g
      by_cases hx : x = p
      · have hy : (y == q) = false := by simp; intro h; exact hxy ⟨hx, h⟩
        subst hx
        have E2 := Lib.hid (show courseF x y x q = (atanI 0 (q - y), 0) by rw [E.out, Int.sub_self])
        have HN := Lib.hid (show (q - y ≠ 0 ∨ (0 : Int) ≠ 0) by omega)
        clear hxy HNE E
        go_enter Tryd.func40, Tryd.ntmps40
        go_wp2_with fail
        refine (r11valid _ _ _ _ _ _ _).mono ?_
        rw [G.out]
        rintro e w1 ⟨rfl, hb⟩
        obtain ⟨hc, hf⟩ := bcell hb
        have hA : Below w.heap.size w w1 := (((Below.refl _ _).alloc (Nat.le_refl _) _).alloc (by simp) _).trans (hb.mono (by simp; omega))
        go_wp2_with fail
        refine (atan2_ref 0 (q - y) _ (by omega) (by omega) (by omega) (by omega) HN.out).mono ?_
        rintro e w3 ⟨rfl, rfl⟩
        go_wp2
        go_ret2
        exact ⟨by rw [E2.out]; rfl, hA⟩
      · have hx' : (x == p) = false := by simpa using hx
        clear hxy hx
        go_enter Tryd.func40, Tryd.ntmps40
        go_wp2_with fail
        refine (r11valid _ _ _ _ _ _ _).mono ?_
        rw [G.out]
        rintro e w1 ⟨rfl, hb⟩
        obtain ⟨hc, hf⟩ := bcell hb
        have hA : Below w.heap.size w w1 := (((Below.refl _ _).alloc (Nat.le_refl _) _).alloc (by simp) _).trans (hb.mono (by simp; omega))
        go_wp2_with fail
        refine (atan2_ref (p - x) (q - y) _ (by omega) (by omega) (by omega) (by omega) HNE.out).mono ?_
        rintro e w3 ⟨rfl, rfl⟩
        go_wp2
        go_ret2
        exact ⟨by rw [E.out]; rfl, hA⟩
end Go.Proofs.YtnnafjmfbnnnjaaDoor
