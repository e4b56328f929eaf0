/-
  Of the text SnSensorTwo: what is wanted here.
-/
import Derived.Test.YtajmjkliblippaaGreatDoorN6SnSensorOne
import Derived.Test.YtajmjkliblippaaGreatDoorN6SnTrigWalks
import Derived.Deep.LoopGhost
import Derived.Test.YtajmjkliblippaaGreatDoorN6SnAtanThree
import Derived.Test.YtajmjkliblippaaGreatDoorN6SnSqrtWalks
import Derived.Lib.QuietBelow
namespace Go.Proofs.YtajmjkliblippaaGreatDoor.S41
set_option linter.unusedVariables false
open Go.RowKit Tr Sq
theorem isq_sq_bd {n : Int} (h0 : 0 ≤ n) (h1 : n ≤ 4611686018427387904) : 0 ≤ isq n ∧ isq n ≤ 2147483648 ∧ 0 ≤ isq n * isq n ∧ isq n * isq n ≤ 4611686018427387904 := by
  have a := isq_is h0 (by omega)
  have b := isq_mono h1 (by decide)
  have c : isq 4611686018427387904 = 2147483648 := by decide
  have d := a.le
  have e := Sq.sq_nonneg (isq n)
  have f := a.nn
  omega
theorem sqrtup_any (n : Int) (w : World) (h0 : 0 ≤ n) (h1 : n ≤ 4611686018427387904) :
    Calls Tryz.prog 77 #[.int .i64 n] w fun e w' => e = .returned (.int .i64 (sqU n)) ∧ w = w' := by
  obtain ⟨a0, a1, a2, a3⟩ := isq_sq_bd h0 h1
  by_cases hn : 0 < n
  · have g1 : decide (0 < n) = true := by simpa using hn
    by_cases hs : isq n * isq n < n
    · have g2 : decide (isq n * isq n < n) = true := by simpa using hs
      have E := Lib.hid (show sqU n = isq n + 1 by unfold sqU; rw [if_pos ⟨hn, hs⟩])
      go_enter Tryz.func77, Tryz.ntmps77
      go_wp2_with (go_at_call 80; refine (sqrt_any _ _ (by omega) (by omega)).mono ?_; rintro e w' ⟨rfl, rfl⟩)
      go_ret
      exact ⟨ret_int E.out.symm, rfl⟩
    · have g2 : decide (isq n * isq n < n) = false := by simpa using hs
      have E := Lib.hid (show sqU n = isq n by unfold sqU; rw [if_neg (fun h => hs h.2)])
      go_enter Tryz.func77, Tryz.ntmps77
      go_wp2_with (go_at_call 80; refine (sqrt_any _ _ (by omega) (by omega)).mono ?_; rintro e w' ⟨rfl, rfl⟩)
      go_ret
      exact ⟨ret_int E.out.symm, rfl⟩
  · have g1 : decide (0 < n) = false := by simpa using hn
    have E := Lib.hid (show sqU n = isq n by unfold sqU; rw [if_neg (fun h => hn h.1)])
    go_enter Tryz.func77, Tryz.ntmps77
    go_wp2_with (go_at_call 80; refine (sqrt_any _ _ (by omega) (by omega)).mono ?_; rintro e w' ⟨rfl, rfl⟩)
    go_ret
    exact ⟨ret_int E.out.symm, rfl⟩
theorem vector_any (x y p q : Int) (w : World) (h : (pvB x y && pvB p q) = true) :
    Calls Tryz.prog 79 #[.agg #[.int .i64 x, .int .i64 y], .agg #[.int .i64 p, .int .i64 q]] w fun e w' => e = .returned (.agg #[.int .i64 (p - x), .int .i64 (q - y)]) ∧ Below w.heap.size w w' := by
  obtain ⟨⟨a1, a2, a3, a4⟩, b1, b2, b3, b4⟩ := pv2 h
  clear h
  go_enter Tryz.func79, Tryz.ntmps79
  go_wp2
  exact bodyPost_ret (v := .agg #[.int .i64 (p - x), .int .i64 (q - y)]) (by simp [results, Tryz.results79, go_sem]) rfl ⟨rfl, (((Below.refl _ _).alloc (Nat.le_refl _) _).alloc (by simp) _).alloc (by simp; omega) _⟩
theorem dot_any (a b c d : Int) (w : World) (a0 : -4000000 ≤ a) (a1 : a ≤ 4000000) (b0 : -4000000 ≤ b) (b1 : b ≤ 4000000) (hc : c = a) (hd : d = b) :
    Calls Tryz.prog 81 #[.agg #[.int .i64 a, .int .i64 b], .agg #[.int .i64 c, .int .i64 d]] w fun e w' => e = .returned (.int .i64 (a * a + b * b)) ∧ Below w.heap.size w w' := by
  subst hc hd
  obtain ⟨h1, h2⟩ := sq_bd a0 a1
  obtain ⟨h3, h4⟩ := sq_bd b0 b1
  go_enter Tryz.func81, Tryz.ntmps81
  go_wp2
  go_ret
  exact ⟨rfl, ((Below.refl _ _).alloc (Nat.le_refl _) _).alloc (by simp) _⟩
set_option maxHeartbeats 1000000 in
theorem dist_any (x y p q : Int) (w : World) :
    Calls Tryz.prog 43 #[.agg #[.int .i64 x, .int .i64 y], .agg #[.int .i64 p, .int .i64 q]] w fun e w' => e = .returned (.int .i64 (distI x y p q)) ∧ Below w.heap.size w w' := by
  cases g : (pvB x y && pvB p q) with
  | false =>
    have G := Lib.hid g
    have E := Lib.hid (show distI x y p q = 0 by unfold distI; rw [if_neg (by rw [g]; decide)])
    clear g
    go_enter Tryz.func43, Tryz.ntmps43
    go_wp2_with fail
    refine (line_valid x y p q _ _ (by simp) (by go_simp) (by go_simp) (by go_simp) (by go_simp)).mono ?_
    rw [G.out]
    rintro e w1 ⟨rfl, hb⟩
    go_wp2
    go_ret
    exact ⟨ret_int E.out.symm, ((((Below.refl _ _).alloc (Nat.le_refl _) _).alloc (by simp) _).alloc (by simp; omega) _).trans (hb.mono (by simp; omega))⟩
  | true =>
    have G := Lib.hid g
    have E := Lib.hid (show distI x y p q = isq (d2 x y p q) by unfold distI; rw [if_pos g])
    obtain ⟨⟨a1, a2, a3, a4⟩, b1, b2, b3, b4⟩ := pv2 g
    obtain ⟨e1, e2, e3, e4, e5, e6⟩ := d2_bd g
    unfold d2 at *
    clear g
    go_enter Tryz.func43, Tryz.ntmps43
    go_wp2_with fail
    refine (line_valid x y p q _ _ (by simp) (by go_simp) (by go_simp) (by go_simp) (by go_simp)).mono ?_
    rw [G.out]
    rintro e w1 ⟨rfl, hb⟩
    obtain ⟨hc, hf⟩ := bcell hb
    have hA : Below w.heap.size w w1 := ((((Below.refl _ _).alloc (Nat.le_refl _) _).alloc (by simp) _).alloc (by simp; omega) _).trans (hb.mono (by simp; omega))
    go_wp2_with fail
    refine (vector_any x y p q _ G.out).mono ?_
    rintro e w2 ⟨rfl, hb2⟩
    have hB := hA.trans (hb2.mono hA.size)
    clear hb hc hf hA hb2
    go_wp2_with fail
    refine (dot_any _ _ _ _ _ (by omega) (by omega) (by omega) (by omega) rfl rfl).mono ?_
    rintro e w3 ⟨rfl, hb3⟩
    go_wp2_with (go_at_call 80; refine (sqrt_any _ _ (by omega) (by omega)).mono ?_; rintro e w' ⟨rfl, rfl⟩)
    go_ret
    exact ⟨ret_int E.out.symm, hB.trans ((below_box hb3).mono hB.size)⟩
set_option maxHeartbeats 2000000 in
theorem course_any (x y p q : Int) (w : World) :
    Calls Tryz.prog 87 #[.agg #[.int .i64 x, .int .i64 y], .agg #[.int .i64 p, .int .i64 q]] w fun e w' => e = .returned (.tuple #[.int .i64 (courseF x y p q).1, .int .i64 (courseF x y p q).2]) ∧ Below w.heap.size w w' := by
  cases g : (pvB x y && pvB p q) with
  | false =>
    have G := Lib.hid g
    have E := Lib.hid (show courseF x y p q = (0, 1) by unfold courseF; rw [if_neg (by rw [g]; decide)])
    clear g
    go_enter Tryz.func87, Tryz.ntmps87
    go_wp2_with fail
    refine (line_valid x y p q _ _ (by simp) (by go_simp) (by go_simp) (by go_simp) (by go_simp)).mono ?_
    rw [G.out]
    rintro e w1 ⟨rfl, hb⟩
    go_wp2
    go_ret2
    exact ⟨by rw [E.out]; rfl, ((((Below.refl _ _).alloc (Nat.le_refl _) _).alloc (by simp) _).alloc (by simp; omega) _).trans (hb.mono (by simp; omega))⟩
  | true =>
    have G := Lib.hid g
    obtain ⟨⟨a1, a2, a3, a4⟩, b1, b2, b3, b4⟩ := pv2 g
    by_cases hxy : x = p ∧ y = q
    · have E := Lib.hid (show courseF x y p q = (0, 10) by unfold courseF; rw [if_pos g, if_pos hxy])
      obtain ⟨rfl, rfl⟩ := hxy
      clear g
      go_enter Tryz.func87, Tryz.ntmps87
      go_wp2_with fail
      refine (line_valid x y x y _ _ (by simp) (by go_simp) (by go_simp) (by go_simp) (by go_simp)).mono ?_
      rw [G.out]
      rintro e w1 ⟨rfl, hb⟩
      obtain ⟨hc, hf⟩ := bcell hb
      go_wp2
      go_ret2
      exact ⟨by rw [E.out]; rfl, ((((Below.refl _ _).alloc (Nat.le_refl _) _).alloc (by simp) _).alloc (by simp; omega) _).trans (hb.mono (by simp; omega))⟩
    · have E := Lib.hid (show courseF x y p q = (atanI (p - x) (q - y), 0) by unfold courseF; rw [if_pos g, if_neg hxy])
      have HNE := Lib.hid (show (q - y ≠ 0 ∨ p - x ≠ 0) by omega)
      clear g
      by_cases hx : x = p
      · have hy : (y == q) = false := by simp; intro h; exact hxy ⟨hx, h⟩
        subst hx
        have E2 := Lib.hid (show courseF x y x q = (atanI 0 (q - y), 0) by rw [E.out, Int.sub_self])
        have HN := Lib.hid (show (q - y ≠ 0 ∨ (0 : Int) ≠ 0) by omega)
        clear hxy HNE E
        go_enter Tryz.func87, Tryz.ntmps87
        go_wp2_with fail
        refine (line_valid x y x q _ _ (by simp) (by go_simp) (by go_simp) (by go_simp) (by go_simp)).mono ?_
        rw [G.out]
        rintro e w1 ⟨rfl, hb⟩
        obtain ⟨hc, hf⟩ := bcell hb
        have hA : Below w.heap.size w w1 := ((((Below.refl _ _).alloc (Nat.le_refl _) _).alloc (by simp) _).alloc (by simp; omega) _).trans (hb.mono (by simp; omega))
        go_wp2_with fail
        refine (vector_any x y x q _ G.out).mono ?_
        rintro e w2 ⟨rfl, hb2⟩
        have hB := hA.trans (hb2.mono hA.size)
        clear hb hc hf hA hb2
        go_wp2_with fail
        refine (atan2_ok 0 (q - y) _ (by omega) (by omega) (by omega) (by omega) HN.out).mono ?_
        rintro e w3 ⟨rfl, hb3⟩
        go_wp2
        go_ret2
        exact ⟨by rw [E2.out]; rfl, hB.trans ((below_box hb3).mono hB.size)⟩
      · have hx' : (x == p) = false := by simpa using hx
        clear hxy hx
        go_enter Tryz.func87, Tryz.ntmps87
        go_wp2_with fail
        refine (line_valid x y p q _ _ (by simp) (by go_simp) (by go_simp) (by go_simp) (by go_simp)).mono ?_
        rw [G.out]
        rintro e w1 ⟨rfl, hb⟩
        obtain ⟨hc, hf⟩ := bcell hb
        have hA : Below w.heap.size w w1 := ((((Below.refl _ _).alloc (Nat.le_refl _) _).alloc (by simp) _).alloc (by simp; omega) _).trans (hb.mono (by simp; omega))
        go_wp2_with fail
        refine (vector_any x y p q _ G.out).mono ?_
        rintro e w2 ⟨rfl, hb2⟩
        have hB := hA.trans (hb2.mono hA.size)
        clear hb hc hf hA hb2
        go_wp2_with fail
        refine (atan2_ok (p - x) (q - y) _ (by omega) (by omega) (by omega) (by omega) HNE.out).mono ?_
        rintro e w3 ⟨rfl, hb3⟩
        go_wp2
        go_ret2
        exact ⟨by rw [E.out]; rfl, hB.trans ((below_box hb3).mono hB.size)⟩
end Go.Proofs.YtajmjkliblippaaGreatDoor.S41
