/-
  The walks of package wind's sets: Box, Within, GroundIn. (The chains of guards are written by a small program.)
-/
import Derived.Test.YtdfpbojlimeccaaDoorWindWalks
namespace Go.Proofs.YtdfpbojlimeccaaDoor
set_option linter.unusedVariables false
open Go.RowKit Tr Sq

theorem ord_small (lo hi : Int) : ordB lo hi = (decide (lo ≤ hi) && smB lo && smB hi) := by
  unfold ordB smB
  rw [Bool.eq_iff_iff]; simp; omega
theorem ordered_any (lo hi : Int) (w : World) :
    Calls Tryd.prog 61 #[.agg #[.int .i64 lo, .int .i64 hi]] w fun e w' => e = .returned (.bool (ordB lo hi)) ∧ Below w.heap.size w w' := by
  have hv := Lib.hid (ord_small lo hi)
  cases g1 : decide (lo ≤ hi) with
  | false =>
    go_enter Tryd.func61, Tryd.ntmps61
    go_wp2_with (go_at_call 64; refine (small_any _ _).mono ?_; rintro e w' ⟨rfl, rfl⟩)
    go_ret
    exact ⟨by rw [hv.out, g1]; rfl, (Below.refl _ _).alloc (Nat.le_refl _) _⟩
  | true =>
    cases g2 : smB lo with
    | false =>
      go_enter Tryd.func61, Tryd.ntmps61
      go_wp2_with (go_at_call 64; refine (small_any _ _).mono ?_; rintro e w' ⟨rfl, rfl⟩)
      go_ret
      exact ⟨by rw [hv.out, g1, g2]; rfl, (Below.refl _ _).alloc (Nat.le_refl _) _⟩
    | true =>
      cases g3 : smB hi with
      | false =>
        go_enter Tryd.func61, Tryd.ntmps61
        go_wp2_with (go_at_call 64; refine (small_any _ _).mono ?_; rintro e w' ⟨rfl, rfl⟩)
        go_ret
        exact ⟨by rw [hv.out, g1, g2, g3]; rfl, (Below.refl _ _).alloc (Nat.le_refl _) _⟩
      | true =>
        go_enter Tryd.func61, Tryd.ntmps61
        go_wp2_with (go_at_call 64; refine (small_any _ _).mono ?_; rintro e w' ⟨rfl, rfl⟩)
        go_ret
        exact ⟨by rw [hv.out, g1, g2, g3]; rfl, (Below.refl _ _).alloc (Nat.le_refl _) _⟩

set_option maxHeartbeats 1000000 in
theorem box_any (el eh nl nh : Int) (w : World) :
    Calls Tryd.prog 27 #[.agg #[.int .i64 el, .int .i64 eh, .int .i64 nl, .int .i64 nh]] w fun e w' => e = .returned (.bool (boxB el eh nl nh)) ∧ Below w.heap.size w w' := by
  cases g1 : ordB el eh with
  | false =>
    go_enter Tryd.func27, Tryd.ntmps27
    go_wp2_with (go_at_call 61; refine (ordered_any _ _ _).mono ?_; rw [g1]; rintro e w1 ⟨rfl, hb⟩)
    go_ret
    exact ⟨by unfold boxB; rw [g1]; rfl, below_box hb⟩
  | true =>
    go_enter Tryd.func27, Tryd.ntmps27
    go_wp2_with fail
    refine (ordered_any _ _ _).mono ?_
    rw [g1]
    rintro e w1 ⟨rfl, hb⟩
    obtain ⟨hc, hf⟩ := bcell hb
    go_wp2_with fail
    refine (ordered_any _ _ _).mono ?_
    rintro e w2 ⟨rfl, hb2⟩
    go_wp2
    go_ret
    exact ⟨by unfold boxB; rw [g1]; rfl, (below_box hb).trans (hb2.mono (below_box hb).size)⟩

theorem below_two {w w1 : World} {o o' : Obj} (hb : Below ((w.alloc o).alloc o').heap.size ((w.alloc o).alloc o') w1) : Below w.heap.size w w1 := (((Below.refl _ _).alloc (Nat.le_refl _) _).alloc (by simp) _).trans (hb.mono (by simp; omega))
theorem within_eq (el eh nl nh x n : Int) : withinB el eh nl nh x n = (boxB el eh nl nh && decide (el ≤ x) && decide (x ≤ eh) && decide (nl ≤ n) && decide (n ≤ nh)) := rfl
set_option maxHeartbeats 2000000 in
theorem within_any (el eh nl nh x n : Int) (w : World) :
    Calls Tryd.prog 29 #[.agg #[.int .i64 el, .int .i64 eh, .int .i64 nl, .int .i64 nh], .agg #[.int .i64 x, .int .i64 n]] w fun e w' => e = .returned (.bool (withinB el eh nl nh x n)) ∧ Below w.heap.size w w' := by
  have HW := Lib.hid (within_eq el eh nl nh x n)
  cases g0 : boxB el eh nl nh with
  | false =>
    have G0 := Lib.hid g0
    clear g0
    go_enter Tryd.func29, Tryd.ntmps29
    go_wp2_with fail
    refine (box_any _ _ _ _ _).mono ?_
    rw [G0.out]
    rintro e w1 ⟨rfl, hb⟩
    obtain ⟨hc, hf⟩ := bcell hb
    go_wp2
    go_ret
    exact ⟨by rw [HW.out]; simp only [G0.out]; rfl, below_two hb⟩
  | true =>
    have G0 := Lib.hid g0
    clear g0
    cases g1 : decide (el ≤ x) with
    | false =>
      go_enter Tryd.func29, Tryd.ntmps29
      go_wp2_with fail
      refine (box_any _ _ _ _ _).mono ?_
      rw [G0.out]
      rintro e w1 ⟨rfl, hb⟩
      obtain ⟨hc, hf⟩ := bcell hb
      go_wp2
      go_ret
      exact ⟨by rw [HW.out]; simp only [G0.out, g1]; rfl, below_two hb⟩
    | true =>
      cases g2 : decide (x ≤ eh) with
      | false =>
        go_enter Tryd.func29, Tryd.ntmps29
        go_wp2_with fail
        refine (box_any _ _ _ _ _).mono ?_
        rw [G0.out]
        rintro e w1 ⟨rfl, hb⟩
        obtain ⟨hc, hf⟩ := bcell hb
        go_wp2
        go_ret
        exact ⟨by rw [HW.out]; simp only [G0.out, g1, g2]; rfl, below_two hb⟩
      | true =>
        cases g3 : decide (nl ≤ n) with
        | false =>
          go_enter Tryd.func29, Tryd.ntmps29
          go_wp2_with fail
          refine (box_any _ _ _ _ _).mono ?_
          rw [G0.out]
          rintro e w1 ⟨rfl, hb⟩
          obtain ⟨hc, hf⟩ := bcell hb
          go_wp2
          go_ret
          exact ⟨by rw [HW.out]; simp only [G0.out, g1, g2, g3]; rfl, below_two hb⟩
        | true =>
          cases g4 : decide (n ≤ nh) with
          | false =>
            go_enter Tryd.func29, Tryd.ntmps29
            go_wp2_with fail
            refine (box_any _ _ _ _ _).mono ?_
            rw [G0.out]
            rintro e w1 ⟨rfl, hb⟩
            obtain ⟨hc, hf⟩ := bcell hb
            go_wp2
            go_ret
            exact ⟨by rw [HW.out]; simp only [G0.out, g1, g2, g3, g4]; rfl, below_two hb⟩
          | true =>
            go_enter Tryd.func29, Tryd.ntmps29
            go_wp2_with fail
            refine (box_any _ _ _ _ _).mono ?_
            rw [G0.out]
            rintro e w1 ⟨rfl, hb⟩
            obtain ⟨hc, hf⟩ := bcell hb
            go_wp2
            go_ret
            exact ⟨by rw [HW.out]; simp only [G0.out, g1, g2, g3, g4]; rfl, below_two hb⟩
end Go.Proofs.YtdfpbojlimeccaaDoor
