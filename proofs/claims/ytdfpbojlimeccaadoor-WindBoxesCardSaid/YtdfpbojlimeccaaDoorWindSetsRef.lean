/-
  The walks of the reference's sets: span, Box, Within.
-/
import Derived.Test.YtdfpbojlimeccaaDoorWindSets
namespace Go.Proofs.YtdfpbojlimeccaaDoor
set_option linter.unusedVariables false
open Go.RowKit Tr Sq

theorem ord_chain (lo hi : Int) : ordB lo hi = (decide (-400 ≤ lo) && decide (lo ≤ hi) && decide (hi ≤ 400)) := by
  unfold ordB
  rw [Bool.eq_iff_iff]; simp; omega
theorem span_ref (lo hi : Int) (w : World) :
    Calls Tryd.prog 62 #[.agg #[.int .i64 lo, .int .i64 hi]] w fun e w' => e = .returned (.bool (ordB lo hi)) ∧ Below w.heap.size w w' := by
  have hv := Lib.hid (ord_chain lo hi)
  cases g1 : decide (-400 ≤ lo) <;> cases g2 : decide (lo ≤ hi) <;> cases g3 : decide (hi ≤ 400)
  all_goals
    go_enter Tryd.func62, Tryd.ntmps62
    go_wp2
    go_ret
    exact ⟨by rw [hv.out, g1, g2, g3]; rfl, (Below.refl _ _).alloc (Nat.le_refl _) _⟩

set_option maxHeartbeats 1000000 in
theorem box_ref (el eh nl nh : Int) (w : World) :
    Calls Tryd.prog 28 #[.agg #[.int .i64 el, .int .i64 eh, .int .i64 nl, .int .i64 nh]] w fun e w' => e = .returned (.bool (boxB el eh nl nh)) ∧ Below w.heap.size w w' := by
  cases g1 : ordB el eh with
  | false =>
    go_enter Tryd.func28, Tryd.ntmps28
    go_wp2_with (go_at_call 62; refine (span_ref _ _ _).mono ?_; rw [g1]; rintro e w1 ⟨rfl, hb⟩)
    go_ret
    exact ⟨by unfold boxB; rw [g1]; rfl, below_box hb⟩
  | true =>
    go_enter Tryd.func28, Tryd.ntmps28
    go_wp2_with fail
    refine (span_ref _ _ _).mono ?_
    rw [g1]
    rintro e w1 ⟨rfl, hb⟩
    obtain ⟨hc, hf⟩ := bcell hb
    go_wp2_with fail
    refine (span_ref _ _ _).mono ?_
    rintro e w2 ⟨rfl, hb2⟩
    go_wp2
    go_ret
    exact ⟨by unfold boxB; rw [g1]; rfl, (below_box hb).trans (hb2.mono (below_box hb).size)⟩

set_option maxHeartbeats 2000000 in
theorem within_ref (el eh nl nh x n : Int) (w : World) :
    Calls Tryd.prog 18 #[.agg #[.int .i64 el, .int .i64 eh, .int .i64 nl, .int .i64 nh], .agg #[.int .i64 x, .int .i64 n]] w fun e w' => e = .returned (.bool (withinB el eh nl nh x n)) ∧ Below w.heap.size w w' := by
  have HW := Lib.hid (within_eq el eh nl nh x n)
  cases g0 : boxB el eh nl nh with
  | false =>
    have G0 := Lib.hid g0
    clear g0
    go_enter Tryd.func18, Tryd.ntmps18
    go_wp2_with fail
    refine (box_ref _ _ _ _ _).mono ?_
    rw [G0.out]
    rintro e w1 ⟨rfl, hb⟩
    obtain ⟨hc, hf⟩ := bcell hb
    go_wp2
    go_ret
    exact ⟨by rw [HW.out]; simp only [G0.out]; rfl, below_two hb⟩
  | true =>
    have G0 := Lib.hid g0
    clear g0
    cases g1 : decide (el ≤ x) with
    | false =>
      go_enter Tryd.func18, Tryd.ntmps18
      go_wp2_with fail
      refine (box_ref _ _ _ _ _).mono ?_
      rw [G0.out]
      rintro e w1 ⟨rfl, hb⟩
      obtain ⟨hc, hf⟩ := bcell hb
      go_wp2
      go_ret
      exact ⟨by rw [HW.out]; simp only [G0.out, g1]; rfl, below_two hb⟩
    | true =>
      cases g2 : decide (x ≤ eh) with
      | false =>
        go_enter Tryd.func18, Tryd.ntmps18
        go_wp2_with fail
        refine (box_ref _ _ _ _ _).mono ?_
        rw [G0.out]
        rintro e w1 ⟨rfl, hb⟩
        obtain ⟨hc, hf⟩ := bcell hb
        go_wp2
        go_ret
        exact ⟨by rw [HW.out]; simp only [G0.out, g1, g2]; rfl, below_two hb⟩
      | true =>
        cases g3 : decide (nl ≤ n) with
        | false =>
          go_enter Tryd.func18, Tryd.ntmps18
          go_wp2_with fail
          refine (box_ref _ _ _ _ _).mono ?_
          rw [G0.out]
          rintro e w1 ⟨rfl, hb⟩
          obtain ⟨hc, hf⟩ := bcell hb
          go_wp2
          go_ret
          exact ⟨by rw [HW.out]; simp only [G0.out, g1, g2, g3]; rfl, below_two hb⟩
        | true =>
          cases g4 : decide (n ≤ nh) with
          | false =>
            go_enter Tryd.func18, Tryd.ntmps18
            go_wp2_with fail
            refine (box_ref _ _ _ _ _).mono ?_
            rw [G0.out]
            rintro e w1 ⟨rfl, hb⟩
            obtain ⟨hc, hf⟩ := bcell hb
            go_wp2
            go_ret
            exact ⟨by rw [HW.out]; simp only [G0.out, g1, g2, g3, g4]; rfl, below_two hb⟩
          | true =>
            go_enter Tryd.func18, Tryd.ntmps18
            go_wp2_with fail
            refine (box_ref _ _ _ _ _).mono ?_
            rw [G0.out]
            rintro e w1 ⟨rfl, hb⟩
            obtain ⟨hc, hf⟩ := bcell hb
            go_wp2
            go_ret
            exact ⟨by rw [HW.out]; simp only [G0.out, g1, g2, g3, g4]; rfl, below_two hb⟩
end Go.Proofs.YtdfpbojlimeccaaDoor

