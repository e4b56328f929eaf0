/-
  The walks of the reference's layers 1, 4 and 7: the same plain functions.
-/
import Derived.Test.YtdfpbojlimeccaaDoorTrigWalks
import Derived.Deep.LoopGhost
namespace Go.Proofs.YtdfpbojlimeccaaDoor
set_option linter.unusedVariables false
open Go.RowKit Tr Sq
set_option maxHeartbeats 400000 in
theorem norm_ref (a : Int) (w : World) (_h0 : -9223372036854775808 ≤ a) (_h1 : a ≤ 9223372036854775807) :
    Calls Tryd.prog 72 #[.int .i64 a] w fun e w' => e = .returned (.int .i64 (normI a)) ∧ w = w' := by
  have hb : -129600000 < a.tmod 129600000 ∧ a.tmod 129600000 < 129600000 ∧ (a.tmod 129600000 = a % 129600000 ∨ a.tmod 129600000 = a % 129600000 - 129600000) := by
    rcases Int.le_total 0 a with h | h
    · rw [Int.tmod_eq_emod_of_nonneg h]; omega
    · obtain ⟨n, rfl⟩ : ∃ n, a = -n := ⟨-a, by omega⟩
      rw [Int.neg_tmod, Int.tmod_eq_emod_of_nonneg (by omega)]; omega
  obtain ⟨b0, b1, b2⟩ := hb
  have B2 : Hid _ := b2
  clear b2
  go_enter Tryd.func72, Tryd.ntmps72
  go_wp2
  all_goals go_ret
  all_goals exact ⟨ret_int (by have := B2.out; unfold normI; omega), rfl⟩

theorem turn_ref (a b : Int) (w : World) (_h0 : -9223372036854775808 ≤ a) (_h1 : a ≤ 9223372036854775807) (_h2 : -9223372036854775808 ≤ b) (_h3 : b ≤ 9223372036854775807) :
    Calls Tryd.prog 75 #[.int .i64 a, .int .i64 b] w fun e w' => e = .returned (.int .i64 (turnI a b)) ∧ w = w' := by
  have r1 := normI_range a
  have r2 := normI_range b
  obtain ⟨r1a, r1b⟩ := r1
  obtain ⟨r2a, r2b⟩ := r2
  go_enter Tryd.func75, Tryd.ntmps75
  go_wp2_with (go_at_call 72; refine (norm_ref _ _ (by omega) (by omega)).mono ?_; rintro e w' ⟨rfl, rfl⟩)
  go_ret
  exact ⟨rfl, rfl⟩

theorem diff_ref (a b : Int) (w : World) (_h0 : -9223372036854775808 ≤ a) (_h1 : a ≤ 9223372036854775807) (_h2 : -9223372036854775808 ≤ b) (_h3 : b ≤ 9223372036854775807) :
    Calls Tryd.prog 46 #[.int .i64 a, .int .i64 b] w fun e w' => e = .returned (.int .i64 (diffI a b)) ∧ w = w' := by
  obtain ⟨r1a, r1b⟩ := normI_range a
  obtain ⟨r2a, r2b⟩ := normI_range b
  obtain ⟨r3a, r3b⟩ := normI_range (normI b - normI a)
  go_enter Tryd.func46, Tryd.ntmps46
  go_wp2_with (go_at_call 72; refine (norm_ref _ _ (by omega) (by omega)).mono ?_; rintro e w' ⟨rfl, rfl⟩)
  all_goals go_ret
  · exact ⟨ret_int (by unfold diffI; rw [if_pos (by assumption)]), rfl⟩
  · exact ⟨ret_int (by unfold diffI; rw [if_neg (by omega)]), rfl⟩

theorem mul_ref (x y : Int) (w : World) (hx : 0 ≤ x) (hy : 0 ≤ y) (hx' : x ≤ 2147483648) (hy' : y ≤ 2147483648) :
    Calls Tryd.prog 96 #[.int .i64 x, .int .i64 y] w fun e w' => e = .returned (.int .i64 (mulI x y)) ∧ w = w' := by
  obtain ⟨b0, b1⟩ := mulI_bd hx hy hx' hy'
  go_enter Tryd.func96, Tryd.ntmps96
  go_wp2
  go_ret
  exact ⟨rfl, rfl⟩
theorem div_ref (x n : Int) (w : World) (_hx : 0 ≤ x) (_hn : 2 ≤ n) (_hx' : x ≤ 2147483648) (_hn' : n ≤ 1000) :
    Calls Tryd.prog 95 #[.int .i64 x, .int .i64 n] w fun e w' => e = .returned (.int .i64 ((x + n / 2) / n)) ∧ w = w' := by
  go_enter Tryd.func95, Tryd.ntmps95
  go_wp2
  go_ret
  exact ⟨rfl, rfl⟩


theorem argument_ref (a : Int) (w : World) (h0 : 0 ≤ a) (h1 : a ≤ 16200000) :
    Calls Tryd.prog 94 #[.int .i64 a] w fun e w' => e = .returned (.tuple #[.int .i64 (argT a), .int .i64 (mulI (argT a) (argT a))]) ∧ w = w' := by
  obtain ⟨t0, t1⟩ := argT_range h0 h1
  unfold argT TM at *
  go_enter Tryd.func94, Tryd.ntmps94
  go_wp2_with (go_at_call 96; refine (mul_ref _ _ _ (by omega) (by omega) (by omega) (by omega)).mono ?_; rintro e w' ⟨rfl, rfl⟩)
  go_ret2
  exact ⟨rfl, rfl⟩

set_option maxHeartbeats 2000000 in
theorem sine_ref (a : Int) (w : World) (h0 : 0 ≤ a) (h1 : a ≤ 16200000) :
    Calls Tryd.prog 84 #[.int .i64 a] w fun e w' => e = .returned (.int .i64 (sineI a)) ∧ w = w' := by
  obtain ⟨t0, t1⟩ := argT_range h0 h1
  obtain ⟨u0, u1⟩ := mulI_self t0 t1
  obtain ⟨b1a, b1b, b1c, b1d⟩ := serS_bd _ u0 u1 1 (by decide)
  obtain ⟨b2a, b2b, b2c, b2d⟩ := serS_bd _ u0 u1 2 (by decide)
  obtain ⟨b3a, b3b, b3c, b3d⟩ := serS_bd _ u0 u1 3 (by decide)
  obtain ⟨b4a, b4b, b4c, b4d⟩ := serS_bd _ u0 u1 4 (by decide)
  obtain ⟨b5a, b5b, b5c, b5d⟩ := serS_bd _ u0 u1 5 (by decide)
  obtain ⟨m0, m1⟩ := mulTR_bd t0 t1 b5a b5b
  unfold UM TM at *
  simp only [serS, sinR, fst1, nst, Int.reduceDiv] at *
  go_enter Tryd.func84, Tryd.ntmps84
  go_wp2_with (first
    | (go_at_call 94; refine (argument_ref _ _ h0 h1).mono ?_; rintro e w' ⟨rfl, rfl⟩)
    | (go_at_call 96; refine (mul_ref _ _ _ (by omega) (by omega) (by omega) (by omega)).mono ?_; rintro e w' ⟨rfl, rfl⟩)
    | (go_at_call 95; refine (div_ref _ _ _ (by omega) (by omega) (by omega) (by omega)).mono ?_; rintro e w' ⟨rfl, rfl⟩))
  go_ret
  exact ⟨rfl, rfl⟩

set_option maxHeartbeats 2000000 in
theorem cosine_ref (a : Int) (w : World) (h0 : 0 ≤ a) (h1 : a ≤ 16200000) :
    Calls Tryd.prog 85 #[.int .i64 a] w fun e w' => e = .returned (.int .i64 (cosineI a)) ∧ w = w' := by
  obtain ⟨t0, t1⟩ := argT_range h0 h1
  obtain ⟨u0, u1⟩ := mulI_self t0 t1
  obtain ⟨b1a, b1b, b1c, b1d⟩ := serC_bd _ u0 u1 1 (by decide)
  obtain ⟨b2a, b2b, b2c, b2d⟩ := serC_bd _ u0 u1 2 (by decide)
  obtain ⟨b3a, b3b, b3c, b3d⟩ := serC_bd _ u0 u1 3 (by decide)
  obtain ⟨b4a, b4b, b4c, b4d⟩ := serC_bd _ u0 u1 4 (by decide)
  obtain ⟨b5a, b5b, b5c, b5d⟩ := serC_bd _ u0 u1 5 (by decide)
  obtain ⟨m0, m1⟩ := mulTR_bd t0 t1 b5a b5b
  unfold UM TM at *
  simp only [serC, cosR, fst1, nst, Int.reduceDiv] at *
  go_enter Tryd.func85, Tryd.ntmps85
  go_wp2_with (first
    | (go_at_call 94; refine (argument_ref _ _ h0 h1).mono ?_; rintro e w' ⟨rfl, rfl⟩)
    | (go_at_call 96; refine (mul_ref _ _ _ (by omega) (by omega) (by omega) (by omega)).mono ?_; rintro e w' ⟨rfl, rfl⟩)
    | (go_at_call 95; refine (div_ref _ _ _ (by omega) (by omega) (by omega) (by omega)).mono ?_; rintro e w' ⟨rfl, rfl⟩))
  go_ret
  exact ⟨rfl, rfl⟩

set_option maxHeartbeats 400000 in
theorem quarter_ref (a : Int) (w : World) (h0 : 0 ≤ a) (h1 : a ≤ 32400000) :
    Calls Tryd.prog 74 #[.int .i64 a] w fun e w' => e = .returned (.int .i64 (quarterI a)) ∧ w = w' := by
  go_enter Tryd.func74, Tryd.ntmps74
  go_wp2_with (first
    | (go_at_call 84; refine (sine_ref _ _ (by omega) (by omega)).mono ?_; rintro e w' ⟨rfl, rfl⟩)
    | (go_at_call 85; refine (cosine_ref _ _ (by omega) (by omega)).mono ?_; rintro e w' ⟨rfl, rfl⟩))
  all_goals go_ret
  · exact ⟨ret_int (by unfold quarterI; rw [if_pos (by assumption)]), rfl⟩
  · exact ⟨ret_int (by unfold quarterI; rw [if_neg (by omega)]), rfl⟩


set_option maxHeartbeats 1000000 in
theorem sin_ref (a : Int) (w : World) (h0 : -9223372036854775808 ≤ a) (h1 : a ≤ 9223372036854775807) :
    Calls Tryd.prog 52 #[.int .i64 a] w fun e w' => e = .returned (.int .i64 (sinI a)) ∧ w = w' := by
  obtain ⟨n0, n1⟩ := normI_range a
  have Q := Lib.hid (fun b : Int => quarterI_range (a := b))
  unfold sinI
  generalize hb : normI a = b at *
  have HB := Lib.hid hb
  clear hb
  by_cases c1 : b ≤ 32400000
  · obtain ⟨q0, q1⟩ := Q.out b (by omega) (by omega)
    go_enter Tryd.func52, Tryd.ntmps52
    go_wp2_with (first
      | (go_at_call 72; refine (norm_ref _ _ h0 h1).mono ?_; rintro e w' ⟨rfl, rfl⟩; rw [HB.out])
      | (go_at_call 74; refine (quarter_ref _ _ (by omega) (by omega)).mono ?_; rintro e w' ⟨rfl, rfl⟩))
    go_ret
    exact ⟨ret_int (by unfold sinB; rw [if_pos c1]), rfl⟩
  by_cases c2 : b ≤ 64800000
  · obtain ⟨q0, q1⟩ := Q.out (64800000 - b) (by omega) (by omega)
    go_enter Tryd.func52, Tryd.ntmps52
    go_wp2_with (first
      | (go_at_call 72; refine (norm_ref _ _ h0 h1).mono ?_; rintro e w' ⟨rfl, rfl⟩; rw [HB.out])
      | (go_at_call 74; refine (quarter_ref _ _ (by omega) (by omega)).mono ?_; rintro e w' ⟨rfl, rfl⟩))
    go_ret
    exact ⟨ret_int (by unfold sinB; rw [if_neg (by omega), if_pos c2]), rfl⟩
  by_cases c3 : b ≤ 97200000
  · obtain ⟨q0, q1⟩ := Q.out (b - 64800000) (by omega) (by omega)
    go_enter Tryd.func52, Tryd.ntmps52
    go_wp2_with (first
      | (go_at_call 72; refine (norm_ref _ _ h0 h1).mono ?_; rintro e w' ⟨rfl, rfl⟩; rw [HB.out])
      | (go_at_call 74; refine (quarter_ref _ _ (by omega) (by omega)).mono ?_; rintro e w' ⟨rfl, rfl⟩))
    go_ret
    exact ⟨ret_int (by unfold sinB; rw [if_neg (by omega), if_neg (by omega), if_pos c3]), rfl⟩
  · obtain ⟨q0, q1⟩ := Q.out (129600000 - b) (by omega) (by omega)
    go_enter Tryd.func52, Tryd.ntmps52
    go_wp2_with (first
      | (go_at_call 72; refine (norm_ref _ _ h0 h1).mono ?_; rintro e w' ⟨rfl, rfl⟩; rw [HB.out])
      | (go_at_call 74; refine (quarter_ref _ _ (by omega) (by omega)).mono ?_; rintro e w' ⟨rfl, rfl⟩))
    go_ret
    exact ⟨ret_int (by unfold sinB; rw [if_neg (by omega), if_neg (by omega), if_neg (by omega)]), rfl⟩


theorem cos_ref (a : Int) (w : World) (h0 : -9223372036854775808 ≤ a) (h1 : a ≤ 9223372036854775807) :
    Calls Tryd.prog 53 #[.int .i64 a] w fun e w' => e = .returned (.int .i64 (cosI a)) ∧ w = w' := by
  have r := normI_range (normI a + normI 32400000)
  have R := Lib.hid r
  have T : Hid (turnI a 32400000 = normI (normI a + normI 32400000)) := rfl
  clear r
  go_enter Tryd.func53, Tryd.ntmps53
  go_wp2_with (first
    | (go_at_call 75; refine (turn_ref _ _ _ h0 h1 (by omega) (by omega)).mono ?_; rintro e w' ⟨rfl, rfl⟩)
    | (go_at_call 52; refine (sin_ref _ _ (by have := R.out; have := T.out; omega) (by have := R.out; have := T.out; omega)).mono ?_; rintro e w' ⟨rfl, rfl⟩))
  go_ret
  exact ⟨rfl, rfl⟩
end Go.Proofs.YtdfpbojlimeccaaDoor
