/-
  The walks of layers 1, 4 and 7 (angles, roots, sines, their inverses), each function once: what it returns, as the plain functions say.
-/
import Derived.Test.YtdfpbojlimeccaaDoorProg
import Derived.Test.YtdfpbojlimeccaaDoorTrigPlain
import Derived.Test.YtdfpbojlimeccaaDoorSqrtPlain
import Derived.WalkKit
import Derived.WalkSpells
import Derived.Lib.Hide
namespace Go.Proofs.YtdfpbojlimeccaaDoor
set_option linter.unusedVariables false
open Go.RowKit Tr Sq

theorem ret_int {k : IntKind} {a b : Int} (h : a = b) : Ending.returned (.int k a) = .returned (.int k b) := by rw [h]

/-! ### the program's -/
set_option maxHeartbeats 400000 in
theorem norm_any (a : Int) (w : World) (_h0 : -9223372036854775808 ≤ a) (_h1 : a ≤ 9223372036854775807) :
    Calls Tryd.prog 20 #[.int .i64 a] w fun e w' => e = .returned (.int .i64 (normI a)) ∧ w = w' := by
  have hb : -129600000 < a.tmod 129600000 ∧ a.tmod 129600000 < 129600000 ∧ (a.tmod 129600000 = a % 129600000 ∨ a.tmod 129600000 = a % 129600000 - 129600000) := by
    rcases Int.le_total 0 a with h | h
    · rw [Int.tmod_eq_emod_of_nonneg h]; omega
    · obtain ⟨n, rfl⟩ : ∃ n, a = -n := ⟨-a, by omega⟩
      rw [Int.neg_tmod, Int.tmod_eq_emod_of_nonneg (by omega)]; omega
  obtain ⟨b0, b1, b2⟩ := hb
  have B2 : Hid _ := b2
  clear b2
  go_enter Tryd.func20, Tryd.ntmps20
  go_wp2
  all_goals go_ret
  all_goals exact ⟨ret_int (by have := B2.out; unfold normI; omega), rfl⟩

theorem turn_any (a b : Int) (w : World) (_h0 : -9223372036854775808 ≤ a) (_h1 : a ≤ 9223372036854775807) (_h2 : -9223372036854775808 ≤ b) (_h3 : b ≤ 9223372036854775807) :
    Calls Tryd.prog 21 #[.int .i64 a, .int .i64 b] w fun e w' => e = .returned (.int .i64 (turnI a b)) ∧ w = w' := by
  have r1 := normI_range a
  have r2 := normI_range b
  obtain ⟨r1a, r1b⟩ := r1
  obtain ⟨r2a, r2b⟩ := r2
  go_enter Tryd.func21, Tryd.ntmps21
  go_wp2_with (go_at_call 20; refine (norm_any _ _ (by omega) (by omega)).mono ?_; rintro e w' ⟨rfl, rfl⟩)
  go_ret
  exact ⟨rfl, rfl⟩

theorem diff_any (a b : Int) (w : World) (_h0 : -9223372036854775808 ≤ a) (_h1 : a ≤ 9223372036854775807) (_h2 : -9223372036854775808 ≤ b) (_h3 : b ≤ 9223372036854775807) :
    Calls Tryd.prog 22 #[.int .i64 a, .int .i64 b] w fun e w' => e = .returned (.int .i64 (diffI a b)) ∧ w = w' := by
  obtain ⟨r1a, r1b⟩ := normI_range a
  obtain ⟨r2a, r2b⟩ := normI_range b
  obtain ⟨r3a, r3b⟩ := normI_range (normI b - normI a)
  go_enter Tryd.func22, Tryd.ntmps22
  go_wp2_with (go_at_call 20; refine (norm_any _ _ (by omega) (by omega)).mono ?_; rintro e w' ⟨rfl, rfl⟩)
  all_goals go_ret
  · exact ⟨ret_int (by unfold diffI; rw [if_pos (by assumption)]), rfl⟩
  · exact ⟨ret_int (by unfold diffI; rw [if_neg (by omega)]), rfl⟩

theorem abs_any (x : Int) (w : World) (_h0 : -9223372036854775807 ≤ x) (_h1 : x ≤ 9223372036854775807) :
    Calls Tryd.prog 55 #[.int .i64 x] w fun e w' => e = .returned (.int .i64 (absI x)) ∧ w = w' := by
  have h2 : (x == -9223372036854775808) = false := by simp; omega
  go_enter Tryd.func55, Tryd.ntmps55
  go_wp2
  all_goals go_ret
  · exact ⟨ret_int (by unfold absI; rw [if_pos (by assumption)]), rfl⟩
  · exact ⟨ret_int (by unfold absI; rw [if_neg (by omega)]), rfl⟩

theorem mulI_bd {x y : Int} (hx : 0 ≤ x) (hy : 0 ≤ y) (hx' : x ≤ 2147483648) (hy' : y ≤ 2147483648) : 0 ≤ x * y ∧ x * y ≤ 4611686018427387904 :=
  ⟨Int.mul_nonneg hx hy, by have := Int.mul_le_mul hx' hy' hy (by decide); omega⟩
theorem mul_any (x y : Int) (w : World) (hx : 0 ≤ x) (hy : 0 ≤ y) (hx' : x ≤ 2147483648) (hy' : y ≤ 2147483648) :
    Calls Tryd.prog 92 #[.int .i64 x, .int .i64 y] w fun e w' => e = .returned (.int .i64 (mulI x y)) ∧ w = w' := by
  obtain ⟨b0, b1⟩ := mulI_bd hx hy hx' hy'
  go_enter Tryd.func92, Tryd.ntmps92
  go_wp2
  go_ret
  exact ⟨rfl, rfl⟩
theorem div_any (x n : Int) (w : World) (_hx : 0 ≤ x) (_hn : 2 ≤ n) (_hx' : x ≤ 2147483648) (_hn' : n ≤ 1000) :
    Calls Tryd.prog 93 #[.int .i64 x, .int .i64 n] w fun e w' => e = .returned (.int .i64 ((x + n / 2) / n)) ∧ w = w' := by
  go_enter Tryd.func93, Tryd.ntmps93
  go_wp2
  go_ret
  exact ⟨rfl, rfl⟩

def SerS (u : Int) (r i : Value) : Prop := (i = .int .i64 0 ∧ r = .int .i64 (serS u 0)) ∨ (i = .int .i64 1 ∧ r = .int .i64 (serS u 1)) ∨ (i = .int .i64 2 ∧ r = .int .i64 (serS u 2)) ∨ (i = .int .i64 3 ∧ r = .int .i64 (serS u 3)) ∨ (i = .int .i64 4 ∧ r = .int .i64 (serS u 4)) ∨ (i = .int .i64 5 ∧ r = .int .i64 (serS u 5))
set_option maxHeartbeats 2000000 in
theorem sine_any (a : Int) (w : World) (h0 : 0 ≤ a) (h1 : a ≤ 16200000) :
    Calls Tryd.prog 82 #[.int .i64 a] w fun e w' => e = .returned (.int .i64 (sineI a)) ∧ w = w' := by
  obtain ⟨t0, t1⟩ := argT_range h0 h1
  obtain ⟨u0, u1⟩ := mulI_self t0 t1
  have B0 := Lib.hid (serS_bd _ u0 u1)
  have B1 := Lib.hid (fun r => mulTR_bd (r := r) t0 t1)
  unfold argT TM UM at *
  have i0 : ∀ w, (Instr.index 86 (.agg #[.int .i64 110, .int .i64 72, .int .i64 42, .int .i64 20, .int .i64 6]) (.int .i64 0)).run Tryd.prog w = .ok (.int .i64 110) w := fun _ => by kernel_rfl
  have i1 : ∀ w, (Instr.index 86 (.agg #[.int .i64 110, .int .i64 72, .int .i64 42, .int .i64 20, .int .i64 6]) (.int .i64 1)).run Tryd.prog w = .ok (.int .i64 72) w := fun _ => by kernel_rfl
  have i2 : ∀ w, (Instr.index 86 (.agg #[.int .i64 110, .int .i64 72, .int .i64 42, .int .i64 20, .int .i64 6]) (.int .i64 2)).run Tryd.prog w = .ok (.int .i64 42) w := fun _ => by kernel_rfl
  have i3 : ∀ w, (Instr.index 86 (.agg #[.int .i64 110, .int .i64 72, .int .i64 42, .int .i64 20, .int .i64 6]) (.int .i64 3)).run Tryd.prog w = .ok (.int .i64 20) w := fun _ => by kernel_rfl
  have i4 : ∀ w, (Instr.index 86 (.agg #[.int .i64 110, .int .i64 72, .int .i64 42, .int .i64 20, .int .i64 6]) (.int .i64 4)).run Tryd.prog w = .ok (.int .i64 6) w := fun _ => by kernel_rfl
  go_enter Tryd.func82, Tryd.ntmps82
  go_wp2_with (go_at_call 92; refine (mul_any _ _ _ (by omega) (by omega) (by omega) (by omega)).mono ?_; rintro e w' ⟨rfl, rfl⟩)
  go_loop [5, 17] (SerS (mulI ((a * 6746518852 + 32400000) / 64800000) ((a * 6746518852 + 32400000) / 64800000))) (fun _ i => 5 - (intOf i).toNat)
  case atStart => exact .inl ⟨rfl, rfl⟩
  case round =>
    rcases hrel with ⟨rfl, rfl⟩ | ⟨rfl, rfl⟩ | ⟨rfl, rfl⟩ | ⟨rfl, rfl⟩ | ⟨rfl, rfl⟩ | ⟨rfl, rfl⟩
    · go_wp2_with (go_at_call 93; refine (div_any _ _ _ (by omega) (by omega) (by omega) (by omega)).mono ?_; rintro e w' ⟨rfl, rfl⟩)
      go_round
      case rel => exact .inr (.inl ⟨rfl, rfl⟩)
      case measure => simp [intOf]
    · obtain ⟨b1, b2, b3, b4⟩ := B0.out 1 (by decide)
      unfold UM at *
      go_wp2_with (first
        | (go_at_call 92; refine (mul_any _ _ _ (by omega) (by omega) (by omega) (by omega)).mono ?_; rintro e w' ⟨rfl, rfl⟩)
        | (go_at_call 93; refine (div_any _ _ _ (by omega) (by omega) (by omega) (by omega)).mono ?_; rintro e w' ⟨rfl, rfl⟩))
      go_round
      case rel => exact .inr (.inr (.inl ⟨rfl, rfl⟩))
      case measure => simp [intOf]
    · obtain ⟨b1, b2, b3, b4⟩ := B0.out 2 (by decide)
      unfold UM at *
      go_wp2_with (first
        | (go_at_call 92; refine (mul_any _ _ _ (by omega) (by omega) (by omega) (by omega)).mono ?_; rintro e w' ⟨rfl, rfl⟩)
        | (go_at_call 93; refine (div_any _ _ _ (by omega) (by omega) (by omega) (by omega)).mono ?_; rintro e w' ⟨rfl, rfl⟩))
      go_round
      case rel => exact .inr (.inr (.inr (.inl ⟨rfl, rfl⟩)))
      case measure => simp [intOf]
    · obtain ⟨b1, b2, b3, b4⟩ := B0.out 3 (by decide)
      unfold UM at *
      go_wp2_with (first
        | (go_at_call 92; refine (mul_any _ _ _ (by omega) (by omega) (by omega) (by omega)).mono ?_; rintro e w' ⟨rfl, rfl⟩)
        | (go_at_call 93; refine (div_any _ _ _ (by omega) (by omega) (by omega) (by omega)).mono ?_; rintro e w' ⟨rfl, rfl⟩))
      go_round
      case rel => exact .inr (.inr (.inr (.inr (.inl ⟨rfl, rfl⟩))))
      case measure => simp [intOf]
    · obtain ⟨b1, b2, b3, b4⟩ := B0.out 4 (by decide)
      unfold UM at *
      go_wp2_with (first
        | (go_at_call 92; refine (mul_any _ _ _ (by omega) (by omega) (by omega) (by omega)).mono ?_; rintro e w' ⟨rfl, rfl⟩)
        | (go_at_call 93; refine (div_any _ _ _ (by omega) (by omega) (by omega) (by omega)).mono ?_; rintro e w' ⟨rfl, rfl⟩))
      go_round
      case rel => exact .inr (.inr (.inr (.inr (.inr (⟨rfl, rfl⟩)))))
      case measure => simp [intOf]
    · obtain ⟨b1, b2, b3, b4⟩ := B0.out 5 (by decide)
      obtain ⟨b5, b6⟩ := B1.out _ b1 b2
      unfold TM at *
      go_wp2_with (go_at_call 92; refine (mul_any _ _ _ (by omega) (by omega) (by omega) (by omega)).mono ?_; rintro e w' ⟨rfl, rfl⟩)
      go_ret
      exact ⟨rfl, rfl⟩
def SerC (u : Int) (r i : Value) : Prop := (i = .int .i64 0 ∧ r = .int .i64 (serC u 0)) ∨ (i = .int .i64 1 ∧ r = .int .i64 (serC u 1)) ∨ (i = .int .i64 2 ∧ r = .int .i64 (serC u 2)) ∨ (i = .int .i64 3 ∧ r = .int .i64 (serC u 3)) ∨ (i = .int .i64 4 ∧ r = .int .i64 (serC u 4)) ∨ (i = .int .i64 5 ∧ r = .int .i64 (serC u 5))
set_option maxHeartbeats 2000000 in
theorem cosine_any (a : Int) (w : World) (h0 : 0 ≤ a) (h1 : a ≤ 16200000) :
    Calls Tryd.prog 83 #[.int .i64 a] w fun e w' => e = .returned (.int .i64 (cosineI a)) ∧ w = w' := by
  obtain ⟨t0, t1⟩ := argT_range h0 h1
  obtain ⟨u0, u1⟩ := mulI_self t0 t1
  have B0 := Lib.hid (serC_bd _ u0 u1)
  have B1 := Lib.hid (fun r => mulTR_bd (r := r) t0 t1)
  unfold argT TM UM at *
  have i0 : ∀ w, (Instr.index 86 (.agg #[.int .i64 90, .int .i64 56, .int .i64 30, .int .i64 12, .int .i64 2]) (.int .i64 0)).run Tryd.prog w = .ok (.int .i64 90) w := fun _ => by kernel_rfl
  have i1 : ∀ w, (Instr.index 86 (.agg #[.int .i64 90, .int .i64 56, .int .i64 30, .int .i64 12, .int .i64 2]) (.int .i64 1)).run Tryd.prog w = .ok (.int .i64 56) w := fun _ => by kernel_rfl
  have i2 : ∀ w, (Instr.index 86 (.agg #[.int .i64 90, .int .i64 56, .int .i64 30, .int .i64 12, .int .i64 2]) (.int .i64 2)).run Tryd.prog w = .ok (.int .i64 30) w := fun _ => by kernel_rfl
  have i3 : ∀ w, (Instr.index 86 (.agg #[.int .i64 90, .int .i64 56, .int .i64 30, .int .i64 12, .int .i64 2]) (.int .i64 3)).run Tryd.prog w = .ok (.int .i64 12) w := fun _ => by kernel_rfl
  have i4 : ∀ w, (Instr.index 86 (.agg #[.int .i64 90, .int .i64 56, .int .i64 30, .int .i64 12, .int .i64 2]) (.int .i64 4)).run Tryd.prog w = .ok (.int .i64 2) w := fun _ => by kernel_rfl
  go_enter Tryd.func83, Tryd.ntmps83
  go_wp2_with (go_at_call 92; refine (mul_any _ _ _ (by omega) (by omega) (by omega) (by omega)).mono ?_; rintro e w' ⟨rfl, rfl⟩)
  go_loop [5, 17] (SerC (mulI ((a * 6746518852 + 32400000) / 64800000) ((a * 6746518852 + 32400000) / 64800000))) (fun _ i => 5 - (intOf i).toNat)
  case atStart => exact .inl ⟨rfl, rfl⟩
  case round =>
    rcases hrel with ⟨rfl, rfl⟩ | ⟨rfl, rfl⟩ | ⟨rfl, rfl⟩ | ⟨rfl, rfl⟩ | ⟨rfl, rfl⟩ | ⟨rfl, rfl⟩
    · go_wp2_with (go_at_call 93; refine (div_any _ _ _ (by omega) (by omega) (by omega) (by omega)).mono ?_; rintro e w' ⟨rfl, rfl⟩)
      go_round
      case rel => exact .inr (.inl ⟨rfl, rfl⟩)
      case measure => simp [intOf]
    · obtain ⟨b1, b2, b3, b4⟩ := B0.out 1 (by decide)
      unfold UM at *
      go_wp2_with (first
        | (go_at_call 92; refine (mul_any _ _ _ (by omega) (by omega) (by omega) (by omega)).mono ?_; rintro e w' ⟨rfl, rfl⟩)
        | (go_at_call 93; refine (div_any _ _ _ (by omega) (by omega) (by omega) (by omega)).mono ?_; rintro e w' ⟨rfl, rfl⟩))
      go_round
      case rel => exact .inr (.inr (.inl ⟨rfl, rfl⟩))
      case measure => simp [intOf]
    · obtain ⟨b1, b2, b3, b4⟩ := B0.out 2 (by decide)
      unfold UM at *
      go_wp2_with (first
        | (go_at_call 92; refine (mul_any _ _ _ (by omega) (by omega) (by omega) (by omega)).mono ?_; rintro e w' ⟨rfl, rfl⟩)
        | (go_at_call 93; refine (div_any _ _ _ (by omega) (by omega) (by omega) (by omega)).mono ?_; rintro e w' ⟨rfl, rfl⟩))
      go_round
      case rel => exact .inr (.inr (.inr (.inl ⟨rfl, rfl⟩)))
      case measure => simp [intOf]
    · obtain ⟨b1, b2, b3, b4⟩ := B0.out 3 (by decide)
      unfold UM at *
      go_wp2_with (first
        | (go_at_call 92; refine (mul_any _ _ _ (by omega) (by omega) (by omega) (by omega)).mono ?_; rintro e w' ⟨rfl, rfl⟩)
        | (go_at_call 93; refine (div_any _ _ _ (by omega) (by omega) (by omega) (by omega)).mono ?_; rintro e w' ⟨rfl, rfl⟩))
      go_round
      case rel => exact .inr (.inr (.inr (.inr (.inl ⟨rfl, rfl⟩))))
      case measure => simp [intOf]
    · obtain ⟨b1, b2, b3, b4⟩ := B0.out 4 (by decide)
      unfold UM at *
      go_wp2_with (first
        | (go_at_call 92; refine (mul_any _ _ _ (by omega) (by omega) (by omega) (by omega)).mono ?_; rintro e w' ⟨rfl, rfl⟩)
        | (go_at_call 93; refine (div_any _ _ _ (by omega) (by omega) (by omega) (by omega)).mono ?_; rintro e w' ⟨rfl, rfl⟩))
      go_round
      case rel => exact .inr (.inr (.inr (.inr (.inr (⟨rfl, rfl⟩)))))
      case measure => simp [intOf]
    · obtain ⟨b1, b2, b3, b4⟩ := B0.out 5 (by decide)
      go_wp2
      go_ret
      exact ⟨rfl, rfl⟩

set_option maxHeartbeats 400000 in
theorem quarter_any (a : Int) (w : World) (h0 : 0 ≤ a) (h1 : a ≤ 32400000) :
    Calls Tryd.prog 73 #[.int .i64 a] w fun e w' => e = .returned (.int .i64 (quarterI a)) ∧ w = w' := by
  go_enter Tryd.func73, Tryd.ntmps73
  go_wp2_with (first
    | (go_at_call 82; refine (sine_any _ _ (by omega) (by omega)).mono ?_; rintro e w' ⟨rfl, rfl⟩)
    | (go_at_call 83; refine (cosine_any _ _ (by omega) (by omega)).mono ?_; rintro e w' ⟨rfl, rfl⟩))
  all_goals go_ret
  · exact ⟨ret_int (by unfold quarterI; rw [if_pos (by assumption)]), rfl⟩
  · exact ⟨ret_int (by unfold quarterI; rw [if_neg (by omega)]), rfl⟩

set_option maxHeartbeats 1000000 in
theorem sin_any (a : Int) (w : World) (h0 : -9223372036854775808 ≤ a) (h1 : a ≤ 9223372036854775807) :
    Calls Tryd.prog 48 #[.int .i64 a] w fun e w' => e = .returned (.int .i64 (sinI a)) ∧ w = w' := by
  obtain ⟨n0, n1⟩ := normI_range a
  have Q := Lib.hid (fun b : Int => quarterI_range (a := b))
  unfold sinI
  generalize hb : normI a = b at *
  have HB := Lib.hid hb
  clear hb
  by_cases c1 : b ≤ 32400000
  · obtain ⟨q0, q1⟩ := Q.out b (by omega) (by omega)
    go_enter Tryd.func48, Tryd.ntmps48
    go_wp2_with (first
      | (go_at_call 20; refine (norm_any _ _ h0 h1).mono ?_; rintro e w' ⟨rfl, rfl⟩; rw [HB.out])
      | (go_at_call 73; refine (quarter_any _ _ (by omega) (by omega)).mono ?_; rintro e w' ⟨rfl, rfl⟩))
    go_ret
    exact ⟨ret_int (by unfold sinB; rw [if_pos c1]), rfl⟩
  by_cases c2 : b ≤ 64800000
  · obtain ⟨q0, q1⟩ := Q.out (64800000 - b) (by omega) (by omega)
    go_enter Tryd.func48, Tryd.ntmps48
    go_wp2_with (first
      | (go_at_call 20; refine (norm_any _ _ h0 h1).mono ?_; rintro e w' ⟨rfl, rfl⟩; rw [HB.out])
      | (go_at_call 73; refine (quarter_any _ _ (by omega) (by omega)).mono ?_; rintro e w' ⟨rfl, rfl⟩))
    go_ret
    exact ⟨ret_int (by unfold sinB; rw [if_neg (by omega), if_pos c2]), rfl⟩
  by_cases c3 : b ≤ 97200000
  · obtain ⟨q0, q1⟩ := Q.out (b - 64800000) (by omega) (by omega)
    go_enter Tryd.func48, Tryd.ntmps48
    go_wp2_with (first
      | (go_at_call 20; refine (norm_any _ _ h0 h1).mono ?_; rintro e w' ⟨rfl, rfl⟩; rw [HB.out])
      | (go_at_call 73; refine (quarter_any _ _ (by omega) (by omega)).mono ?_; rintro e w' ⟨rfl, rfl⟩))
    go_ret
    exact ⟨ret_int (by unfold sinB; rw [if_neg (by omega), if_neg (by omega), if_pos c3]), rfl⟩
  · obtain ⟨q0, q1⟩ := Q.out (129600000 - b) (by omega) (by omega)
    go_enter Tryd.func48, Tryd.ntmps48
    go_wp2_with (first
      | (go_at_call 20; refine (norm_any _ _ h0 h1).mono ?_; rintro e w' ⟨rfl, rfl⟩; rw [HB.out])
      | (go_at_call 73; refine (quarter_any _ _ (by omega) (by omega)).mono ?_; rintro e w' ⟨rfl, rfl⟩))
    go_ret
    exact ⟨ret_int (by unfold sinB; rw [if_neg (by omega), if_neg (by omega), if_neg (by omega)]), rfl⟩

theorem cos_any (a : Int) (w : World) (h0 : -9223372036854775808 ≤ a) (h1 : a ≤ 9223372036854775807) :
    Calls Tryd.prog 49 #[.int .i64 a] w fun e w' => e = .returned (.int .i64 (cosI a)) ∧ w = w' := by
  have r := normI_range (normI a + normI 32400000)
  have R := Lib.hid r
  have T : Hid (turnI a 32400000 = normI (normI a + normI 32400000)) := rfl
  clear r
  go_enter Tryd.func49, Tryd.ntmps49
  go_wp2_with (first
    | (go_at_call 21; refine (turn_any _ _ _ h0 h1 (by omega) (by omega)).mono ?_; rintro e w' ⟨rfl, rfl⟩)
    | (go_at_call 48; refine (sin_any _ _ (by have := R.out; have := T.out; omega) (by have := R.out; have := T.out; omega)).mono ?_; rintro e w' ⟨rfl, rfl⟩))
  go_ret
  exact ⟨rfl, rfl⟩
end Go.Proofs.YtdfpbojlimeccaaDoor
