/-
  The walks of the roundings of layer 1 that this seat calls, the program's and the reference's.
-/
import Derived.Test.YtnnafjmfbnnnjaaDoorRefQuot
namespace Go.Proofs.YtnnafjmfbnnnjaaDoor
set_option linter.unusedVariables false
open Go.RowKit

theorem round_any (a c : Int) (w : World) (a0 : -9223372036854775808 < a) (a1 : a ≤ 9223372036854775807) (c0 : 0 < c) (c1 : c ≤ 9223372036854775807) :
    Calls Tryd.prog 43 #[.int .i64 a, .int .i64 c] w fun e w' => e = .returned (.tuple #[.int .i64 (nearI2 a c), .int .i64 0]) ∧ ∃ k, w' = w.drewN k := by
  have S0 := fun w => scale_near a 1 c w (by omega) a1 (by omega) (by omega) c0 c1 (by omega) (by omega)
  rw [Int.mul_one] at S0
  have S := Lib.hid S0
  clear S0
  go_enter Tryd.func43, Tryd.ntmps43
  go_wp2_with (go_at_call 73; refine (S.out _).mono ?_; rintro e w' ⟨rfl, kd, rfl⟩)
  go_ret2
  exact ⟨rfl, _, rfl⟩
theorem ceil_any (a c : Int) (w : World) (a0 : -9223372036854775808 < a) (a1 : a ≤ 9223372036854775807) (c0 : 0 < c) (c1 : c ≤ 9223372036854775807) :
    Calls Tryd.prog 44 #[.int .i64 a, .int .i64 c] w fun e w' => e = .returned (.tuple #[.int .i64 (ceilI a c), .int .i64 0]) ∧ ∃ k, w' = w.drewN k := by
  have S0 := fun w => scale_up a 1 c w (by omega) a1 (by omega) (by omega) c0 c1 (by omega) (by omega)
  rw [Int.mul_one] at S0
  have S := Lib.hid S0
  clear S0
  go_enter Tryd.func44, Tryd.ntmps44
  go_wp2_with (go_at_call 73; refine (S.out _).mono ?_; rintro e w' ⟨rfl, kd, rfl⟩)
  go_ret2
  exact ⟨rfl, _, rfl⟩
theorem muldivup_any (a b c : Int) (w : World) (a0 : -9223372036854775808 ≤ a) (a1 : a ≤ 9223372036854775807) (b0 : 0 ≤ b) (b1 : b ≤ 9223372036854775807) (c0 : 0 < c) (c1 : c ≤ 9223372036854775807) (h0 : -9223372036854775808 < a * b) (h1 : a * b < 9223372036854775808) :
    Calls Tryd.prog 47 #[.int .i64 a, .int .i64 b, .int .i64 c] w fun e w' => e = .returned (.tuple #[.int .i64 (ceilI (a * b) c), .int .i64 0]) ∧ ∃ k, w' = w.drewN k := by
  have S := Lib.hid (fun w => scale_up a b c w a0 a1 b0 b1 c0 c1 h0 h1)
  clear h0 h1
  go_enter Tryd.func47, Tryd.ntmps47
  go_wp2_with (go_at_call 73; refine (S.out _).mono ?_; rintro e w' ⟨rfl, kd, rfl⟩)
  go_ret2
  exact ⟨rfl, _, rfl⟩
theorem rround_any (a c : Int) (w : World) (a0 : -9223372036854775808 < a) (a1 : a ≤ 9223372036854775807) (c0 : 0 < c) (c1 : c ≤ 9223372036854775807) :
    Calls Tryd.prog 56 #[.int .i64 a, .int .i64 c] w fun e w' => e = .returned (.tuple #[.int .i64 (nearI2 a c), .int .i64 0]) ∧ w = w' := by
  have S0 := fun w => quotient_near a 1 c w (by omega) a1 (by omega) (by omega) c0 c1 (by omega) (by omega)
  rw [Int.mul_one] at S0
  have S := Lib.hid S0
  clear S0
  go_enter Tryd.func56, Tryd.ntmps56
  go_wp2_with (go_at_call 78; refine (S.out _).mono ?_; rintro e w' ⟨rfl, rfl⟩)
  go_ret2
  exact ⟨rfl, rfl⟩
theorem rceil_any (a c : Int) (w : World) (a0 : -9223372036854775808 < a) (a1 : a ≤ 9223372036854775807) (c0 : 0 < c) (c1 : c ≤ 9223372036854775807) :
    Calls Tryd.prog 57 #[.int .i64 a, .int .i64 c] w fun e w' => e = .returned (.tuple #[.int .i64 (ceilI a c), .int .i64 0]) ∧ w = w' := by
  have S0 := fun w => quotient_up a 1 c w (by omega) a1 (by omega) (by omega) c0 c1 (by omega) (by omega)
  rw [Int.mul_one] at S0
  have S := Lib.hid S0
  clear S0
  go_enter Tryd.func57, Tryd.ntmps57
  go_wp2_with (go_at_call 78; refine (S.out _).mono ?_; rintro e w' ⟨rfl, rfl⟩)
  go_ret2
  exact ⟨rfl, rfl⟩
theorem rmuldivup_any (a b c : Int) (w : World) (a0 : -9223372036854775808 ≤ a) (a1 : a ≤ 9223372036854775807) (b0 : 0 ≤ b) (b1 : b ≤ 9223372036854775807) (c0 : 0 < c) (c1 : c ≤ 9223372036854775807) (h0 : -9223372036854775808 < a * b) (h1 : a * b < 9223372036854775808) :
    Calls Tryd.prog 60 #[.int .i64 a, .int .i64 b, .int .i64 c] w fun e w' => e = .returned (.tuple #[.int .i64 (ceilI (a * b) c), .int .i64 0]) ∧ w = w' := by
  have S := Lib.hid (fun w => quotient_up a b c w a0 a1 b0 b1 c0 c1 h0 h1)
  clear h0 h1
  go_enter Tryd.func60, Tryd.ntmps60
  go_wp2_with (go_at_call 78; refine (S.out _).mono ?_; rintro e w' ⟨rfl, rfl⟩)
  go_ret2
  exact ⟨rfl, rfl⟩
end Go.Proofs.YtnnafjmfbnnnjaaDoor
