/-
  The walks of the roundings of layer 1 that this seat calls, the program's and the reference's.
-/
import Derived.Test.YtnaokohffelklaaDoorRefQuot
namespace Go.Proofs.YtnaokohffelklaaDoor
set_option linter.unusedVariables false
open Go.RowKit

theorem floor_any (a c : Int) (w : World) (a0 : -9223372036854775808 < a) (a1 : a ≤ 9223372036854775807) (c0 : 0 < c) (c1 : c ≤ 9223372036854775807) :
    Calls Tryd.prog 64 #[.int .i64 a, .int .i64 c] w fun e w' => e = .returned (.tuple #[.int .i64 (floorI a c), .int .i64 0]) ∧ ∃ k, w' = w.drewN k := by
  have S0 := fun w => scale_down a 1 c w (by omega) a1 (by omega) (by omega) c0 c1 (by omega) (by omega)
  rw [Int.mul_one] at S0
  have S := Lib.hid S0
  clear S0
  go_enter Tryd.func64, Tryd.ntmps64
  go_wp2_with (go_at_call 56; refine (S.out _).mono ?_; rintro e w' ⟨rfl, kd, rfl⟩)
  go_ret2
  exact ⟨rfl, _, rfl⟩
theorem ceil_any (a c : Int) (w : World) (a0 : -9223372036854775808 < a) (a1 : a ≤ 9223372036854775807) (c0 : 0 < c) (c1 : c ≤ 9223372036854775807) :
    Calls Tryd.prog 35 #[.int .i64 a, .int .i64 c] w fun e w' => e = .returned (.tuple #[.int .i64 (ceilI a c), .int .i64 0]) ∧ ∃ k, w' = w.drewN k := by
  have S0 := fun w => scale_up a 1 c w (by omega) a1 (by omega) (by omega) c0 c1 (by omega) (by omega)
  rw [Int.mul_one] at S0
  have S := Lib.hid S0
  clear S0
  go_enter Tryd.func35, Tryd.ntmps35
  go_wp2_with (go_at_call 56; refine (S.out _).mono ?_; rintro e w' ⟨rfl, kd, rfl⟩)
  go_ret2
  exact ⟨rfl, _, rfl⟩
theorem rfloor_any (a c : Int) (w : World) (a0 : -9223372036854775808 < a) (a1 : a ≤ 9223372036854775807) (c0 : 0 < c) (c1 : c ≤ 9223372036854775807) :
    Calls Tryd.prog 66 #[.int .i64 a, .int .i64 c] w fun e w' => e = .returned (.tuple #[.int .i64 (floorI a c), .int .i64 0]) ∧ w = w' := by
  have S0 := fun w => quotient_down a 1 c w (by omega) a1 (by omega) (by omega) c0 c1 (by omega) (by omega)
  rw [Int.mul_one] at S0
  have S := Lib.hid S0
  clear S0
  go_enter Tryd.func66, Tryd.ntmps66
  go_wp2_with (go_at_call 80; refine (S.out _).mono ?_; rintro e w' ⟨rfl, rfl⟩)
  go_ret2
  exact ⟨rfl, rfl⟩
end Go.Proofs.YtnaokohffelklaaDoor
