/-
  Of the text SnFixWraps41: what is wanted here.
-/
import Derived.Test.YtajmjkliblippaaGreatDoorProg
import Derived.Test.YtajmjkliblippaaGreatDoorRefDivPlain
import Derived.Test.YtajmjkliblippaaGreatDoorN6SnFixScale
import Derived.WalkKit
import Derived.WalkSpells
import Derived.Lib.Hide
import Derived.Lib.Mul64
import Derived.Laws.Bits64b
import Derived.IntWalk
import Derived.Lib.Zigzag
namespace Go.Proofs.YtajmjkliblippaaGreatDoor.S41
set_option linter.unusedVariables false
open Go.RowKit
theorem round_any (a c : Int) (w : World) (a0 : -9223372036854775808 < a) (a1 : a ≤ 9223372036854775807) (c0 : 0 < c) (c1 : c ≤ 9223372036854775807) :
    Calls Tryz.prog 44 #[.int .i64 a, .int .i64 c] w fun e w' => e = .returned (.tuple #[.int .i64 (nearI2 a c), .int .i64 0]) ∧ ∃ k, w' = w.drewN k := by
  have S0 := fun w => scale_near a 1 c w (by omega) a1 (by omega) (by omega) c0 c1 (by omega) (by omega)
  rw [Int.mul_one] at S0
  have S := Lib.hid S0
  clear S0
  go_enter Tryz.func44, Tryz.ntmps44
  go_wp2_with (go_at_call 82; refine (S.out _).mono ?_; rintro e w' ⟨rfl, kd, rfl⟩)
  go_ret2
  exact ⟨rfl, _, rfl⟩
theorem ceil_any (a c : Int) (w : World) (a0 : -9223372036854775808 < a) (a1 : a ≤ 9223372036854775807) (c0 : 0 < c) (c1 : c ≤ 9223372036854775807) :
    Calls Tryz.prog 45 #[.int .i64 a, .int .i64 c] w fun e w' => e = .returned (.tuple #[.int .i64 (ceilI a c), .int .i64 0]) ∧ ∃ k, w' = w.drewN k := by
  have S0 := fun w => scale_up a 1 c w (by omega) a1 (by omega) (by omega) c0 c1 (by omega) (by omega)
  rw [Int.mul_one] at S0
  have S := Lib.hid S0
  clear S0
  go_enter Tryz.func45, Tryz.ntmps45
  go_wp2_with (go_at_call 82; refine (S.out _).mono ?_; rintro e w' ⟨rfl, kd, rfl⟩)
  go_ret2
  exact ⟨rfl, _, rfl⟩
theorem muldivup_any (a b c : Int) (w : World) (a0 : -9223372036854775808 ≤ a) (a1 : a ≤ 9223372036854775807) (b0 : 0 ≤ b) (b1 : b ≤ 9223372036854775807) (c0 : 0 < c) (c1 : c ≤ 9223372036854775807) (h0 : -9223372036854775808 < a * b) (h1 : a * b < 9223372036854775808) :
    Calls Tryz.prog 48 #[.int .i64 a, .int .i64 b, .int .i64 c] w fun e w' => e = .returned (.tuple #[.int .i64 (ceilI (a * b) c), .int .i64 0]) ∧ ∃ k, w' = w.drewN k := by
  have S := Lib.hid (fun w => scale_up a b c w a0 a1 b0 b1 c0 c1 h0 h1)
  clear h0 h1
  go_enter Tryz.func48, Tryz.ntmps48
  go_wp2_with (go_at_call 82; refine (S.out _).mono ?_; rintro e w' ⟨rfl, kd, rfl⟩)
  go_ret2
  exact ⟨rfl, _, rfl⟩
end Go.Proofs.YtajmjkliblippaaGreatDoor.S41
