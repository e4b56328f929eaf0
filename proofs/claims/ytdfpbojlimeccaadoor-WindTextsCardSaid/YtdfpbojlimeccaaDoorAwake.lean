/-
  The walk of awake: the chapter's examples hold.
-/
import Derived.Test.YtdfpbojlimeccaaDoorWindParse
import Derived.Test.YtdfpbojlimeccaaDoorWindIn
namespace Go.Proofs.YtdfpbojlimeccaaDoor
set_option linter.unusedVariables false
open Go.RowKit Tr Sq

theorem ex1 : partsF 0 60 0 = (0, 61440, 0) := by decide +kernel
theorem ex2 : groundF 0 100 60 0 = (81920, -13273163, 0) := by decide +kernel
theorem ex3 : groundF 0 100 0 50 = (153600, 0, 0) := by decide +kernel
theorem ex4 : groundF 0 60 60 0 = (0, 0, 10) := by decide +kernel
theorem ex5 : trackF 0 100 0 0 = (0, 102400, 0) := by decide +kernel
theorem ex6 : groundInF 0 100 100 0 60 (-10) 10 = (70, 110, 0) := by decide +kernel
theorem ex7 : textF 12 (-3) = ([49, 50, 44, 45, 51], 0) := by decide +kernel
theorem ex8 : parseF [45, 48, 44, 49] = (0, 0, 4) := by decide +kernel

theorem parts_ex (w : World) : Calls Tryd.prog 19 #[.int .i64 0, .agg #[.int .i64 60, .int .i64 0]] w (Ret3 (0, 61440, 0) w) := by
  have := parts_any 0 60 0 w (by decide) (by decide); rwa [ex1] at this
theorem ground_ex1 (w : World) : Calls Tryd.prog 13 #[.int .i64 0, .int .i64 100, .agg #[.int .i64 60, .int .i64 0]] w (Ret3 (81920, -13273163, 0) w) := by
  have := ground_any 0 100 60 0 w (by decide) (by decide); rwa [ex2] at this
theorem ground_ex2 (w : World) : Calls Tryd.prog 13 #[.int .i64 0, .int .i64 100, .agg #[.int .i64 0, .int .i64 50]] w (Ret3 (153600, 0, 0) w) := by
  have := ground_any 0 100 0 50 w (by decide) (by decide); rwa [ex3] at this
theorem ground_ex3 (w : World) : Calls Tryd.prog 13 #[.int .i64 0, .int .i64 60, .agg #[.int .i64 60, .int .i64 0]] w (Ret3 (0, 0, 10) w) := by
  have := ground_any 0 60 60 0 w (by decide) (by decide); rwa [ex4] at this
theorem track_ex (w : World) : Calls Tryd.prog 15 #[.int .i64 0, .int .i64 100, .agg #[.int .i64 0, .int .i64 0]] w (Ret3 (0, 102400, 0) w) := by
  have := track_any 0 100 0 0 w (by decide) (by decide); rwa [ex5] at this
theorem groundin_ex (w : World) : Calls Tryd.prog 17 #[.int .i64 0, .agg #[.int .i64 100, .int .i64 100], .agg #[.int .i64 0, .int .i64 60, .int .i64 (-10), .int .i64 10]] w (RetI (70, 110, 0) w) := by
  have := groundin_any 0 100 100 0 60 (-10) 10 w (by decide) (by decide); rwa [ex6] at this
theorem text_ex (w : World) (hE : Env w) : Calls Tryd.prog 23 #[.agg #[.int .i64 12, .int .i64 (-3)]] w (RetS ([49, 50, 44, 45, 51], 0) w) := by
  have := text_any 12 (-3) w hE; rwa [ex7] at this
theorem parse_ex (w : World) (hE : Env w) : Calls Tryd.prog 25 #[.string ⟨#[45, 48, 44, 49]⟩] w (RetW (0, 0, 4) w) := by
  have := parse_any ⟨#[45, 48, 44, 49]⟩ w hE (by decide); rwa [show parseF (⟨#[45, 48, 44, 49]⟩ : ByteArray).data.toList = (0, 0, 4) from ex8] at this

set_option maxHeartbeats 4000000 in
set_option maxRecDepth 100000 in
theorem awake_any (w : World) (hE : Env w) : Calls Tryd.prog 12 #[] w fun e w' => e = .returned (.bool true) ∧ Below w.heap.size w w' := by
  have HE := Lib.hid hE
  clear hE
  go_enter Tryd.func12, Tryd.ntmps12
  go_wp2_with fail
  refine (parts_ex _).mono ?_
  rintro e w1 ⟨rfl, hb1⟩
  go_wp2_with fail
  refine (ground_ex1 _).mono ?_
  rintro e w2 ⟨rfl, hb2⟩
  have hw2 := hb1.trans (hb2.mono hb1.size)
  clear hb1 hb2
  go_wp2_with fail
  refine (ground_ex2 _).mono ?_
  rintro e w3 ⟨rfl, hb3⟩
  have hw3 := hw2.trans (hb3.mono hw2.size)
  clear hb3 hw2
  go_wp2_with fail
  refine (ground_ex3 _).mono ?_
  rintro e w4 ⟨rfl, hb4⟩
  have hw4 := hw3.trans (hb4.mono hw3.size)
  clear hb4 hw3
  go_wp2_with fail
  refine (track_ex _).mono ?_
  rintro e w5 ⟨rfl, hb5⟩
  have hw5 := hw4.trans (hb5.mono hw4.size)
  clear hb5 hw4
  go_wp2_with fail
  refine (groundin_ex _).mono ?_
  rintro e w6 ⟨rfl, hb6⟩
  have hw6 := hw5.trans (hb6.mono hw5.size)
  clear hb6 hw5
  go_wp2_with fail
  have E6 := Lib.hid ((HE.out.below hw6).below ((Below.refl _ w6).alloc (Nat.le_refl _) (.cells #[.int .i64 70, .int .i64 110] 30)))
  refine (text_ex _ E6.out).mono ?_
  rintro e w7 ⟨rfl, hb7⟩
  have E7 := Lib.hid (E6.out.below hb7)
  have hw7 := hw6.trans ((below_box hb7).mono hw6.size)
  clear hb7 hw6
  go_wp2_with fail
  refine (parse_ex _ E7.out).mono ?_
  rintro e w8 ⟨rfl, hb8⟩
  have hw8 := hw7.trans (hb8.mono hw7.size)
  clear hb8 hw7
  go_wp2_with fail
  go_ret
  exact ⟨rfl, hw8⟩
end Go.Proofs.YtdfpbojlimeccaaDoor
