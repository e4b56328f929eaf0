/-
  The walks of layer 30: true and calibrated airspeed, Mach number, the schedule.
-/
import Derived.Test.YtnaokohffelklaaDoorAirRatio
namespace Go.Proofs.YtnaokohffelklaaDoor
set_option linter.unusedVariables false
open Go.RowKit Sq

theorem tas_any (x alt dev : Int) (w : World) :
    Calls Tryd.prog 11 #[.int .i64 x, .int .i64 alt, .int .i64 dev] w fun e w' => e = .returned (.tuple #[.int .i64 (tasF x alt dev).1, .int .i64 (tasF x alt dev).2]) ∧ Below w.heap.size w w' := by
  cases hw : witB x 1000 with
  | false =>
    have E := Lib.hid (show tasF x alt dev = (0, 1) by unfold tasF; simp [hw])
    have HW := Lib.hid hw
    clear hw
    go_enter Tryd.func11, Tryd.ntmps11
    go_wp2_with (go_at_call 29; refine (within_any _ _ _).mono ?_; rw [HW.out]; rintro e w1 ⟨rfl, rfl⟩)
    go_ret2
    exact ⟨by rw [E.out]; rfl, Below.refl _ _⟩
  | true =>
    obtain ⟨x0, x1⟩ := wit_iff.1 hw
    have HW := Lib.hid hw
    by_cases h : chkI alt dev = 0
    · obtain ⟨ha, hd⟩ := chk_ok h
      obtain ⟨s0, s1⟩ := ratio_bd ha hd
      have ES := Lib.hid (show ratF alt dev = (ratioI alt dev, 0) by unfold ratF; simp [h])
      have E := Lib.hid (show tasF x alt dev = (x * ratioI alt dev / 1000000, 0) by unfold tasF tasI; simp [hw, h])
      obtain ⟨m0, m1⟩ := mul_bd x0 x1 s0 s1 (by decide) (by decide)
      clear hw h ha hd
      generalize ratioI alt dev = s at *
      go_enter Tryd.func11, Tryd.ntmps11
      go_wp2_with (first
        | (go_at_call 29; refine (within_any _ _ _).mono ?_; rw [HW.out]; rintro e w1 ⟨rfl, rfl⟩)
        | (go_at_call 30; refine (ratio_any _ _ _).mono ?_; rw [ES.out]; rintro e w2 ⟨rfl, hb⟩))
      go_ret2
      exact ⟨by rw [E.out]; rfl, hb⟩
    · have g3 : (chkI alt dev != 0) = true := by simpa using h
      have E := Lib.hid (show tasF x alt dev = (0, chkI alt dev) by unfold tasF; simp [h, hw])
      have ES := Lib.hid (show ratF alt dev = (0, chkI alt dev) by unfold ratF; simp [h])
      clear h hw
      generalize chkI alt dev = c at *
      go_enter Tryd.func11, Tryd.ntmps11
      go_wp2_with (first
      | (go_at_call 29; refine (within_any _ _ _).mono ?_; rw [HW.out]; rintro e w1 ⟨rfl, rfl⟩)
      | (go_at_call 30; refine (ratio_any _ _ _).mono ?_; rw [ES.out]; rintro e w2 ⟨rfl, hb⟩))
      go_ret2
      exact ⟨by rw [E.out]; rfl, hb⟩
theorem cas_any (x alt dev : Int) (w : World) :
    Calls Tryd.prog 17 #[.int .i64 x, .int .i64 alt, .int .i64 dev] w fun e w' => e = .returned (.tuple #[.int .i64 (casF x alt dev).1, .int .i64 (casF x alt dev).2]) ∧ Below w.heap.size w w' := by
  cases hw : witB x 4000 with
  | false =>
    have E := Lib.hid (show casF x alt dev = (0, 1) by unfold casF; simp [hw])
    have HW := Lib.hid hw
    clear hw
    go_enter Tryd.func17, Tryd.ntmps17
    go_wp2_with (go_at_call 29; refine (within_any _ _ _).mono ?_; rw [HW.out]; rintro e w1 ⟨rfl, rfl⟩)
    go_ret2
    exact ⟨by rw [E.out]; rfl, Below.refl _ _⟩
  | true =>
    obtain ⟨x0, x1⟩ := wit_iff.1 hw
    have HW := Lib.hid hw
    by_cases h : chkI alt dev = 0
    · obtain ⟨ha, hd⟩ := chk_ok h
      obtain ⟨s0, s1⟩ := ratio_bd ha hd
      have ES := Lib.hid (show ratF alt dev = (ratioI alt dev, 0) by unfold ratF; simp [h])
      have E0 : casF x alt dev = if 1000 < ceilI (x * 1000000) (ratioI alt dev) then (0, 2) else (ceilI (x * 1000000) (ratioI alt dev), 0) := by unfold casF casI; simp [hw, h]
      clear hw h ha hd
      generalize ratioI alt dev = s at *
      have CE := Lib.hid fun w => ceil_any (x * 1000000) s w (by omega) (by omega) (by omega) (by omega)
      generalize ceilI (x * 1000000) s = q at *
      by_cases hq : 1000 < q
      · have g : decide (1000 < q) = true := by simpa using hq
        have E := Lib.hid (E0.trans (if_pos hq))
        clear E0
        go_enter Tryd.func17, Tryd.ntmps17
        go_wp2_with (first
          | (go_at_call 29; refine (within_any _ _ _).mono ?_; rw [HW.out]; rintro e w1 ⟨rfl, rfl⟩)
          | (go_at_call 30; refine (ratio_any _ _ _).mono ?_; rw [ES.out]; rintro e w2 ⟨rfl, hb⟩)
          | (go_at_call 35; refine (CE.out _).mono ?_; rintro e w3 ⟨rfl, kd, rfl⟩))
        go_ret2
        exact ⟨by rw [E.out]; rfl, below_drewN hb _⟩
      · have g : decide (1000 < q) = false := by simpa using hq
        have E := Lib.hid (E0.trans (if_neg hq))
        clear E0
        go_enter Tryd.func17, Tryd.ntmps17
        go_wp2_with (first
          | (go_at_call 29; refine (within_any _ _ _).mono ?_; rw [HW.out]; rintro e w1 ⟨rfl, rfl⟩)
          | (go_at_call 30; refine (ratio_any _ _ _).mono ?_; rw [ES.out]; rintro e w2 ⟨rfl, hb⟩)
          | (go_at_call 35; refine (CE.out _).mono ?_; rintro e w3 ⟨rfl, kd, rfl⟩))
        go_ret2
        exact ⟨by rw [E.out]; rfl, below_drewN hb _⟩
    · have g3 : (chkI alt dev != 0) = true := by simpa using h
      have E := Lib.hid (show casF x alt dev = (0, chkI alt dev) by unfold casF; simp [h, hw])
      have ES := Lib.hid (show ratF alt dev = (0, chkI alt dev) by unfold ratF; simp [h])
      clear h hw
      generalize chkI alt dev = c at *
      go_enter Tryd.func17, Tryd.ntmps17
      go_wp2_with (first
      | (go_at_call 29; refine (within_any _ _ _).mono ?_; rw [HW.out]; rintro e w1 ⟨rfl, rfl⟩)
      | (go_at_call 30; refine (ratio_any _ _ _).mono ?_; rw [ES.out]; rintro e w2 ⟨rfl, hb⟩))
      go_ret2
      exact ⟨by rw [E.out]; rfl, hb⟩
theorem mach_any (x alt dev : Int) (w : World) :
    Calls Tryd.prog 13 #[.int .i64 x, .int .i64 alt, .int .i64 dev] w fun e w' => e = .returned (.tuple #[.int .i64 (machF x alt dev).1, .int .i64 (machF x alt dev).2]) ∧ Below w.heap.size w w' := by
  cases hw : witB x 4000 with
  | false =>
    have E := Lib.hid (show machF x alt dev = (0, 1) by unfold machF; simp [hw])
    have HW := Lib.hid hw
    clear hw
    go_enter Tryd.func13, Tryd.ntmps13
    go_wp2_with (go_at_call 29; refine (within_any _ _ _).mono ?_; rw [HW.out]; rintro e w1 ⟨rfl, rfl⟩)
    go_ret2
    exact ⟨by rw [E.out]; rfl, Below.refl _ _⟩
  | true =>
    obtain ⟨x0, x1⟩ := wit_iff.1 hw
    have HW := Lib.hid hw
    by_cases h : chkI alt dev = 0
    · obtain ⟨ha, hd⟩ := chk_ok h
      obtain ⟨s0, s1⟩ := sound_bd ha hd
      have ES := Lib.hid (show sndF alt dev = (soundI alt dev, 0) by unfold sndF; simp [h])
      have E := Lib.hid (show machF x alt dev = (16000 * x / soundI alt dev, 0) by unfold machF machI; simp [hw, h])
      obtain ⟨q0, q1⟩ := mach_bd x0 x1 ha hd
      unfold machI at q0 q1
      clear hw h ha hd
      generalize soundI alt dev = s at *
      go_enter Tryd.func13, Tryd.ntmps13
      go_wp2_with (first
        | (go_at_call 29; refine (within_any _ _ _).mono ?_; rw [HW.out]; rintro e w1 ⟨rfl, rfl⟩)
        | (go_at_call 33; refine (sound_any _ _ _).mono ?_; rw [ES.out]; rintro e w2 ⟨rfl, hb⟩))
      go_ret2
      exact ⟨by rw [E.out]; rfl, hb⟩
    · have g3 : (chkI alt dev != 0) = true := by simpa using h
      have E := Lib.hid (show machF x alt dev = (0, chkI alt dev) by unfold machF; simp [h, hw])
      have ES := Lib.hid (show sndF alt dev = (0, chkI alt dev) by unfold sndF; simp [h])
      clear h hw
      generalize chkI alt dev = c at *
      go_enter Tryd.func13, Tryd.ntmps13
      go_wp2_with (first
      | (go_at_call 29; refine (within_any _ _ _).mono ?_; rw [HW.out]; rintro e w1 ⟨rfl, rfl⟩)
      | (go_at_call 33; refine (sound_any _ _ _).mono ?_; rw [ES.out]; rintro e w2 ⟨rfl, hb⟩))
      go_ret2
      exact ⟨by rw [E.out]; rfl, hb⟩
theorem of_any (x alt dev : Int) (w : World) :
    Calls Tryd.prog 19 #[.int .i64 x, .int .i64 alt, .int .i64 dev] w fun e w' => e = .returned (.tuple #[.int .i64 (ofF x alt dev).1, .int .i64 (ofF x alt dev).2]) ∧ Below w.heap.size w w' := by
  cases hw : witB x 2000 with
  | false =>
    have E := Lib.hid (show ofF x alt dev = (0, 1) by unfold ofF; simp [hw])
    have HW := Lib.hid hw
    clear hw
    go_enter Tryd.func19, Tryd.ntmps19
    go_wp2_with (go_at_call 29; refine (within_any _ _ _).mono ?_; rw [HW.out]; rintro e w1 ⟨rfl, rfl⟩)
    go_ret2
    exact ⟨by rw [E.out]; rfl, Below.refl _ _⟩
  | true =>
    obtain ⟨x0, x1⟩ := wit_iff.1 hw
    have HW := Lib.hid hw
    by_cases h : chkI alt dev = 0
    · obtain ⟨ha, hd⟩ := chk_ok h
      obtain ⟨s0, s1⟩ := sound_bd ha hd
      have ES := Lib.hid (show sndF alt dev = (soundI alt dev, 0) by unfold sndF; simp [h])
      have E := Lib.hid (show ofF x alt dev = (ceilI (x * soundI alt dev) 16000, 0) by unfold ofF ofI; simp [hw, h])
      obtain ⟨m0, m1⟩ := mul_bd x0 x1 s0 s1 (by decide) (by decide)
      clear hw h ha hd
      generalize soundI alt dev = s at *
      have CE := Lib.hid fun w => ceil_any (x * s) 16000 w (by omega) (by omega) (by omega) (by omega)
      go_enter Tryd.func19, Tryd.ntmps19
      go_wp2_with (first
        | (go_at_call 29; refine (within_any _ _ _).mono ?_; rw [HW.out]; rintro e w1 ⟨rfl, rfl⟩)
        | (go_at_call 33; refine (sound_any _ _ _).mono ?_; rw [ES.out]; rintro e w2 ⟨rfl, hb⟩)
        | (go_at_call 35; refine (CE.out _).mono ?_; rintro e w3 ⟨rfl, kd, rfl⟩))
      go_ret2
      exact ⟨by rw [E.out]; rfl, below_drewN hb _⟩
    · have g3 : (chkI alt dev != 0) = true := by simpa using h
      have E := Lib.hid (show ofF x alt dev = (0, chkI alt dev) by unfold ofF; simp [h, hw])
      have ES := Lib.hid (show sndF alt dev = (0, chkI alt dev) by unfold sndF; simp [h])
      clear h hw
      generalize chkI alt dev = c at *
      go_enter Tryd.func19, Tryd.ntmps19
      go_wp2_with (first
      | (go_at_call 29; refine (within_any _ _ _).mono ?_; rw [HW.out]; rintro e w1 ⟨rfl, rfl⟩)
      | (go_at_call 33; refine (sound_any _ _ _).mono ?_; rw [ES.out]; rintro e w2 ⟨rfl, hb⟩))
      go_ret2
      exact ⟨by rw [E.out]; rfl, hb⟩
set_option maxHeartbeats 1000000 in
theorem sched_any (c m alt dev : Int) (w : World) :
    Calls Tryd.prog 15 #[.int .i64 c, .int .i64 m, .int .i64 alt, .int .i64 dev] w fun e w' => e = .returned (.tuple #[.int .i64 (schF c m alt dev).1, .int .i64 (schF c m alt dev).2]) ∧ Below w.heap.size w w' := by
  have HC := fun w => within_any c 1000 w
  have HM := fun w => within_any m 2000 w
  cases hc : witB c 1000 with
  | false =>
    rw [hc] at HC
    have HC := Lib.hid HC
    have E := Lib.hid (show schF c m alt dev = (0, 1) by unfold schF; simp [hc])
    clear hc HM
    go_enter Tryd.func15, Tryd.ntmps15
    go_wp2_with (go_at_call 29; refine (HC.out _).mono ?_; rintro e w1 ⟨rfl, rfl⟩)
    go_ret2
    exact ⟨by rw [E.out]; rfl, Below.refl _ _⟩
  | true =>
    rw [hc] at HC
    have HC1 := Lib.hid HC
    clear HC
    cases hm : witB m 2000 with
    | false =>
      have E := Lib.hid (show schF c m alt dev = (0, 1) by unfold schF; simp [hc, hm])
      rw [hm] at HM
      have HM1 := Lib.hid HM
      clear hc hm HM
      go_enter Tryd.func15, Tryd.ntmps15
      go_wp2_with (go_at_call 29; first | ((with_reducible refine (HC1.out _).mono ?_); rintro e w1 ⟨rfl, rfl⟩) | ((with_reducible refine (HM1.out _).mono ?_); rintro e w1 ⟨rfl, rfl⟩))
      go_ret2
      exact ⟨by rw [E.out]; rfl, Below.refl _ _⟩
    | true =>
      obtain ⟨c0, c1⟩ := wit_iff.1 hc
      obtain ⟨m0, m1⟩ := wit_iff.1 hm
      rw [hm] at HM
      have HM1 := Lib.hid HM
      clear HM
      by_cases h : chkI alt dev = 0
      · have ET := Lib.hid (show tasF c alt dev = (tasI c alt dev, 0) by unfold tasF; simp [h, hc])
        have EO := Lib.hid (show ofF m alt dev = (ofI m alt dev, 0) by unfold ofF; simp [h, hm])
        have E := Lib.hid (show schF c m alt dev = (min (tasI c alt dev) (ofI m alt dev), 0) by unfold schF; simp [hc, hm, h])
        clear hc hm h
        generalize tasI c alt dev = p at *
        generalize ofI m alt dev = q at *
        go_enter Tryd.func15, Tryd.ntmps15
        go_wp2_with (first
          | (go_at_call 29; first | ((with_reducible refine (HC1.out _).mono ?_); rintro e w1 ⟨rfl, rfl⟩) | ((with_reducible refine (HM1.out _).mono ?_); rintro e w1 ⟨rfl, rfl⟩))
          | (go_at_call 11; refine (tas_any _ _ _ _).mono ?_; rw [ET.out]; rintro e w2 ⟨rfl, hb⟩)
          | (go_at_call 19; refine (of_any _ _ _ _).mono ?_; rw [EO.out]; rintro e w3 ⟨rfl, hb2⟩))
        go_ret2
        exact ⟨by rw [E.out]; first | rfl | (simp only [Int.min_def]; rfl), hb.trans (hb2.mono hb.size)⟩
      · have g3 : (chkI alt dev != 0) = true := by simpa using h
        have ET := Lib.hid (show tasF c alt dev = (0, chkI alt dev) by unfold tasF; simp [h, hc])
        have E := Lib.hid (show schF c m alt dev = (0, chkI alt dev) by unfold schF; simp [hc, hm, h])
        clear hc hm h
        generalize chkI alt dev = k at *
        go_enter Tryd.func15, Tryd.ntmps15
        go_wp2_with (first
          | (go_at_call 29; first | ((with_reducible refine (HC1.out _).mono ?_); rintro e w1 ⟨rfl, rfl⟩) | ((with_reducible refine (HM1.out _).mono ?_); rintro e w1 ⟨rfl, rfl⟩))
          | (go_at_call 11; refine (tas_any _ _ _ _).mono ?_; rw [ET.out]; rintro e w2 ⟨rfl, hb⟩))
        go_ret2
        exact ⟨by rw [E.out]; rfl, hb⟩
end Go.Proofs.YtnaokohffelklaaDoor
