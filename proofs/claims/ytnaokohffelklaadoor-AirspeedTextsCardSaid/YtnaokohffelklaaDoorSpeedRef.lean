/-
  The walks of the reference of layer 30: true and calibrated airspeed, Mach number, the schedule.
-/
import Derived.Test.YtnaokohffelklaaDoorAirRef2
namespace Go.Proofs.YtnaokohffelklaaDoor
set_option linter.unusedVariables false
open Go.RowKit Sq

theorem up_any (a c : Int) (w : World) (a0 : 0 ≤ a) (a1 : a ≤ 4611686018427387904) (c0 : 0 < c) (c1 : c ≤ 1000000000) :
    Calls Tryd.prog 36 #[.int .i64 a, .int .i64 c] w fun e w' => e = .returned (.int .i64 ((a + c - 1) / c)) ∧ w = w' := by
  have q0 : 0 ≤ (a + c - 1) / c := Int.ediv_nonneg (by omega) (by omega)
  have q1 : (a + c - 1) / c ≤ a + c - 1 := Int.ediv_le_self c (by omega)
  go_enter Tryd.func36, Tryd.ntmps36
  go_wp2
  go_ret
  exact ⟨rfl, rfl⟩
theorem calib_any (n : Int) (w : World) :
    Calls Tryd.prog 31 #[.int .i64 n] w fun e w' => e = .returned (.bool (witB n 1000)) ∧ w = w' := by
  by_cases h : 0 ≤ n
  · have E := Lib.hid (show witB n 1000 = decide (n ≤ 1000) by unfold witB; simp [h])
    have g : decide (0 ≤ n) = true := by simpa using h
    clear h
    go_enter Tryd.func31, Tryd.ntmps31
    go_wp2
    go_ret
    exact ⟨ret_b E.out.symm, rfl⟩
  · have E := Lib.hid (show witB n 1000 = false by unfold witB; simp [h])
    have g : decide (0 ≤ n) = false := by simpa using h
    clear h
    go_enter Tryd.func31, Tryd.ntmps31
    go_wp2
    go_ret
    exact ⟨ret_b E.out.symm, rfl⟩
theorem rtas_any (x alt dev : Int) (w : World) :
    Calls Tryd.prog 12 #[.int .i64 x, .int .i64 alt, .int .i64 dev] w fun e w' => e = .returned (.tuple #[.int .i64 (tasF x alt dev).1, .int .i64 (tasF x alt dev).2]) ∧ Below w.heap.size w w' := by
  cases hw : witB x 1000 with
  | false =>
    have E := Lib.hid (show tasF x alt dev = (0, 1) by unfold tasF; simp [hw])
    have HW := Lib.hid hw
    clear hw
    go_enter Tryd.func12, Tryd.ntmps12
    go_wp2_with (go_at_call 31; refine (calib_any _ _).mono ?_; rw [HW.out]; rintro e w1 ⟨rfl, rfl⟩)
    go_ret2
    exact ⟨by rw [E.out]; rfl, Below.refl _ _⟩
  | true =>
    obtain ⟨x0, x1⟩ := wit_iff.1 hw
    have HW := Lib.hid hw
    by_cases h : chkI alt dev = 0
    · obtain ⟨ha, hd⟩ := chk_ok h
      obtain ⟨s0, s1⟩ := ratio_bd ha hd
      have ES := Lib.hid (show ratF alt dev = (ratioI alt dev, 0) by unfold ratF; simp [h])
      have E := Lib.hid (show tasF x alt dev = (x * ratioI alt dev / 1000000, 0) by unfold tasF tasI; simp [hw, h])
      obtain ⟨m0, m1⟩ := mul_bd x0 x1 s0 s1 (by decide) (by decide)
      clear hw h ha hd
      generalize ratioI alt dev = s at *
      go_enter Tryd.func12, Tryd.ntmps12
      go_wp2_with (first
        | (go_at_call 31; refine (calib_any _ _).mono ?_; rw [HW.out]; rintro e w1 ⟨rfl, rfl⟩)
        | (go_at_call 32; refine (rratio_any _ _ _).mono ?_; rw [ES.out]; rintro e w2 ⟨rfl, hb⟩))
      go_ret2
      exact ⟨by rw [E.out]; rfl, hb⟩
    · have g3 : (chkI alt dev != 0) = true := by simpa using h
      have E := Lib.hid (show tasF x alt dev = (0, chkI alt dev) by unfold tasF; simp [h, hw])
      have ES := Lib.hid (show ratF alt dev = (0, chkI alt dev) by unfold ratF; simp [h])
      clear h hw
      generalize chkI alt dev = c at *
      go_enter Tryd.func12, Tryd.ntmps12
      go_wp2_with (first
      | (go_at_call 31; refine (calib_any _ _).mono ?_; rw [HW.out]; rintro e w1 ⟨rfl, rfl⟩)
      | (go_at_call 32; refine (rratio_any _ _ _).mono ?_; rw [ES.out]; rintro e w2 ⟨rfl, hb⟩))
      go_ret2
      exact ⟨by rw [E.out]; rfl, hb⟩
theorem rmach_any (x alt dev : Int) (w : World) :
    Calls Tryd.prog 14 #[.int .i64 x, .int .i64 alt, .int .i64 dev] w fun e w' => e = .returned (.tuple #[.int .i64 (machF x alt dev).1, .int .i64 (machF x alt dev).2]) ∧ Below w.heap.size w w' := by
  cases hw : witB x 4000 with
  | false =>
    have E := Lib.hid (show machF x alt dev = (0, 1) by unfold machF; simp [hw])
    have hn : ¬ (0 ≤ x ∧ x ≤ 4000) := fun h => by rw [wit_iff.2 h] at hw; cases hw
    clear hw
    by_cases h0 : x < 0
    · have g : decide (x < 0) = true := by simpa using h0
      clear hn
      go_enter Tryd.func14, Tryd.ntmps14
      go_wp2
      go_ret2
      exact ⟨by rw [E.out]; rfl, Below.refl _ _⟩
    · have g : decide (x < 0) = false := by simpa using h0
      have g2 : decide (4000 < x) = true := by simp; omega
      clear hn
      go_enter Tryd.func14, Tryd.ntmps14
      go_wp2
      go_ret2
      exact ⟨by rw [E.out]; rfl, Below.refl _ _⟩
  | true =>
    obtain ⟨x0, x1⟩ := wit_iff.1 hw
    have HW := Lib.hid hw
    have g : decide (x < 0) = false := by simp; omega
    have g2 : decide (4000 < x) = false := by simp; omega
    by_cases h : chkI alt dev = 0
    · obtain ⟨ha, hd⟩ := chk_ok h
      obtain ⟨s0, s1⟩ := sound_bd ha hd
      have ES := Lib.hid (show sndF alt dev = (soundI alt dev, 0) by unfold sndF; simp [h])
      have E := Lib.hid (show machF x alt dev = (16000 * x / soundI alt dev, 0) by unfold machF machI; simp [hw, h])
      obtain ⟨q0, q1⟩ := mach_bd x0 x1 ha hd
      unfold machI at q0 q1
      clear hw h ha hd
      generalize soundI alt dev = s at *
      go_enter Tryd.func14, Tryd.ntmps14
      go_wp2_with (first
        | (go_at_call 34; refine (rsound_any _ _ _).mono ?_; rw [ES.out]; rintro e w2 ⟨rfl, hb⟩))
      go_ret2
      exact ⟨by rw [E.out]; rfl, hb⟩
    · have g3 : (chkI alt dev != 0) = true := by simpa using h
      have E := Lib.hid (show machF x alt dev = (0, chkI alt dev) by unfold machF; simp [h, hw])
      have ES := Lib.hid (show sndF alt dev = (0, chkI alt dev) by unfold sndF; simp [h])
      clear h hw
      generalize chkI alt dev = c at *
      go_enter Tryd.func14, Tryd.ntmps14
      go_wp2_with (first
      | (go_at_call 34; refine (rsound_any _ _ _).mono ?_; rw [ES.out]; rintro e w2 ⟨rfl, hb⟩))
      go_ret2
      exact ⟨by rw [E.out]; rfl, hb⟩
theorem rof_any (x alt dev : Int) (w : World) :
    Calls Tryd.prog 20 #[.int .i64 x, .int .i64 alt, .int .i64 dev] w fun e w' => e = .returned (.tuple #[.int .i64 (ofF x alt dev).1, .int .i64 (ofF x alt dev).2]) ∧ Below w.heap.size w w' := by
  cases hw : witB x 2000 with
  | false =>
    have E := Lib.hid (show ofF x alt dev = (0, 1) by unfold ofF; simp [hw])
    have hn : ¬ (0 ≤ x ∧ x ≤ 2000) := fun h => by rw [wit_iff.2 h] at hw; cases hw
    clear hw
    by_cases h0 : x < 0
    · have g : decide (x < 0) = true := by simpa using h0
      clear hn
      go_enter Tryd.func20, Tryd.ntmps20
      go_wp2
      go_ret2
      exact ⟨by rw [E.out]; rfl, Below.refl _ _⟩
    · have g : decide (x < 0) = false := by simpa using h0
      have g2 : decide (2000 < x) = true := by simp; omega
      clear hn
      go_enter Tryd.func20, Tryd.ntmps20
      go_wp2
      go_ret2
      exact ⟨by rw [E.out]; rfl, Below.refl _ _⟩
  | true =>
    obtain ⟨x0, x1⟩ := wit_iff.1 hw
    have HW := Lib.hid hw
    have g : decide (x < 0) = false := by simp; omega
    have g2 : decide (2000 < x) = false := by simp; omega
    by_cases h : chkI alt dev = 0
    · obtain ⟨ha, hd⟩ := chk_ok h
      obtain ⟨s0, s1⟩ := sound_bd ha hd
      have ES := Lib.hid (show sndF alt dev = (soundI alt dev, 0) by unfold sndF; simp [h])
      have E := Lib.hid (show ofF x alt dev = ((x * soundI alt dev + 16000 - 1) / 16000, 0) by unfold ofF ofI; rw [ceil_up (by decide)]; simp [hw, h])
      obtain ⟨m0, m1⟩ := mul_bd x0 x1 s0 s1 (by decide) (by decide)
      clear hw h ha hd
      generalize soundI alt dev = s at *
      go_enter Tryd.func20, Tryd.ntmps20
      go_wp2_with (first
        | (go_at_call 34; refine (rsound_any _ _ _).mono ?_; rw [ES.out]; rintro e w2 ⟨rfl, hb⟩)
        | (go_at_call 36; refine (up_any _ _ _ (by omega) (by omega) (by omega) (by omega)).mono ?_; rintro e w3 ⟨rfl, rfl⟩))
      go_ret2
      exact ⟨by rw [E.out]; rfl, hb⟩
    · have g3 : (chkI alt dev != 0) = true := by simpa using h
      have E := Lib.hid (show ofF x alt dev = (0, chkI alt dev) by unfold ofF; simp [h, hw])
      have ES := Lib.hid (show sndF alt dev = (0, chkI alt dev) by unfold sndF; simp [h])
      clear h hw
      generalize chkI alt dev = c at *
      go_enter Tryd.func20, Tryd.ntmps20
      go_wp2_with (first
      | (go_at_call 34; refine (rsound_any _ _ _).mono ?_; rw [ES.out]; rintro e w2 ⟨rfl, hb⟩))
      go_ret2
      exact ⟨by rw [E.out]; rfl, hb⟩
set_option maxHeartbeats 1000000 in
theorem rsched_any (c m alt dev : Int) (w : World) :
    Calls Tryd.prog 16 #[.int .i64 c, .int .i64 m, .int .i64 alt, .int .i64 dev] w fun e w' => e = .returned (.tuple #[.int .i64 (schF c m alt dev).1, .int .i64 (schF c m alt dev).2]) ∧ Below w.heap.size w w' := by
  have HC := fun w => calib_any c w
  cases hc : witB c 1000 with
  | false =>
    rw [hc] at HC
    have HC := Lib.hid HC
    have E := Lib.hid (show schF c m alt dev = (0, 1) by unfold schF; simp [hc])
    clear hc
    go_enter Tryd.func16, Tryd.ntmps16
    go_wp2_with (go_at_call 31; refine (HC.out _).mono ?_; rintro e w1 ⟨rfl, rfl⟩)
    go_ret2
    exact ⟨by rw [E.out]; rfl, Below.refl _ _⟩
  | true =>
    rw [hc] at HC
    have HC1 := Lib.hid HC
    clear HC
    cases hm : witB m 2000 with
    | false =>
      have E := Lib.hid (show schF c m alt dev = (0, 1) by unfold schF; simp [hc, hm])
      have hn : ¬ (0 ≤ m ∧ m ≤ 2000) := fun h => by rw [wit_iff.2 h] at hm; cases hm
      clear hc hm
      by_cases h0 : m < 0
      · have g : decide (m < 0) = true := by simpa using h0
        clear hn
        go_enter Tryd.func16, Tryd.ntmps16
        go_wp2_with (go_at_call 31; refine (HC1.out _).mono ?_; rintro e w1 ⟨rfl, rfl⟩)
        go_ret2
        exact ⟨by rw [E.out]; rfl, Below.refl _ _⟩
      · have g : decide (m < 0) = false := by simpa using h0
        have g2 : decide (2000 < m) = true := by simp; omega
        clear hn
        go_enter Tryd.func16, Tryd.ntmps16
        go_wp2_with (go_at_call 31; refine (HC1.out _).mono ?_; rintro e w1 ⟨rfl, rfl⟩)
        go_ret2
        exact ⟨by rw [E.out]; rfl, Below.refl _ _⟩
    | true =>
      obtain ⟨c0, c1⟩ := wit_iff.1 hc
      obtain ⟨m0, m1⟩ := wit_iff.1 hm
      have g : decide (m < 0) = false := by simp; omega
      have g2 : decide (2000 < m) = false := by simp; omega
      by_cases h : chkI alt dev = 0
      · have ET := Lib.hid (show tasF c alt dev = (tasI c alt dev, 0) by unfold tasF; simp [h, hc])
        have EO := Lib.hid (show ofF m alt dev = (ofI m alt dev, 0) by unfold ofF; simp [h, hm])
        have E := Lib.hid (show schF c m alt dev = (min (tasI c alt dev) (ofI m alt dev), 0) by unfold schF; simp [hc, hm, h])
        clear hc hm h
        generalize tasI c alt dev = p at *
        generalize ofI m alt dev = q at *
        go_enter Tryd.func16, Tryd.ntmps16
        go_wp2_with (first
          | (go_at_call 31; refine (HC1.out _).mono ?_; rintro e w1 ⟨rfl, rfl⟩)
          | (go_at_call 12; refine (rtas_any _ _ _ _).mono ?_; rw [ET.out]; rintro e w2 ⟨rfl, hb⟩)
          | (go_at_call 20; refine (rof_any _ _ _ _).mono ?_; rw [EO.out]; rintro e w3 ⟨rfl, hb2⟩))
        go_ret2
        exact ⟨by rw [E.out]; first | rfl | (simp only [Int.min_def]; rfl), hb.trans (hb2.mono hb.size)⟩
      · have g3 : (chkI alt dev != 0) = true := by simpa using h
        have ET := Lib.hid (show tasF c alt dev = (0, chkI alt dev) by unfold tasF; simp [h, hc])
        have E := Lib.hid (show schF c m alt dev = (0, chkI alt dev) by unfold schF; simp [hc, hm, h])
        clear hc hm h
        generalize chkI alt dev = k at *
        go_enter Tryd.func16, Tryd.ntmps16
        go_wp2_with (first
          | (go_at_call 31; refine (HC1.out _).mono ?_; rintro e w1 ⟨rfl, rfl⟩)
          | (go_at_call 12; refine (rtas_any _ _ _ _).mono ?_; rw [ET.out]; rintro e w2 ⟨rfl, hb⟩))
        go_ret2
        exact ⟨by rw [E.out]; rfl, hb⟩
def CasR (t alt dev : Int) (w : World) (v : Value) (wr : World) : Prop := ∃ k : Nat, v = .int .i64 k ∧ k ≤ 1001 ∧ Hid (∀ j : Int, 0 ≤ j → j < k → tasI j alt dev < t) ∧ Below w.heap.size w wr
theorem cas_at {t alt dev : Int} {k : Nat} (ha : AltOk alt) (hd : DevOk dev) (t0 : 0 ≤ t) (h : ∀ j : Int, 0 ≤ j → j < k → tasI j alt dev < t) (g : t ≤ tasI k alt dev) : casI t alt dev = k := by
  have r := ratio_bd ha hd
  have a := (le_tas ha hd).1 g
  have n : 0 ≤ casI t alt dev := ceil_nonneg (by omega) (by omega)
  by_cases e : casI t alt dev < k
  · have := h _ n e
    have := (le_tas (t := t) ha hd).2 (Int.le_refl _)
    omega
  · omega
theorem cas_over {t alt dev : Int} (ha : AltOk alt) (hd : DevOk dev) (h : tasI 1000 alt dev < t) : 1000 < casI t alt dev := by
  refine Int.not_le.1 fun e => ?_
  have := (le_tas (t := t) ha hd).2 e
  omega
set_option maxHeartbeats 2000000 in
theorem rcas_any (x alt dev : Int) (w : World) :
    Calls Tryd.prog 18 #[.int .i64 x, .int .i64 alt, .int .i64 dev] w fun e w' => e = .returned (.tuple #[.int .i64 (casF x alt dev).1, .int .i64 (casF x alt dev).2]) ∧ Below w.heap.size w w' := by
  cases hw : witB x 4000 with
  | false =>
    have E := Lib.hid (show casF x alt dev = (0, 1) by unfold casF; simp [hw])
    have hn : ¬ (0 ≤ x ∧ x ≤ 4000) := fun h => by rw [wit_iff.2 h] at hw; cases hw
    clear hw
    by_cases h0 : x < 0
    · have g : decide (x < 0) = true := by simpa using h0
      clear hn
      go_enter Tryd.func18, Tryd.ntmps18
      go_wp2
      go_ret2
      exact ⟨by rw [E.out]; rfl, Below.refl _ _⟩
    · have g : decide (x < 0) = false := by simpa using h0
      have g2 : decide (4000 < x) = true := by simp; omega
      clear hn
      go_enter Tryd.func18, Tryd.ntmps18
      go_wp2
      go_ret2
      exact ⟨by rw [E.out]; rfl, Below.refl _ _⟩
  | true =>
    obtain ⟨x0, x1⟩ := wit_iff.1 hw
    have g : decide (x < 0) = false := by simp; omega
    have g2 : decide (4000 < x) = false := by simp; omega
    by_cases h : chkI alt dev = 0
    · obtain ⟨ha, hd⟩ := chk_ok h
      have ES := Lib.hid (show ratF alt dev = (ratioI alt dev, 0) by unfold ratF; simp [h])
      have E0 := Lib.hid (show casF x alt dev = if 1000 < casI x alt dev then (0, 2) else (casI x alt dev, 0) by unfold casF; simp [hw, h])
      have TA := Lib.hid (fun (k : Int) (k0 : 0 ≤ k) (k1 : k ≤ 1000) => show tasF k alt dev = (tasI k alt dev, 0) by unfold tasF; rw [if_pos (wit_iff.2 ⟨k0, k1⟩), if_pos h])
      have AT := Lib.hid (fun (k : Nat) => cas_at (t := x) (k := k) ha hd x0)
      have OV := Lib.hid (cas_over (t := x) ha hd)
      clear hw h ha hd
      go_enter Tryd.func18, Tryd.ntmps18
      go_wp2_with (go_at_call 32; refine (rratio_any _ _ _).mono ?_; rw [ES.out]; rintro e w1 ⟨rfl, hb1⟩)
      have HB := Lib.hid hb1
      clear hb1
      go_loopw [10] (CasR x alt dev w) (fun i _ => 1001 - (intOf i).toNat)
      case atStart => exact ⟨0, rfl, by omega, Lib.hid fun j h0 h1 => absurd h1 (by omega), HB.out⟩
      case round =>
        obtain ⟨k, rfl, k1, hk, hbr⟩ := hrel
        have HR := Lib.hid hbr
        clear hbr
        by_cases q : k ≤ 1000
        · have q' : decide ((k : Int) ≤ 1000) = true := by simp; omega
          have TK := Lib.hid (TA.out k (by omega) (by omega))
          have ATK := Lib.hid (AT.out k hk.out)
          generalize hT : tasI k alt dev = p at *
          have HTT := Lib.hid hT
          clear hT
          by_cases c : x ≤ p
          · have c' : decide (x ≤ p) = true := by simpa using c
            have EE := Lib.hid (ATK.out c)
            clear c
            go_wp2_with (go_at_call 12; refine (rtas_any _ _ _ _).mono ?_; rw [TK.out]; rintro e w2 ⟨rfl, hb2⟩)
            go_ret2
            exact ⟨by rw [E0.out, if_neg (by rw [EE.out]; omega), EE.out]; rfl, HR.out.trans (hb2.mono HR.out.size)⟩
          · have c' : decide (x ≤ p) = false := by simpa using c
            go_wp2_with (go_at_call 12; refine (rtas_any _ _ _ _).mono ?_; rw [TK.out]; rintro e w2 ⟨rfl, hb2⟩)
            go_roundw
            case rel =>
              refine ⟨k + 1, by go_num, by omega, Lib.hid fun j h0 h1 => ?_, HR.out.trans (hb2.mono HR.out.size)⟩
              by_cases e : j = k
              · rw [e, HTT.out]; omega
              · exact hk.out j h0 (by omega)
            case measure => simp [intOf]; omega
        · have q' : decide ((k : Int) ≤ 1000) = false := by simp; omega
          have EE := Lib.hid (OV.out (hk.out 1000 (by decide) (by omega)))
          go_wp2
          go_ret2
          exact ⟨by rw [E0.out, if_pos EE.out]; rfl, HR.out⟩
    · have g3 : (chkI alt dev != 0) = true := by simpa using h
      have E := Lib.hid (show casF x alt dev = (0, chkI alt dev) by unfold casF; simp [h, hw])
      have ES := Lib.hid (show ratF alt dev = (0, chkI alt dev) by unfold ratF; simp [h])
      clear h hw
      generalize chkI alt dev = c at *
      go_enter Tryd.func18, Tryd.ntmps18
      go_wp2_with (go_at_call 32; refine (rratio_any _ _ _).mono ?_; rw [ES.out]; rintro e w2 ⟨rfl, hb⟩)
      go_ret2
      exact ⟨by rw [E.out]; rfl, hb⟩
end Go.Proofs.YtnaokohffelklaaDoor
