/-
  The walks of the reference's Atan2, roots and absolute values. (The cases of Atan2 are written by a small program: gen_atanref.py.)
-/
import Derived.Test.YtdfpbojlimeccaaDoorTrigRef
import Derived.Test.YtdfpbojlimeccaaDoorAtanThree
namespace Go.Proofs.YtdfpbojlimeccaaDoor
set_option linter.unusedVariables false
open Go.RowKit Tr Sq

theorem outside_ref (x : Int) (w : World) (h0 : -2147483647 ≤ x) (h1 : x ≤ 2147483647) :
    Calls Tryd.prog 71 #[.int .i64 x] w fun e w' => e = .returned (.bool false) ∧ w = w' := by
  have g1 : decide (2147483647 < x) = false := by simp; omega
  have g2 : decide (x < -2147483647) = false := by simp; omega
  go_enter Tryd.func71, Tryd.ntmps71
  go_wp2
  go_ret
  exact ⟨rfl, rfl⟩

def TopRel (m n : Int) (s10 s11 : Value) : Prop := ∃ c above : Int, s10 = .int .i64 c ∧ s11 = .int .i64 above ∧ 0 ≤ c ∧ c < above ∧ above ≤ 16200001 ∧ Hid (okI m n c) ∧ Hid (above ≤ 16200000 → ¬ okI m n above)
theorem toprel_end {m n c above : Int} (hm : 0 ≤ m) (hn : 0 ≤ n) (h0 : 0 ≤ c) (h1 : c < above) (h2 : above ≤ 16200001) (h3 : above - c ≤ 1) (hy : okI m n c) (hno : above ≤ 16200000 → ¬ okI m n above) : c = topI m n := by
  refine IsTop.uniq (ok := okI m n) (most := 16200000) ⟨h0, by omega, hy, fun d h4 h5 hd => ?_⟩ (topI_top hm hn)
  exact hno (by omega) (okI_down hm hn (by omega) (show above ≤ d by omega) h5 hd)
def AtanRefPost (y x : Int) (w : World) (e : Ending) (w' : World) : Prop := e = .returned (.tuple #[.int .i64 (atanI y x), .int .i64 0]) ∧ w = w'

set_option maxHeartbeats 1000000 in
theorem atan2r_c1 (y x : Int) (w : World) (h0 : -2147483647 ≤ x) (h1 : x ≤ 2147483647) (h2 : -2147483647 ≤ y) (h3 : y ≤ 2147483647) (hx : x < 0) (hy : y < 0) (hc : (-x) < (-y)) :
    Calls Tryd.prog 45 #[.int .i64 y, .int .i64 x] w (AtanRefPost y x w) := by
  obtain ⟨t0, t1⟩ := top_bd (m := (-y)) (n := (-x)) (by omega) (by omega)
  obtain ⟨r0, r1⟩ := normI_range (-(32400000 - topI (-y) (-x)))
  have eq1 : atanQ y x = 32400000 - topI (-y) (-x) := by
    rw [← atanQ_lt (y := y) (x := x) (by rw [absI_neg hx, absI_neg hy]; omega), absI_neg hx, absI_neg hy]
  have e1 : atanI y x = 64800000 + (32400000 - topI (-y) (-x)) := by unfold atanI; rw [if_neg (by omega), if_neg (by omega), eq1]
  have E1 := Lib.hid e1
  clear eq1 e1
  have ok0 := Lib.hid (okI_0 (m := (-y)) (n := (-x)) (by omega))
  have g3 : (x == 0) = false := by simp; omega
  have g4 : (y == 0) = false := by simp; omega
  have g1 : decide (x < 0) = true := by simp; omega
  have g2 : decide (y < 0) = true := by simp; omega
  go_enter Tryd.func45, Tryd.ntmps45
  go_wp2_with (go_at_call 71; refine (outside_ref _ _ (by omega) (by omega)).mono ?_; rintro e w' ⟨rfl, rfl⟩)
  go_loop [10, 11] (TopRel (-y) (-x)) (fun a b => (intOf b - intOf a).toNat)
  case atStart => exact ⟨0, 16200001, rfl, rfl, by decide, by decide, by decide, ok0.out, (fun h => absurd h (by decide) : (16200001 : Int) ≤ 16200000 → ¬ okI (-y) (-x) 16200001)⟩
  case round =>
    obtain ⟨c, above, rfl, rfl, c0, c1, c2, hyes, hno⟩ := hrel
    by_cases hgo : 1 < above - c
    · obtain ⟨s1, s2⟩ := sinI_range ((c + above) / 2)
      obtain ⟨s3, s4⟩ := cosI_range ((c + above) / 2)
      obtain ⟨p1, p2⟩ := prod_bd s1 s2 (m := (-y)) (by omega) (by omega)
      obtain ⟨p3, p4⟩ := prod_bd s3 s4 (m := (-x)) (by omega) (by omega)
      by_cases hok : sinI ((c + above) / 2) * (-y) ≤ cosI ((c + above) / 2) * (-x)
      · go_wp2_with (first
          | (go_at_call 52; refine (sin_ref _ _ (by omega) (by omega)).mono ?_; rintro e w' ⟨rfl, rfl⟩)
          | (go_at_call 53; refine (cos_ref _ _ (by omega) (by omega)).mono ?_; rintro e w' ⟨rfl, rfl⟩))
        go_round
        case rel => exact ⟨(c + above) / 2, above, rfl, rfl, by omega, by omega, c2, hok, hno⟩
        case measure => simp [intOf]; omega
      · go_wp2_with (first
          | (go_at_call 52; refine (sin_ref _ _ (by omega) (by omega)).mono ?_; rintro e w' ⟨rfl, rfl⟩)
          | (go_at_call 53; refine (cos_ref _ _ (by omega) (by omega)).mono ?_; rintro e w' ⟨rfl, rfl⟩))
        go_round
        case rel => exact ⟨c, (c + above) / 2, rfl, rfl, c0, by omega, by omega, hyes, (fun _ h => absurd h (Int.not_le.2 hok) : (c + above) / 2 ≤ 16200000 → ¬ okI (-y) (-x) ((c + above) / 2))⟩
        case measure => simp [intOf]; omega
    · obtain rfl := toprel_end (by omega) (by omega) c0 c1 c2 (by omega) hyes.out hno.out
      go_wp2_with (go_at_call 72; refine (norm_ref _ _ (by omega) (by omega)).mono ?_; rintro e w' ⟨rfl, rfl⟩)
      go_ret2
      refine ⟨?_, rfl⟩
      rw [E1.out]
      rfl

set_option maxHeartbeats 1000000 in
theorem atan2r_c2 (y x : Int) (w : World) (h0 : -2147483647 ≤ x) (h1 : x ≤ 2147483647) (h2 : -2147483647 ≤ y) (h3 : y ≤ 2147483647) (hx : x < 0) (hy : y < 0) (hc : (-y) < (-x)) :
    Calls Tryd.prog 45 #[.int .i64 y, .int .i64 x] w (AtanRefPost y x w) := by
  obtain ⟨t0, t1⟩ := top_bd (m := (-x)) (n := (-y)) (by omega) (by omega)
  obtain ⟨r0, r1⟩ := normI_range (-(topI (-x) (-y)))
  have eq1 : atanQ y x = topI (-x) (-y) := by
    rw [← atanQ_ge (y := y) (x := x) (by rw [absI_neg hx, absI_neg hy]; omega), absI_neg hx, absI_neg hy]
  have e1 : atanI y x = 64800000 + (topI (-x) (-y)) := by unfold atanI; rw [if_neg (by omega), if_neg (by omega), eq1]
  have E1 := Lib.hid e1
  clear eq1 e1
  have ok0 := Lib.hid (okI_0 (m := (-x)) (n := (-y)) (by omega))
  have g3 : (x == 0) = false := by simp; omega
  have g4 : (y == 0) = false := by simp; omega
  have g1 : decide (x < 0) = true := by simp; omega
  have g2 : decide (y < 0) = true := by simp; omega
  go_enter Tryd.func45, Tryd.ntmps45
  go_wp2_with (go_at_call 71; refine (outside_ref _ _ (by omega) (by omega)).mono ?_; rintro e w' ⟨rfl, rfl⟩)
  go_loop [10, 11] (TopRel (-x) (-y)) (fun a b => (intOf b - intOf a).toNat)
  case atStart => exact ⟨0, 16200001, rfl, rfl, by decide, by decide, by decide, ok0.out, (fun h => absurd h (by decide) : (16200001 : Int) ≤ 16200000 → ¬ okI (-x) (-y) 16200001)⟩
  case round =>
    obtain ⟨c, above, rfl, rfl, c0, c1, c2, hyes, hno⟩ := hrel
    by_cases hgo : 1 < above - c
    · obtain ⟨s1, s2⟩ := sinI_range ((c + above) / 2)
      obtain ⟨s3, s4⟩ := cosI_range ((c + above) / 2)
      obtain ⟨p1, p2⟩ := prod_bd s1 s2 (m := (-x)) (by omega) (by omega)
      obtain ⟨p3, p4⟩ := prod_bd s3 s4 (m := (-y)) (by omega) (by omega)
      by_cases hok : sinI ((c + above) / 2) * (-x) ≤ cosI ((c + above) / 2) * (-y)
      · go_wp2_with (first
          | (go_at_call 52; refine (sin_ref _ _ (by omega) (by omega)).mono ?_; rintro e w' ⟨rfl, rfl⟩)
          | (go_at_call 53; refine (cos_ref _ _ (by omega) (by omega)).mono ?_; rintro e w' ⟨rfl, rfl⟩))
        go_round
        case rel => exact ⟨(c + above) / 2, above, rfl, rfl, by omega, by omega, c2, hok, hno⟩
        case measure => simp [intOf]; omega
      · go_wp2_with (first
          | (go_at_call 52; refine (sin_ref _ _ (by omega) (by omega)).mono ?_; rintro e w' ⟨rfl, rfl⟩)
          | (go_at_call 53; refine (cos_ref _ _ (by omega) (by omega)).mono ?_; rintro e w' ⟨rfl, rfl⟩))
        go_round
        case rel => exact ⟨c, (c + above) / 2, rfl, rfl, c0, by omega, by omega, hyes, (fun _ h => absurd h (Int.not_le.2 hok) : (c + above) / 2 ≤ 16200000 → ¬ okI (-x) (-y) ((c + above) / 2))⟩
        case measure => simp [intOf]; omega
    · obtain rfl := toprel_end (by omega) (by omega) c0 c1 c2 (by omega) hyes.out hno.out
      go_wp2_with (go_at_call 72; refine (norm_ref _ _ (by omega) (by omega)).mono ?_; rintro e w' ⟨rfl, rfl⟩)
      go_ret2
      refine ⟨?_, rfl⟩
      rw [E1.out]
      rfl

set_option maxHeartbeats 1000000 in
theorem atan2r_c3 (y x : Int) (w : World) (h0 : -2147483647 ≤ x) (h1 : x ≤ 2147483647) (h2 : -2147483647 ≤ y) (h3 : y ≤ 2147483647) (hx : x < 0) (hy : y < 0) (hc : (-y) ≤ (-x) ∧ (-x) ≤ (-y)) :
    Calls Tryd.prog 45 #[.int .i64 y, .int .i64 x] w (AtanRefPost y x w) := by
  obtain ⟨hc1, hc2⟩ := hc
  obtain rfl : x = y := by omega
  clear hc1 hc2
  obtain ⟨t0, t1⟩ := top_bd (m := (-x)) (n := (-x)) (by omega) (by omega)
  obtain ⟨r0, r1⟩ := normI_range (-(topI (-x) (-x)))
  have eq1 : atanQ x x = topI (-x) (-x) := by
    have e1 : absI x = (-x) := by unfold absI; split <;> omega
    have e2 : absI x = (-x) := by unfold absI; split <;> omega
    rw [← atanQ_ge (y := x) (x := x) (by omega), e1]
  have e1 : atanI x x = 64800000 + (topI (-x) (-x)) := by unfold atanI; rw [if_neg (by omega), if_neg (by omega), eq1]
  have E1 := Lib.hid e1
  clear eq1 e1
  have ok0 := Lib.hid (okI_0 (m := (-x)) (n := (-x)) (by omega))
  have g3 : (x == 0) = false := by simp; omega
  have g4 : (x == 0) = false := by simp; omega
  have g1 : decide (x < 0) = true := by simp; omega
  have g2 : decide (x < 0) = true := by simp; omega
  go_enter Tryd.func45, Tryd.ntmps45
  go_wp2_with (go_at_call 71; refine (outside_ref _ _ (by omega) (by omega)).mono ?_; rintro e w' ⟨rfl, rfl⟩)
  go_loop [10, 11] (TopRel (-x) (-x)) (fun a b => (intOf b - intOf a).toNat)
  case atStart => exact ⟨0, 16200001, rfl, rfl, by decide, by decide, by decide, ok0.out, (fun h => absurd h (by decide) : (16200001 : Int) ≤ 16200000 → ¬ okI (-x) (-x) 16200001)⟩
  case round =>
    obtain ⟨c, above, rfl, rfl, c0, c1, c2, hyes, hno⟩ := hrel
    by_cases hgo : 1 < above - c
    · obtain ⟨s1, s2⟩ := sinI_range ((c + above) / 2)
      obtain ⟨s3, s4⟩ := cosI_range ((c + above) / 2)
      obtain ⟨p1, p2⟩ := prod_bd s1 s2 (m := (-x)) (by omega) (by omega)
      obtain ⟨p3, p4⟩ := prod_bd s3 s4 (m := (-x)) (by omega) (by omega)
      by_cases hok : sinI ((c + above) / 2) ≤ cosI ((c + above) / 2)
      · go_wp2_with (first
          | (go_at_call 52; refine (sin_ref _ _ (by omega) (by omega)).mono ?_; rintro e w' ⟨rfl, rfl⟩)
          | (go_at_call 53; refine (cos_ref _ _ (by omega) (by omega)).mono ?_; rintro e w' ⟨rfl, rfl⟩))
        go_round
        case rel => exact ⟨(c + above) / 2, above, rfl, rfl, by omega, by omega, c2, (Int.mul_le_mul_of_nonneg_right hok (by omega) : okI (-x) (-x) ((c + above) / 2)), hno⟩
        case measure => simp [intOf]; omega
      · go_wp2_with (first
          | (go_at_call 52; refine (sin_ref _ _ (by omega) (by omega)).mono ?_; rintro e w' ⟨rfl, rfl⟩)
          | (go_at_call 53; refine (cos_ref _ _ (by omega) (by omega)).mono ?_; rintro e w' ⟨rfl, rfl⟩))
        go_round
        case rel => exact ⟨c, (c + above) / 2, rfl, rfl, c0, by omega, by omega, hyes, (fun _ h => absurd (Int.le_of_mul_le_mul_right h (by omega)) (Int.not_le.2 hok) : (c + above) / 2 ≤ 16200000 → ¬ okI (-x) (-x) ((c + above) / 2))⟩
        case measure => simp [intOf]; omega
    · obtain rfl := toprel_end (by omega) (by omega) c0 c1 c2 (by omega) hyes.out hno.out
      go_wp2_with (go_at_call 72; refine (norm_ref _ _ (by omega) (by omega)).mono ?_; rintro e w' ⟨rfl, rfl⟩)
      go_ret2
      refine ⟨?_, rfl⟩
      rw [E1.out]
      rfl

set_option maxHeartbeats 1000000 in
theorem atan2r_c4 (y x : Int) (w : World) (h0 : -2147483647 ≤ x) (h1 : x ≤ 2147483647) (h2 : -2147483647 ≤ y) (h3 : y ≤ 2147483647) (hx : x < 0) (hy : y = 0) (hc : 0 < (-x)) :
    Calls Tryd.prog 45 #[.int .i64 y, .int .i64 x] w (AtanRefPost y x w) := by
  subst hy
  obtain ⟨t0, t1⟩ := top_bd (m := (-x)) (n := 0) (by omega) (by omega)
  obtain ⟨r0, r1⟩ := normI_range (-(topI (-x) 0))
  have eq1 : atanQ 0 x = topI (-x) 0 := by
    rw [← atanQ_ge (y := 0) (x := x) (by rw [absI_neg hx, show absI 0 = 0 from by decide]; omega), absI_neg hx, show absI 0 = 0 from by decide]
  have e1 : atanI 0 x = 64800000 - (topI (-x) 0) := by unfold atanI; rw [if_neg (by omega), if_pos (by omega), eq1]
  have E1 := Lib.hid e1
  clear eq1 e1
  have ok0 := Lib.hid (okI_0 (m := (-x)) (n := 0) (by omega))
  have g3 : (x == 0) = false := by simp; omega
  have g1 : decide (x < 0) = true := by simp; omega
  go_enter Tryd.func45, Tryd.ntmps45
  go_wp2_with (go_at_call 71; refine (outside_ref _ _ (by omega) (by omega)).mono ?_; rintro e w' ⟨rfl, rfl⟩)
  go_loop [10, 11] (TopRel (-x) 0) (fun a b => (intOf b - intOf a).toNat)
  case atStart => exact ⟨0, 16200001, rfl, rfl, by decide, by decide, by decide, ok0.out, (fun h => absurd h (by decide) : (16200001 : Int) ≤ 16200000 → ¬ okI (-x) 0 16200001)⟩
  case round =>
    obtain ⟨c, above, rfl, rfl, c0, c1, c2, hyes, hno⟩ := hrel
    by_cases hgo : 1 < above - c
    · obtain ⟨s1, s2⟩ := sinI_range ((c + above) / 2)
      obtain ⟨s3, s4⟩ := cosI_range ((c + above) / 2)
      obtain ⟨p1, p2⟩ := prod_bd s1 s2 (m := (-x)) (by omega) (by omega)
      obtain ⟨p3, p4⟩ := prod_bd s3 s4 (m := 0) (by omega) (by omega)
      by_cases hok : sinI ((c + above) / 2) * (-x) ≤ cosI ((c + above) / 2) * 0
      · go_wp2_with (first
          | (go_at_call 52; refine (sin_ref _ _ (by omega) (by omega)).mono ?_; rintro e w' ⟨rfl, rfl⟩)
          | (go_at_call 53; refine (cos_ref _ _ (by omega) (by omega)).mono ?_; rintro e w' ⟨rfl, rfl⟩))
        go_round
        case rel => exact ⟨(c + above) / 2, above, rfl, rfl, by omega, by omega, c2, hok, hno⟩
        case measure => simp [intOf]; omega
      · go_wp2_with (first
          | (go_at_call 52; refine (sin_ref _ _ (by omega) (by omega)).mono ?_; rintro e w' ⟨rfl, rfl⟩)
          | (go_at_call 53; refine (cos_ref _ _ (by omega) (by omega)).mono ?_; rintro e w' ⟨rfl, rfl⟩))
        go_round
        case rel => exact ⟨c, (c + above) / 2, rfl, rfl, c0, by omega, by omega, hyes, (fun _ h => absurd h (Int.not_le.2 hok) : (c + above) / 2 ≤ 16200000 → ¬ okI (-x) 0 ((c + above) / 2))⟩
        case measure => simp [intOf]; omega
    · obtain rfl := toprel_end (by omega) (by omega) c0 c1 c2 (by omega) hyes.out hno.out
      go_wp2_with (go_at_call 72; refine (norm_ref _ _ (by omega) (by omega)).mono ?_; rintro e w' ⟨rfl, rfl⟩)
      go_ret2
      refine ⟨?_, rfl⟩
      rw [E1.out]
      rfl

set_option maxHeartbeats 1000000 in
theorem atan2r_c5 (y x : Int) (w : World) (h0 : -2147483647 ≤ x) (h1 : x ≤ 2147483647) (h2 : -2147483647 ≤ y) (h3 : y ≤ 2147483647) (hx : x < 0) (hy : 0 < y) (hc : (-x) < y) :
    Calls Tryd.prog 45 #[.int .i64 y, .int .i64 x] w (AtanRefPost y x w) := by
  obtain ⟨t0, t1⟩ := top_bd (m := y) (n := (-x)) (by omega) (by omega)
  obtain ⟨r0, r1⟩ := normI_range (-(32400000 - topI y (-x)))
  have eq1 : atanQ y x = 32400000 - topI y (-x) := by
    rw [← atanQ_lt (y := y) (x := x) (by rw [absI_neg hx, absI_pos (x := y) (by omega)]; omega), absI_neg hx, absI_pos (x := y) (by omega)]
  have e1 : atanI y x = 64800000 - (32400000 - topI y (-x)) := by unfold atanI; rw [if_neg (by omega), if_pos (by omega), eq1]
  have E1 := Lib.hid e1
  clear eq1 e1
  have ok0 := Lib.hid (okI_0 (m := y) (n := (-x)) (by omega))
  have g3 : (x == 0) = false := by simp; omega
  have g4 : (y == 0) = false := by simp; omega
  have g1 : decide (x < 0) = true := by simp; omega
  have g2 : decide (y < 0) = false := by simp; omega
  go_enter Tryd.func45, Tryd.ntmps45
  go_wp2_with (go_at_call 71; refine (outside_ref _ _ (by omega) (by omega)).mono ?_; rintro e w' ⟨rfl, rfl⟩)
  go_loop [10, 11] (TopRel y (-x)) (fun a b => (intOf b - intOf a).toNat)
  case atStart => exact ⟨0, 16200001, rfl, rfl, by decide, by decide, by decide, ok0.out, (fun h => absurd h (by decide) : (16200001 : Int) ≤ 16200000 → ¬ okI y (-x) 16200001)⟩
  case round =>
    obtain ⟨c, above, rfl, rfl, c0, c1, c2, hyes, hno⟩ := hrel
    by_cases hgo : 1 < above - c
    · obtain ⟨s1, s2⟩ := sinI_range ((c + above) / 2)
      obtain ⟨s3, s4⟩ := cosI_range ((c + above) / 2)
      obtain ⟨p1, p2⟩ := prod_bd s1 s2 (m := y) (by omega) (by omega)
      obtain ⟨p3, p4⟩ := prod_bd s3 s4 (m := (-x)) (by omega) (by omega)
      by_cases hok : sinI ((c + above) / 2) * y ≤ cosI ((c + above) / 2) * (-x)
      · go_wp2_with (first
          | (go_at_call 52; refine (sin_ref _ _ (by omega) (by omega)).mono ?_; rintro e w' ⟨rfl, rfl⟩)
          | (go_at_call 53; refine (cos_ref _ _ (by omega) (by omega)).mono ?_; rintro e w' ⟨rfl, rfl⟩))
        go_round
        case rel => exact ⟨(c + above) / 2, above, rfl, rfl, by omega, by omega, c2, hok, hno⟩
        case measure => simp [intOf]; omega
      · go_wp2_with (first
          | (go_at_call 52; refine (sin_ref _ _ (by omega) (by omega)).mono ?_; rintro e w' ⟨rfl, rfl⟩)
          | (go_at_call 53; refine (cos_ref _ _ (by omega) (by omega)).mono ?_; rintro e w' ⟨rfl, rfl⟩))
        go_round
        case rel => exact ⟨c, (c + above) / 2, rfl, rfl, c0, by omega, by omega, hyes, (fun _ h => absurd h (Int.not_le.2 hok) : (c + above) / 2 ≤ 16200000 → ¬ okI y (-x) ((c + above) / 2))⟩
        case measure => simp [intOf]; omega
    · obtain rfl := toprel_end (by omega) (by omega) c0 c1 c2 (by omega) hyes.out hno.out
      go_wp2_with (go_at_call 72; refine (norm_ref _ _ (by omega) (by omega)).mono ?_; rintro e w' ⟨rfl, rfl⟩)
      go_ret2
      refine ⟨?_, rfl⟩
      rw [E1.out]
      rfl

set_option maxHeartbeats 1000000 in
theorem atan2r_c6 (y x : Int) (w : World) (h0 : -2147483647 ≤ x) (h1 : x ≤ 2147483647) (h2 : -2147483647 ≤ y) (h3 : y ≤ 2147483647) (hx : x < 0) (hy : 0 < y) (hc : y < (-x)) :
    Calls Tryd.prog 45 #[.int .i64 y, .int .i64 x] w (AtanRefPost y x w) := by
  obtain ⟨t0, t1⟩ := top_bd (m := (-x)) (n := y) (by omega) (by omega)
  obtain ⟨r0, r1⟩ := normI_range (-(topI (-x) y))
  have eq1 : atanQ y x = topI (-x) y := by
    rw [← atanQ_ge (y := y) (x := x) (by rw [absI_neg hx, absI_pos (x := y) (by omega)]; omega), absI_neg hx, absI_pos (x := y) (by omega)]
  have e1 : atanI y x = 64800000 - (topI (-x) y) := by unfold atanI; rw [if_neg (by omega), if_pos (by omega), eq1]
  have E1 := Lib.hid e1
  clear eq1 e1
  have ok0 := Lib.hid (okI_0 (m := (-x)) (n := y) (by omega))
  have g3 : (x == 0) = false := by simp; omega
  have g4 : (y == 0) = false := by simp; omega
  have g1 : decide (x < 0) = true := by simp; omega
  have g2 : decide (y < 0) = false := by simp; omega
  go_enter Tryd.func45, Tryd.ntmps45
  go_wp2_with (go_at_call 71; refine (outside_ref _ _ (by omega) (by omega)).mono ?_; rintro e w' ⟨rfl, rfl⟩)
  go_loop [10, 11] (TopRel (-x) y) (fun a b => (intOf b - intOf a).toNat)
  case atStart => exact ⟨0, 16200001, rfl, rfl, by decide, by decide, by decide, ok0.out, (fun h => absurd h (by decide) : (16200001 : Int) ≤ 16200000 → ¬ okI (-x) y 16200001)⟩
  case round =>
    obtain ⟨c, above, rfl, rfl, c0, c1, c2, hyes, hno⟩ := hrel
    by_cases hgo : 1 < above - c
    · obtain ⟨s1, s2⟩ := sinI_range ((c + above) / 2)
      obtain ⟨s3, s4⟩ := cosI_range ((c + above) / 2)
      obtain ⟨p1, p2⟩ := prod_bd s1 s2 (m := (-x)) (by omega) (by omega)
      obtain ⟨p3, p4⟩ := prod_bd s3 s4 (m := y) (by omega) (by omega)
      by_cases hok : sinI ((c + above) / 2) * (-x) ≤ cosI ((c + above) / 2) * y
      · go_wp2_with (first
          | (go_at_call 52; refine (sin_ref _ _ (by omega) (by omega)).mono ?_; rintro e w' ⟨rfl, rfl⟩)
          | (go_at_call 53; refine (cos_ref _ _ (by omega) (by omega)).mono ?_; rintro e w' ⟨rfl, rfl⟩))
        go_round
        case rel => exact ⟨(c + above) / 2, above, rfl, rfl, by omega, by omega, c2, hok, hno⟩
        case measure => simp [intOf]; omega
      · go_wp2_with (first
          | (go_at_call 52; refine (sin_ref _ _ (by omega) (by omega)).mono ?_; rintro e w' ⟨rfl, rfl⟩)
          | (go_at_call 53; refine (cos_ref _ _ (by omega) (by omega)).mono ?_; rintro e w' ⟨rfl, rfl⟩))
        go_round
        case rel => exact ⟨c, (c + above) / 2, rfl, rfl, c0, by omega, by omega, hyes, (fun _ h => absurd h (Int.not_le.2 hok) : (c + above) / 2 ≤ 16200000 → ¬ okI (-x) y ((c + above) / 2))⟩
        case measure => simp [intOf]; omega
    · obtain rfl := toprel_end (by omega) (by omega) c0 c1 c2 (by omega) hyes.out hno.out
      go_wp2_with (go_at_call 72; refine (norm_ref _ _ (by omega) (by omega)).mono ?_; rintro e w' ⟨rfl, rfl⟩)
      go_ret2
      refine ⟨?_, rfl⟩
      rw [E1.out]
      rfl

set_option maxHeartbeats 1000000 in
theorem atan2r_c7 (y x : Int) (w : World) (h0 : -2147483647 ≤ x) (h1 : x ≤ 2147483647) (h2 : -2147483647 ≤ y) (h3 : y ≤ 2147483647) (hx : x < 0) (hy : 0 < y) (hc : y ≤ (-x) ∧ (-x) ≤ y) :
    Calls Tryd.prog 45 #[.int .i64 y, .int .i64 x] w (AtanRefPost y x w) := by
  obtain ⟨hc1, hc2⟩ := hc
  obtain rfl : y = -x := by omega
  clear hc1 hc2
  obtain ⟨t0, t1⟩ := top_bd (m := (-x)) (n := (-x)) (by omega) (by omega)
  obtain ⟨r0, r1⟩ := normI_range (-(topI (-x) (-x)))
  have eq1 : atanQ (-x) x = topI (-x) (-x) := by
    have e1 : absI x = (-x) := by unfold absI; split <;> omega
    have e2 : absI (-x) = (-x) := by unfold absI; split <;> omega
    rw [← atanQ_ge (y := (-x)) (x := x) (by omega), e1, e2]
  have e1 : atanI (-x) x = 64800000 - (topI (-x) (-x)) := by unfold atanI; rw [if_neg (by omega), if_pos (by omega), eq1]
  have E1 := Lib.hid e1
  clear eq1 e1
  have ok0 := Lib.hid (okI_0 (m := (-x)) (n := (-x)) (by omega))
  have g3 : (x == 0) = false := by simp; omega
  have g4 : ((-x) == 0) = false := by simp; omega
  have g1 : decide (x < 0) = true := by simp; omega
  have g2 : decide ((-x) < 0) = false := by simp; omega
  go_enter Tryd.func45, Tryd.ntmps45
  go_wp2_with (go_at_call 71; refine (outside_ref _ _ (by omega) (by omega)).mono ?_; rintro e w' ⟨rfl, rfl⟩)
  go_loop [10, 11] (TopRel (-x) (-x)) (fun a b => (intOf b - intOf a).toNat)
  case atStart => exact ⟨0, 16200001, rfl, rfl, by decide, by decide, by decide, ok0.out, (fun h => absurd h (by decide) : (16200001 : Int) ≤ 16200000 → ¬ okI (-x) (-x) 16200001)⟩
  case round =>
    obtain ⟨c, above, rfl, rfl, c0, c1, c2, hyes, hno⟩ := hrel
    by_cases hgo : 1 < above - c
    · obtain ⟨s1, s2⟩ := sinI_range ((c + above) / 2)
      obtain ⟨s3, s4⟩ := cosI_range ((c + above) / 2)
      obtain ⟨p1, p2⟩ := prod_bd s1 s2 (m := (-x)) (by omega) (by omega)
      obtain ⟨p3, p4⟩ := prod_bd s3 s4 (m := (-x)) (by omega) (by omega)
      by_cases hok : sinI ((c + above) / 2) ≤ cosI ((c + above) / 2)
      · go_wp2_with (first
          | (go_at_call 52; refine (sin_ref _ _ (by omega) (by omega)).mono ?_; rintro e w' ⟨rfl, rfl⟩)
          | (go_at_call 53; refine (cos_ref _ _ (by omega) (by omega)).mono ?_; rintro e w' ⟨rfl, rfl⟩))
        go_round
        case rel => exact ⟨(c + above) / 2, above, rfl, rfl, by omega, by omega, c2, (Int.mul_le_mul_of_nonneg_right hok (by omega) : okI (-x) (-x) ((c + above) / 2)), hno⟩
        case measure => simp [intOf]; omega
      · go_wp2_with (first
          | (go_at_call 52; refine (sin_ref _ _ (by omega) (by omega)).mono ?_; rintro e w' ⟨rfl, rfl⟩)
          | (go_at_call 53; refine (cos_ref _ _ (by omega) (by omega)).mono ?_; rintro e w' ⟨rfl, rfl⟩))
        go_round
        case rel => exact ⟨c, (c + above) / 2, rfl, rfl, c0, by omega, by omega, hyes, (fun _ h => absurd (Int.le_of_mul_le_mul_right h (by omega)) (Int.not_le.2 hok) : (c + above) / 2 ≤ 16200000 → ¬ okI (-x) (-x) ((c + above) / 2))⟩
        case measure => simp [intOf]; omega
    · obtain rfl := toprel_end (by omega) (by omega) c0 c1 c2 (by omega) hyes.out hno.out
      go_wp2_with (go_at_call 72; refine (norm_ref _ _ (by omega) (by omega)).mono ?_; rintro e w' ⟨rfl, rfl⟩)
      go_ret2
      refine ⟨?_, rfl⟩
      rw [E1.out]
      rfl

set_option maxHeartbeats 1000000 in
theorem atan2r_c8 (y x : Int) (w : World) (h0 : -2147483647 ≤ x) (h1 : x ≤ 2147483647) (h2 : -2147483647 ≤ y) (h3 : y ≤ 2147483647) (hx : x = 0) (hy : y < 0) (hc : 0 < (-y)) :
    Calls Tryd.prog 45 #[.int .i64 y, .int .i64 x] w (AtanRefPost y x w) := by
  subst hx
  obtain ⟨t0, t1⟩ := top_bd (m := (-y)) (n := 0) (by omega) (by omega)
  obtain ⟨r0, r1⟩ := normI_range (-(32400000 - topI (-y) 0))
  have eq1 : atanQ y 0 = 32400000 - topI (-y) 0 := by
    rw [← atanQ_lt (y := y) (x := 0) (by rw [show absI 0 = 0 from by decide, absI_neg hy]; omega), show absI 0 = 0 from by decide, absI_neg hy]
  have e1 : atanI y 0 = normI (-(32400000 - topI (-y) 0)) := by unfold atanI; rw [if_pos (by omega), if_neg (by omega), eq1]
  have E1 := Lib.hid e1
  clear eq1 e1
  have ok0 := Lib.hid (okI_0 (m := (-y)) (n := 0) (by omega))
  have g4 : (y == 0) = false := by simp; omega
  have g2 : decide (y < 0) = true := by simp; omega
  go_enter Tryd.func45, Tryd.ntmps45
  go_wp2_with (go_at_call 71; refine (outside_ref _ _ (by omega) (by omega)).mono ?_; rintro e w' ⟨rfl, rfl⟩)
  go_loop [10, 11] (TopRel (-y) 0) (fun a b => (intOf b - intOf a).toNat)
  case atStart => exact ⟨0, 16200001, rfl, rfl, by decide, by decide, by decide, ok0.out, (fun h => absurd h (by decide) : (16200001 : Int) ≤ 16200000 → ¬ okI (-y) 0 16200001)⟩
  case round =>
    obtain ⟨c, above, rfl, rfl, c0, c1, c2, hyes, hno⟩ := hrel
    by_cases hgo : 1 < above - c
    · obtain ⟨s1, s2⟩ := sinI_range ((c + above) / 2)
      obtain ⟨s3, s4⟩ := cosI_range ((c + above) / 2)
      obtain ⟨p1, p2⟩ := prod_bd s1 s2 (m := (-y)) (by omega) (by omega)
      obtain ⟨p3, p4⟩ := prod_bd s3 s4 (m := 0) (by omega) (by omega)
      by_cases hok : sinI ((c + above) / 2) * (-y) ≤ cosI ((c + above) / 2) * 0
      · go_wp2_with (first
          | (go_at_call 52; refine (sin_ref _ _ (by omega) (by omega)).mono ?_; rintro e w' ⟨rfl, rfl⟩)
          | (go_at_call 53; refine (cos_ref _ _ (by omega) (by omega)).mono ?_; rintro e w' ⟨rfl, rfl⟩))
        go_round
        case rel => exact ⟨(c + above) / 2, above, rfl, rfl, by omega, by omega, c2, hok, hno⟩
        case measure => simp [intOf]; omega
      · go_wp2_with (first
          | (go_at_call 52; refine (sin_ref _ _ (by omega) (by omega)).mono ?_; rintro e w' ⟨rfl, rfl⟩)
          | (go_at_call 53; refine (cos_ref _ _ (by omega) (by omega)).mono ?_; rintro e w' ⟨rfl, rfl⟩))
        go_round
        case rel => exact ⟨c, (c + above) / 2, rfl, rfl, c0, by omega, by omega, hyes, (fun _ h => absurd h (Int.not_le.2 hok) : (c + above) / 2 ≤ 16200000 → ¬ okI (-y) 0 ((c + above) / 2))⟩
        case measure => simp [intOf]; omega
    · obtain rfl := toprel_end (by omega) (by omega) c0 c1 c2 (by omega) hyes.out hno.out
      go_wp2_with (go_at_call 72; refine (norm_ref _ _ (by omega) (by omega)).mono ?_; rintro e w' ⟨rfl, rfl⟩)
      go_ret2
      refine ⟨?_, rfl⟩
      rw [E1.out]
      rfl

set_option maxHeartbeats 1000000 in
theorem atan2r_c9 (y x : Int) (w : World) (h0 : -2147483647 ≤ x) (h1 : x ≤ 2147483647) (h2 : -2147483647 ≤ y) (h3 : y ≤ 2147483647) (hx : x = 0) (hy : 0 < y) (hc : 0 < y) :
    Calls Tryd.prog 45 #[.int .i64 y, .int .i64 x] w (AtanRefPost y x w) := by
  subst hx
  obtain ⟨t0, t1⟩ := top_bd (m := y) (n := 0) (by omega) (by omega)
  obtain ⟨r0, r1⟩ := normI_range (-(32400000 - topI y 0))
  have eq1 : atanQ y 0 = 32400000 - topI y 0 := by
    rw [← atanQ_lt (y := y) (x := 0) (by rw [show absI 0 = 0 from by decide, absI_pos (x := y) (by omega)]; omega), show absI 0 = 0 from by decide, absI_pos (x := y) (by omega)]
  have e1 : atanI y 0 = (32400000 - topI y 0) := by unfold atanI; rw [if_pos (by omega), if_pos (by omega), eq1]
  have E1 := Lib.hid e1
  clear eq1 e1
  have ok0 := Lib.hid (okI_0 (m := y) (n := 0) (by omega))
  have g4 : (y == 0) = false := by simp; omega
  have g2 : decide (y < 0) = false := by simp; omega
  go_enter Tryd.func45, Tryd.ntmps45
  go_wp2_with (go_at_call 71; refine (outside_ref _ _ (by omega) (by omega)).mono ?_; rintro e w' ⟨rfl, rfl⟩)
  go_loop [10, 11] (TopRel y 0) (fun a b => (intOf b - intOf a).toNat)
  case atStart => exact ⟨0, 16200001, rfl, rfl, by decide, by decide, by decide, ok0.out, (fun h => absurd h (by decide) : (16200001 : Int) ≤ 16200000 → ¬ okI y 0 16200001)⟩
  case round =>
    obtain ⟨c, above, rfl, rfl, c0, c1, c2, hyes, hno⟩ := hrel
    by_cases hgo : 1 < above - c
    · obtain ⟨s1, s2⟩ := sinI_range ((c + above) / 2)
      obtain ⟨s3, s4⟩ := cosI_range ((c + above) / 2)
      obtain ⟨p1, p2⟩ := prod_bd s1 s2 (m := y) (by omega) (by omega)
      obtain ⟨p3, p4⟩ := prod_bd s3 s4 (m := 0) (by omega) (by omega)
      by_cases hok : sinI ((c + above) / 2) * y ≤ cosI ((c + above) / 2) * 0
      · go_wp2_with (first
          | (go_at_call 52; refine (sin_ref _ _ (by omega) (by omega)).mono ?_; rintro e w' ⟨rfl, rfl⟩)
          | (go_at_call 53; refine (cos_ref _ _ (by omega) (by omega)).mono ?_; rintro e w' ⟨rfl, rfl⟩))
        go_round
        case rel => exact ⟨(c + above) / 2, above, rfl, rfl, by omega, by omega, c2, hok, hno⟩
        case measure => simp [intOf]; omega
      · go_wp2_with (first
          | (go_at_call 52; refine (sin_ref _ _ (by omega) (by omega)).mono ?_; rintro e w' ⟨rfl, rfl⟩)
          | (go_at_call 53; refine (cos_ref _ _ (by omega) (by omega)).mono ?_; rintro e w' ⟨rfl, rfl⟩))
        go_round
        case rel => exact ⟨c, (c + above) / 2, rfl, rfl, c0, by omega, by omega, hyes, (fun _ h => absurd h (Int.not_le.2 hok) : (c + above) / 2 ≤ 16200000 → ¬ okI y 0 ((c + above) / 2))⟩
        case measure => simp [intOf]; omega
    · obtain rfl := toprel_end (by omega) (by omega) c0 c1 c2 (by omega) hyes.out hno.out
      go_wp2_with (go_at_call 72; refine (norm_ref _ _ (by omega) (by omega)).mono ?_; rintro e w' ⟨rfl, rfl⟩)
      go_ret2
      refine ⟨?_, rfl⟩
      rw [E1.out]
      rfl

set_option maxHeartbeats 1000000 in
theorem atan2r_c10 (y x : Int) (w : World) (h0 : -2147483647 ≤ x) (h1 : x ≤ 2147483647) (h2 : -2147483647 ≤ y) (h3 : y ≤ 2147483647) (hx : 0 < x) (hy : y < 0) (hc : x < (-y)) :
    Calls Tryd.prog 45 #[.int .i64 y, .int .i64 x] w (AtanRefPost y x w) := by
  obtain ⟨t0, t1⟩ := top_bd (m := (-y)) (n := x) (by omega) (by omega)
  obtain ⟨r0, r1⟩ := normI_range (-(32400000 - topI (-y) x))
  have eq1 : atanQ y x = 32400000 - topI (-y) x := by
    rw [← atanQ_lt (y := y) (x := x) (by rw [absI_pos (x := x) (by omega), absI_neg hy]; omega), absI_pos (x := x) (by omega), absI_neg hy]
  have e1 : atanI y x = normI (-(32400000 - topI (-y) x)) := by unfold atanI; rw [if_pos (by omega), if_neg (by omega), eq1]
  have E1 := Lib.hid e1
  clear eq1 e1
  have ok0 := Lib.hid (okI_0 (m := (-y)) (n := x) (by omega))
  have g3 : (x == 0) = false := by simp; omega
  have g4 : (y == 0) = false := by simp; omega
  have g1 : decide (x < 0) = false := by simp; omega
  have g2 : decide (y < 0) = true := by simp; omega
  go_enter Tryd.func45, Tryd.ntmps45
  go_wp2_with (go_at_call 71; refine (outside_ref _ _ (by omega) (by omega)).mono ?_; rintro e w' ⟨rfl, rfl⟩)
  go_loop [10, 11] (TopRel (-y) x) (fun a b => (intOf b - intOf a).toNat)
  case atStart => exact ⟨0, 16200001, rfl, rfl, by decide, by decide, by decide, ok0.out, (fun h => absurd h (by decide) : (16200001 : Int) ≤ 16200000 → ¬ okI (-y) x 16200001)⟩
  case round =>
    obtain ⟨c, above, rfl, rfl, c0, c1, c2, hyes, hno⟩ := hrel
    by_cases hgo : 1 < above - c
    · obtain ⟨s1, s2⟩ := sinI_range ((c + above) / 2)
      obtain ⟨s3, s4⟩ := cosI_range ((c + above) / 2)
      obtain ⟨p1, p2⟩ := prod_bd s1 s2 (m := (-y)) (by omega) (by omega)
      obtain ⟨p3, p4⟩ := prod_bd s3 s4 (m := x) (by omega) (by omega)
      by_cases hok : sinI ((c + above) / 2) * (-y) ≤ cosI ((c + above) / 2) * x
      · go_wp2_with (first
          | (go_at_call 52; refine (sin_ref _ _ (by omega) (by omega)).mono ?_; rintro e w' ⟨rfl, rfl⟩)
          | (go_at_call 53; refine (cos_ref _ _ (by omega) (by omega)).mono ?_; rintro e w' ⟨rfl, rfl⟩))
        go_round
        case rel => exact ⟨(c + above) / 2, above, rfl, rfl, by omega, by omega, c2, hok, hno⟩
        case measure => simp [intOf]; omega
      · go_wp2_with (first
          | (go_at_call 52; refine (sin_ref _ _ (by omega) (by omega)).mono ?_; rintro e w' ⟨rfl, rfl⟩)
          | (go_at_call 53; refine (cos_ref _ _ (by omega) (by omega)).mono ?_; rintro e w' ⟨rfl, rfl⟩))
        go_round
        case rel => exact ⟨c, (c + above) / 2, rfl, rfl, c0, by omega, by omega, hyes, (fun _ h => absurd h (Int.not_le.2 hok) : (c + above) / 2 ≤ 16200000 → ¬ okI (-y) x ((c + above) / 2))⟩
        case measure => simp [intOf]; omega
    · obtain rfl := toprel_end (by omega) (by omega) c0 c1 c2 (by omega) hyes.out hno.out
      go_wp2_with (go_at_call 72; refine (norm_ref _ _ (by omega) (by omega)).mono ?_; rintro e w' ⟨rfl, rfl⟩)
      go_ret2
      refine ⟨?_, rfl⟩
      rw [E1.out]
      rfl

set_option maxHeartbeats 1000000 in
theorem atan2r_c11 (y x : Int) (w : World) (h0 : -2147483647 ≤ x) (h1 : x ≤ 2147483647) (h2 : -2147483647 ≤ y) (h3 : y ≤ 2147483647) (hx : 0 < x) (hy : y < 0) (hc : (-y) < x) :
    Calls Tryd.prog 45 #[.int .i64 y, .int .i64 x] w (AtanRefPost y x w) := by
  obtain ⟨t0, t1⟩ := top_bd (m := x) (n := (-y)) (by omega) (by omega)
  obtain ⟨r0, r1⟩ := normI_range (-(topI x (-y)))
  have eq1 : atanQ y x = topI x (-y) := by
    rw [← atanQ_ge (y := y) (x := x) (by rw [absI_pos (x := x) (by omega), absI_neg hy]; omega), absI_pos (x := x) (by omega), absI_neg hy]
  have e1 : atanI y x = normI (-(topI x (-y))) := by unfold atanI; rw [if_pos (by omega), if_neg (by omega), eq1]
  have E1 := Lib.hid e1
  clear eq1 e1
  have ok0 := Lib.hid (okI_0 (m := x) (n := (-y)) (by omega))
  have g3 : (x == 0) = false := by simp; omega
  have g4 : (y == 0) = false := by simp; omega
  have g1 : decide (x < 0) = false := by simp; omega
  have g2 : decide (y < 0) = true := by simp; omega
  go_enter Tryd.func45, Tryd.ntmps45
  go_wp2_with (go_at_call 71; refine (outside_ref _ _ (by omega) (by omega)).mono ?_; rintro e w' ⟨rfl, rfl⟩)
  go_loop [10, 11] (TopRel x (-y)) (fun a b => (intOf b - intOf a).toNat)
  case atStart => exact ⟨0, 16200001, rfl, rfl, by decide, by decide, by decide, ok0.out, (fun h => absurd h (by decide) : (16200001 : Int) ≤ 16200000 → ¬ okI x (-y) 16200001)⟩
  case round =>
    obtain ⟨c, above, rfl, rfl, c0, c1, c2, hyes, hno⟩ := hrel
    by_cases hgo : 1 < above - c
    · obtain ⟨s1, s2⟩ := sinI_range ((c + above) / 2)
      obtain ⟨s3, s4⟩ := cosI_range ((c + above) / 2)
      obtain ⟨p1, p2⟩ := prod_bd s1 s2 (m := x) (by omega) (by omega)
      obtain ⟨p3, p4⟩ := prod_bd s3 s4 (m := (-y)) (by omega) (by omega)
      by_cases hok : sinI ((c + above) / 2) * x ≤ cosI ((c + above) / 2) * (-y)
      · go_wp2_with (first
          | (go_at_call 52; refine (sin_ref _ _ (by omega) (by omega)).mono ?_; rintro e w' ⟨rfl, rfl⟩)
          | (go_at_call 53; refine (cos_ref _ _ (by omega) (by omega)).mono ?_; rintro e w' ⟨rfl, rfl⟩))
        go_round
        case rel => exact ⟨(c + above) / 2, above, rfl, rfl, by omega, by omega, c2, hok, hno⟩
        case measure => simp [intOf]; omega
      · go_wp2_with (first
          | (go_at_call 52; refine (sin_ref _ _ (by omega) (by omega)).mono ?_; rintro e w' ⟨rfl, rfl⟩)
          | (go_at_call 53; refine (cos_ref _ _ (by omega) (by omega)).mono ?_; rintro e w' ⟨rfl, rfl⟩))
        go_round
        case rel => exact ⟨c, (c + above) / 2, rfl, rfl, c0, by omega, by omega, hyes, (fun _ h => absurd h (Int.not_le.2 hok) : (c + above) / 2 ≤ 16200000 → ¬ okI x (-y) ((c + above) / 2))⟩
        case measure => simp [intOf]; omega
    · obtain rfl := toprel_end (by omega) (by omega) c0 c1 c2 (by omega) hyes.out hno.out
      go_wp2_with (go_at_call 72; refine (norm_ref _ _ (by omega) (by omega)).mono ?_; rintro e w' ⟨rfl, rfl⟩)
      go_ret2
      refine ⟨?_, rfl⟩
      rw [E1.out]
      rfl

set_option maxHeartbeats 1000000 in
theorem atan2r_c12 (y x : Int) (w : World) (h0 : -2147483647 ≤ x) (h1 : x ≤ 2147483647) (h2 : -2147483647 ≤ y) (h3 : y ≤ 2147483647) (hx : 0 < x) (hy : y < 0) (hc : (-y) ≤ x ∧ x ≤ (-y)) :
    Calls Tryd.prog 45 #[.int .i64 y, .int .i64 x] w (AtanRefPost y x w) := by
  obtain ⟨hc1, hc2⟩ := hc
  obtain rfl : x = -y := by omega
  clear hc1 hc2
  obtain ⟨t0, t1⟩ := top_bd (m := (-y)) (n := (-y)) (by omega) (by omega)
  obtain ⟨r0, r1⟩ := normI_range (-(topI (-y) (-y)))
  have eq1 : atanQ y (-y) = topI (-y) (-y) := by
    have e1 : absI (-y) = (-y) := by unfold absI; split <;> omega
    have e2 : absI y = (-y) := by unfold absI; split <;> omega
    rw [← atanQ_ge (y := y) (x := (-y)) (by omega), e1, e2]
  have e1 : atanI y (-y) = normI (-(topI (-y) (-y))) := by unfold atanI; rw [if_pos (by omega), if_neg (by omega), eq1]
  have E1 := Lib.hid e1
  clear eq1 e1
  have ok0 := Lib.hid (okI_0 (m := (-y)) (n := (-y)) (by omega))
  have g3 : ((-y) == 0) = false := by simp; omega
  have g4 : (y == 0) = false := by simp; omega
  have g1 : decide ((-y) < 0) = false := by simp; omega
  have g2 : decide (y < 0) = true := by simp; omega
  go_enter Tryd.func45, Tryd.ntmps45
  go_wp2_with (go_at_call 71; refine (outside_ref _ _ (by omega) (by omega)).mono ?_; rintro e w' ⟨rfl, rfl⟩)
  go_loop [10, 11] (TopRel (-y) (-y)) (fun a b => (intOf b - intOf a).toNat)
  case atStart => exact ⟨0, 16200001, rfl, rfl, by decide, by decide, by decide, ok0.out, (fun h => absurd h (by decide) : (16200001 : Int) ≤ 16200000 → ¬ okI (-y) (-y) 16200001)⟩
  case round =>
    obtain ⟨c, above, rfl, rfl, c0, c1, c2, hyes, hno⟩ := hrel
    by_cases hgo : 1 < above - c
    · obtain ⟨s1, s2⟩ := sinI_range ((c + above) / 2)
      obtain ⟨s3, s4⟩ := cosI_range ((c + above) / 2)
      obtain ⟨p1, p2⟩ := prod_bd s1 s2 (m := (-y)) (by omega) (by omega)
      obtain ⟨p3, p4⟩ := prod_bd s3 s4 (m := (-y)) (by omega) (by omega)
      by_cases hok : sinI ((c + above) / 2) ≤ cosI ((c + above) / 2)
      · go_wp2_with (first
          | (go_at_call 52; refine (sin_ref _ _ (by omega) (by omega)).mono ?_; rintro e w' ⟨rfl, rfl⟩)
          | (go_at_call 53; refine (cos_ref _ _ (by omega) (by omega)).mono ?_; rintro e w' ⟨rfl, rfl⟩))
        go_round
        case rel => exact ⟨(c + above) / 2, above, rfl, rfl, by omega, by omega, c2, (Int.mul_le_mul_of_nonneg_right hok (by omega) : okI (-y) (-y) ((c + above) / 2)), hno⟩
        case measure => simp [intOf]; omega
      · go_wp2_with (first
          | (go_at_call 52; refine (sin_ref _ _ (by omega) (by omega)).mono ?_; rintro e w' ⟨rfl, rfl⟩)
          | (go_at_call 53; refine (cos_ref _ _ (by omega) (by omega)).mono ?_; rintro e w' ⟨rfl, rfl⟩))
        go_round
        case rel => exact ⟨c, (c + above) / 2, rfl, rfl, c0, by omega, by omega, hyes, (fun _ h => absurd (Int.le_of_mul_le_mul_right h (by omega)) (Int.not_le.2 hok) : (c + above) / 2 ≤ 16200000 → ¬ okI (-y) (-y) ((c + above) / 2))⟩
        case measure => simp [intOf]; omega
    · obtain rfl := toprel_end (by omega) (by omega) c0 c1 c2 (by omega) hyes.out hno.out
      go_wp2_with (go_at_call 72; refine (norm_ref _ _ (by omega) (by omega)).mono ?_; rintro e w' ⟨rfl, rfl⟩)
      go_ret2
      refine ⟨?_, rfl⟩
      rw [E1.out]
      rfl

set_option maxHeartbeats 1000000 in
theorem atan2r_c13 (y x : Int) (w : World) (h0 : -2147483647 ≤ x) (h1 : x ≤ 2147483647) (h2 : -2147483647 ≤ y) (h3 : y ≤ 2147483647) (hx : 0 < x) (hy : y = 0) (hc : 0 < x) :
    Calls Tryd.prog 45 #[.int .i64 y, .int .i64 x] w (AtanRefPost y x w) := by
  subst hy
  obtain ⟨t0, t1⟩ := top_bd (m := x) (n := 0) (by omega) (by omega)
  obtain ⟨r0, r1⟩ := normI_range (-(topI x 0))
  have eq1 : atanQ 0 x = topI x 0 := by
    rw [← atanQ_ge (y := 0) (x := x) (by rw [absI_pos (x := x) (by omega), show absI 0 = 0 from by decide]; omega), absI_pos (x := x) (by omega), show absI 0 = 0 from by decide]
  have e1 : atanI 0 x = (topI x 0) := by unfold atanI; rw [if_pos (by omega), if_pos (by omega), eq1]
  have E1 := Lib.hid e1
  clear eq1 e1
  have ok0 := Lib.hid (okI_0 (m := x) (n := 0) (by omega))
  have g3 : (x == 0) = false := by simp; omega
  have g1 : decide (x < 0) = false := by simp; omega
  go_enter Tryd.func45, Tryd.ntmps45
  go_wp2_with (go_at_call 71; refine (outside_ref _ _ (by omega) (by omega)).mono ?_; rintro e w' ⟨rfl, rfl⟩)
  go_loop [10, 11] (TopRel x 0) (fun a b => (intOf b - intOf a).toNat)
  case atStart => exact ⟨0, 16200001, rfl, rfl, by decide, by decide, by decide, ok0.out, (fun h => absurd h (by decide) : (16200001 : Int) ≤ 16200000 → ¬ okI x 0 16200001)⟩
  case round =>
    obtain ⟨c, above, rfl, rfl, c0, c1, c2, hyes, hno⟩ := hrel
    by_cases hgo : 1 < above - c
    · obtain ⟨s1, s2⟩ := sinI_range ((c + above) / 2)
      obtain ⟨s3, s4⟩ := cosI_range ((c + above) / 2)
      obtain ⟨p1, p2⟩ := prod_bd s1 s2 (m := x) (by omega) (by omega)
      obtain ⟨p3, p4⟩ := prod_bd s3 s4 (m := 0) (by omega) (by omega)
      by_cases hok : sinI ((c + above) / 2) * x ≤ cosI ((c + above) / 2) * 0
      · go_wp2_with (first
          | (go_at_call 52; refine (sin_ref _ _ (by omega) (by omega)).mono ?_; rintro e w' ⟨rfl, rfl⟩)
          | (go_at_call 53; refine (cos_ref _ _ (by omega) (by omega)).mono ?_; rintro e w' ⟨rfl, rfl⟩))
        go_round
        case rel => exact ⟨(c + above) / 2, above, rfl, rfl, by omega, by omega, c2, hok, hno⟩
        case measure => simp [intOf]; omega
      · go_wp2_with (first
          | (go_at_call 52; refine (sin_ref _ _ (by omega) (by omega)).mono ?_; rintro e w' ⟨rfl, rfl⟩)
          | (go_at_call 53; refine (cos_ref _ _ (by omega) (by omega)).mono ?_; rintro e w' ⟨rfl, rfl⟩))
        go_round
        case rel => exact ⟨c, (c + above) / 2, rfl, rfl, c0, by omega, by omega, hyes, (fun _ h => absurd h (Int.not_le.2 hok) : (c + above) / 2 ≤ 16200000 → ¬ okI x 0 ((c + above) / 2))⟩
        case measure => simp [intOf]; omega
    · obtain rfl := toprel_end (by omega) (by omega) c0 c1 c2 (by omega) hyes.out hno.out
      go_wp2_with (go_at_call 72; refine (norm_ref _ _ (by omega) (by omega)).mono ?_; rintro e w' ⟨rfl, rfl⟩)
      go_ret2
      refine ⟨?_, rfl⟩
      rw [E1.out]
      rfl

set_option maxHeartbeats 1000000 in
theorem atan2r_c14 (y x : Int) (w : World) (h0 : -2147483647 ≤ x) (h1 : x ≤ 2147483647) (h2 : -2147483647 ≤ y) (h3 : y ≤ 2147483647) (hx : 0 < x) (hy : 0 < y) (hc : x < y) :
    Calls Tryd.prog 45 #[.int .i64 y, .int .i64 x] w (AtanRefPost y x w) := by
  obtain ⟨t0, t1⟩ := top_bd (m := y) (n := x) (by omega) (by omega)
  obtain ⟨r0, r1⟩ := normI_range (-(32400000 - topI y x))
  have eq1 : atanQ y x = 32400000 - topI y x := by
    rw [← atanQ_lt (y := y) (x := x) (by rw [absI_pos (x := x) (by omega), absI_pos (x := y) (by omega)]; omega), absI_pos (x := x) (by omega), absI_pos (x := y) (by omega)]
  have e1 : atanI y x = (32400000 - topI y x) := by unfold atanI; rw [if_pos (by omega), if_pos (by omega), eq1]
  have E1 := Lib.hid e1
  clear eq1 e1
  have ok0 := Lib.hid (okI_0 (m := y) (n := x) (by omega))
  have g3 : (x == 0) = false := by simp; omega
  have g4 : (y == 0) = false := by simp; omega
  have g1 : decide (x < 0) = false := by simp; omega
  have g2 : decide (y < 0) = false := by simp; omega
  go_enter Tryd.func45, Tryd.ntmps45
  go_wp2_with (go_at_call 71; refine (outside_ref _ _ (by omega) (by omega)).mono ?_; rintro e w' ⟨rfl, rfl⟩)
  go_loop [10, 11] (TopRel y x) (fun a b => (intOf b - intOf a).toNat)
  case atStart => exact ⟨0, 16200001, rfl, rfl, by decide, by decide, by decide, ok0.out, (fun h => absurd h (by decide) : (16200001 : Int) ≤ 16200000 → ¬ okI y x 16200001)⟩
  case round =>
    obtain ⟨c, above, rfl, rfl, c0, c1, c2, hyes, hno⟩ := hrel
    by_cases hgo : 1 < above - c
    · obtain ⟨s1, s2⟩ := sinI_range ((c + above) / 2)
      obtain ⟨s3, s4⟩ := cosI_range ((c + above) / 2)
      obtain ⟨p1, p2⟩ := prod_bd s1 s2 (m := y) (by omega) (by omega)
      obtain ⟨p3, p4⟩ := prod_bd s3 s4 (m := x) (by omega) (by omega)
      by_cases hok : sinI ((c + above) / 2) * y ≤ cosI ((c + above) / 2) * x
      · go_wp2_with (first
          | (go_at_call 52; refine (sin_ref _ _ (by omega) (by omega)).mono ?_; rintro e w' ⟨rfl, rfl⟩)
          | (go_at_call 53; refine (cos_ref _ _ (by omega) (by omega)).mono ?_; rintro e w' ⟨rfl, rfl⟩))
        go_round
        case rel => exact ⟨(c + above) / 2, above, rfl, rfl, by omega, by omega, c2, hok, hno⟩
        case measure => simp [intOf]; omega
      · go_wp2_with (first
          | (go_at_call 52; refine (sin_ref _ _ (by omega) (by omega)).mono ?_; rintro e w' ⟨rfl, rfl⟩)
          | (go_at_call 53; refine (cos_ref _ _ (by omega) (by omega)).mono ?_; rintro e w' ⟨rfl, rfl⟩))
        go_round
        case rel => exact ⟨c, (c + above) / 2, rfl, rfl, c0, by omega, by omega, hyes, (fun _ h => absurd h (Int.not_le.2 hok) : (c + above) / 2 ≤ 16200000 → ¬ okI y x ((c + above) / 2))⟩
        case measure => simp [intOf]; omega
    · obtain rfl := toprel_end (by omega) (by omega) c0 c1 c2 (by omega) hyes.out hno.out
      go_wp2_with (go_at_call 72; refine (norm_ref _ _ (by omega) (by omega)).mono ?_; rintro e w' ⟨rfl, rfl⟩)
      go_ret2
      refine ⟨?_, rfl⟩
      rw [E1.out]
      rfl

set_option maxHeartbeats 1000000 in
theorem atan2r_c15 (y x : Int) (w : World) (h0 : -2147483647 ≤ x) (h1 : x ≤ 2147483647) (h2 : -2147483647 ≤ y) (h3 : y ≤ 2147483647) (hx : 0 < x) (hy : 0 < y) (hc : y < x) :
    Calls Tryd.prog 45 #[.int .i64 y, .int .i64 x] w (AtanRefPost y x w) := by
  obtain ⟨t0, t1⟩ := top_bd (m := x) (n := y) (by omega) (by omega)
  obtain ⟨r0, r1⟩ := normI_range (-(topI x y))
  have eq1 : atanQ y x = topI x y := by
    rw [← atanQ_ge (y := y) (x := x) (by rw [absI_pos (x := x) (by omega), absI_pos (x := y) (by omega)]; omega), absI_pos (x := x) (by omega), absI_pos (x := y) (by omega)]
  have e1 : atanI y x = (topI x y) := by unfold atanI; rw [if_pos (by omega), if_pos (by omega), eq1]
  have E1 := Lib.hid e1
  clear eq1 e1
  have ok0 := Lib.hid (okI_0 (m := x) (n := y) (by omega))
  have g3 : (x == 0) = false := by simp; omega
  have g4 : (y == 0) = false := by simp; omega
  have g1 : decide (x < 0) = false := by simp; omega
  have g2 : decide (y < 0) = false := by simp; omega
  go_enter Tryd.func45, Tryd.ntmps45
  go_wp2_with (go_at_call 71; refine (outside_ref _ _ (by omega) (by omega)).mono ?_; rintro e w' ⟨rfl, rfl⟩)
  go_loop [10, 11] (TopRel x y) (fun a b => (intOf b - intOf a).toNat)
  case atStart => exact ⟨0, 16200001, rfl, rfl, by decide, by decide, by decide, ok0.out, (fun h => absurd h (by decide) : (16200001 : Int) ≤ 16200000 → ¬ okI x y 16200001)⟩
  case round =>
    obtain ⟨c, above, rfl, rfl, c0, c1, c2, hyes, hno⟩ := hrel
    by_cases hgo : 1 < above - c
    · obtain ⟨s1, s2⟩ := sinI_range ((c + above) / 2)
      obtain ⟨s3, s4⟩ := cosI_range ((c + above) / 2)
      obtain ⟨p1, p2⟩ := prod_bd s1 s2 (m := x) (by omega) (by omega)
      obtain ⟨p3, p4⟩ := prod_bd s3 s4 (m := y) (by omega) (by omega)
      by_cases hok : sinI ((c + above) / 2) * x ≤ cosI ((c + above) / 2) * y
      · go_wp2_with (first
          | (go_at_call 52; refine (sin_ref _ _ (by omega) (by omega)).mono ?_; rintro e w' ⟨rfl, rfl⟩)
          | (go_at_call 53; refine (cos_ref _ _ (by omega) (by omega)).mono ?_; rintro e w' ⟨rfl, rfl⟩))
        go_round
        case rel => exact ⟨(c + above) / 2, above, rfl, rfl, by omega, by omega, c2, hok, hno⟩
        case measure => simp [intOf]; omega
      · go_wp2_with (first
          | (go_at_call 52; refine (sin_ref _ _ (by omega) (by omega)).mono ?_; rintro e w' ⟨rfl, rfl⟩)
          | (go_at_call 53; refine (cos_ref _ _ (by omega) (by omega)).mono ?_; rintro e w' ⟨rfl, rfl⟩))
        go_round
        case rel => exact ⟨c, (c + above) / 2, rfl, rfl, c0, by omega, by omega, hyes, (fun _ h => absurd h (Int.not_le.2 hok) : (c + above) / 2 ≤ 16200000 → ¬ okI x y ((c + above) / 2))⟩
        case measure => simp [intOf]; omega
    · obtain rfl := toprel_end (by omega) (by omega) c0 c1 c2 (by omega) hyes.out hno.out
      go_wp2_with (go_at_call 72; refine (norm_ref _ _ (by omega) (by omega)).mono ?_; rintro e w' ⟨rfl, rfl⟩)
      go_ret2
      refine ⟨?_, rfl⟩
      rw [E1.out]
      rfl

set_option maxHeartbeats 1000000 in
theorem atan2r_c16 (y x : Int) (w : World) (h0 : -2147483647 ≤ x) (h1 : x ≤ 2147483647) (h2 : -2147483647 ≤ y) (h3 : y ≤ 2147483647) (hx : 0 < x) (hy : 0 < y) (hc : y ≤ x ∧ x ≤ y) :
    Calls Tryd.prog 45 #[.int .i64 y, .int .i64 x] w (AtanRefPost y x w) := by
  obtain ⟨hc1, hc2⟩ := hc
  obtain rfl : x = y := by omega
  clear hc1 hc2
  obtain ⟨t0, t1⟩ := top_bd (m := x) (n := x) (by omega) (by omega)
  obtain ⟨r0, r1⟩ := normI_range (-(topI x x))
  have eq1 : atanQ x x = topI x x := by
    have e1 : absI x = x := by unfold absI; split <;> omega
    have e2 : absI x = x := by unfold absI; split <;> omega
    rw [← atanQ_ge (y := x) (x := x) (by omega), e1]
  have e1 : atanI x x = (topI x x) := by unfold atanI; rw [if_pos (by omega), if_pos (by omega), eq1]
  have E1 := Lib.hid e1
  clear eq1 e1
  have ok0 := Lib.hid (okI_0 (m := x) (n := x) (by omega))
  have g3 : (x == 0) = false := by simp; omega
  have g4 : (x == 0) = false := by simp; omega
  have g1 : decide (x < 0) = false := by simp; omega
  have g2 : decide (x < 0) = false := by simp; omega
  go_enter Tryd.func45, Tryd.ntmps45
  go_wp2_with (go_at_call 71; refine (outside_ref _ _ (by omega) (by omega)).mono ?_; rintro e w' ⟨rfl, rfl⟩)
  go_loop [10, 11] (TopRel x x) (fun a b => (intOf b - intOf a).toNat)
  case atStart => exact ⟨0, 16200001, rfl, rfl, by decide, by decide, by decide, ok0.out, (fun h => absurd h (by decide) : (16200001 : Int) ≤ 16200000 → ¬ okI x x 16200001)⟩
  case round =>
    obtain ⟨c, above, rfl, rfl, c0, c1, c2, hyes, hno⟩ := hrel
    by_cases hgo : 1 < above - c
    · obtain ⟨s1, s2⟩ := sinI_range ((c + above) / 2)
      obtain ⟨s3, s4⟩ := cosI_range ((c + above) / 2)
      obtain ⟨p1, p2⟩ := prod_bd s1 s2 (m := x) (by omega) (by omega)
      obtain ⟨p3, p4⟩ := prod_bd s3 s4 (m := x) (by omega) (by omega)
      by_cases hok : sinI ((c + above) / 2) ≤ cosI ((c + above) / 2)
      · go_wp2_with (first
          | (go_at_call 52; refine (sin_ref _ _ (by omega) (by omega)).mono ?_; rintro e w' ⟨rfl, rfl⟩)
          | (go_at_call 53; refine (cos_ref _ _ (by omega) (by omega)).mono ?_; rintro e w' ⟨rfl, rfl⟩))
        go_round
        case rel => exact ⟨(c + above) / 2, above, rfl, rfl, by omega, by omega, c2, (Int.mul_le_mul_of_nonneg_right hok (by omega) : okI x x ((c + above) / 2)), hno⟩
        case measure => simp [intOf]; omega
      · go_wp2_with (first
          | (go_at_call 52; refine (sin_ref _ _ (by omega) (by omega)).mono ?_; rintro e w' ⟨rfl, rfl⟩)
          | (go_at_call 53; refine (cos_ref _ _ (by omega) (by omega)).mono ?_; rintro e w' ⟨rfl, rfl⟩))
        go_round
        case rel => exact ⟨c, (c + above) / 2, rfl, rfl, c0, by omega, by omega, hyes, (fun _ h => absurd (Int.le_of_mul_le_mul_right h (by omega)) (Int.not_le.2 hok) : (c + above) / 2 ≤ 16200000 → ¬ okI x x ((c + above) / 2))⟩
        case measure => simp [intOf]; omega
    · obtain rfl := toprel_end (by omega) (by omega) c0 c1 c2 (by omega) hyes.out hno.out
      go_wp2_with (go_at_call 72; refine (norm_ref _ _ (by omega) (by omega)).mono ?_; rintro e w' ⟨rfl, rfl⟩)
      go_ret2
      refine ⟨?_, rfl⟩
      rw [E1.out]
      rfl

theorem atan2_ref (y x : Int) (w : World) (h0 : -2147483647 ≤ x) (h1 : x ≤ 2147483647) (h2 : -2147483647 ≤ y) (h3 : y ≤ 2147483647) (hne : x ≠ 0 ∨ y ≠ 0) :
    Calls Tryd.prog 45 #[.int .i64 y, .int .i64 x] w (AtanRefPost y x w) := by
  rcases Int.lt_trichotomy x 0 with hx | hx | hx <;> rcases Int.lt_trichotomy y 0 with hy | hy | hy
  · rcases lt3 (-x) (-y) with hc | hc | hc
    · exact atan2r_c1 y x w h0 h1 h2 h3 hx hy hc
    · exact atan2r_c2 y x w h0 h1 h2 h3 hx hy hc
    · exact atan2r_c3 y x w h0 h1 h2 h3 hx hy hc
  · exact atan2r_c4 y x w h0 h1 h2 h3 hx hy (by omega)
  · rcases lt3 (-x) y with hc | hc | hc
    · exact atan2r_c5 y x w h0 h1 h2 h3 hx hy hc
    · exact atan2r_c6 y x w h0 h1 h2 h3 hx hy hc
    · exact atan2r_c7 y x w h0 h1 h2 h3 hx hy hc
  · exact atan2r_c8 y x w h0 h1 h2 h3 hx hy (by omega)
  · omega
  · exact atan2r_c9 y x w h0 h1 h2 h3 hx hy (by omega)
  · rcases lt3 x (-y) with hc | hc | hc
    · exact atan2r_c10 y x w h0 h1 h2 h3 hx hy hc
    · exact atan2r_c11 y x w h0 h1 h2 h3 hx hy hc
    · exact atan2r_c12 y x w h0 h1 h2 h3 hx hy hc
  · exact atan2r_c13 y x w h0 h1 h2 h3 hx hy (by omega)
  · rcases lt3 x y with hc | hc | hc
    · exact atan2r_c14 y x w h0 h1 h2 h3 hx hy hc
    · exact atan2r_c15 y x w h0 h1 h2 h3 hx hy hc
    · exact atan2r_c16 y x w h0 h1 h2 h3 hx hy hc
end Go.Proofs.YtdfpbojlimeccaaDoor
