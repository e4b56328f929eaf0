/-
  The walks of trig.Atan2 and Hypot, and of the integer root of layer 1. (Written by a small program: gen_atan.py.)
-/
import Derived.Test.YtdfpbojlimeccaaDoorAtanTwo
namespace Go.Proofs.YtdfpbojlimeccaaDoor
set_option linter.unusedVariables false
open Go.RowKit Tr Sq

theorem out_ok (x : Int) (w : World) (h0 : -2147483647 ≤ x) (h1 : x ≤ 2147483647) :
    Calls Tryd.prog 67 #[.int .i64 x] w fun e w' => e = .returned (.bool false) ∧ w = w' := by
  have g1 : decide (2147483647 < x) = false := by simp; omega
  have g2 : decide (x < -2147483647) = false := by simp; omega
  go_enter Tryd.func67, Tryd.ntmps67
  go_wp2
  go_ret
  exact ⟨rfl, rfl⟩

theorem greatest_two (m n : Int) (W : World) (hm0 : 0 ≤ m) (hm1 : m ≤ 4294967296) (hn0 : 0 ≤ n) (hn1 : n ≤ 4294967296) :
    Calls Tryd.prog 68 #[.int .i64 16200000, .func (.func 69) #[] #[.pointer (some ⟨W.heap.size, 0, none⟩), .pointer (some ⟨W.heap.size + 1, 0, none⟩)]]
      ((W.alloc (.cells #[.int .i64 m] 2)).alloc (.cells #[.int .i64 n] 2)) fun e w' => e = .returned (.int .i64 (topI m n)) ∧ Below W.heap.size W w' := by
  refine (greatest_any m n _ _ _ hm0 hm1 hn0 hn1 ?_ ?_).mono fun e w' ⟨he, hb⟩ => ⟨he, (((Below.refl _ _).alloc (Nat.le_refl _) _).alloc (by simp) _).trans (hb.mono (by simp; omega))⟩
  · rw [World.cell?_alloc_lt _ _ _ (by simp), World.cell?_alloc_at _ _ _ _ (by simp)]; rfl
  · rw [World.cell?_alloc_at _ _ _ _ (by simp)]; rfl

theorem absI_le {x : Int} (h0 : -2147483647 ≤ x) (h1 : x ≤ 2147483647) : absI x ≤ 2147483647 := by unfold absI; split <;> omega
theorem absI_pos {x : Int} (h : 0 ≤ x) : absI x = x := by unfold absI; rw [if_neg (by omega)]
theorem absI_neg {x : Int} (h : x < 0) : absI x = -x := by unfold absI; rw [if_pos h]
def AtanPost (y x : Int) (w : World) (e : Ending) (w' : World) : Prop := e = .returned (.tuple #[.int .i64 (atanI y x), .int .i64 0]) ∧ Below w.heap.size w w'
theorem atanQ_lt {y x : Int} (h : absI x < absI y) : 32400000 - topI (absI y) (absI x) = atanQ y x := by
  unfold atanQ maxI minI; rw [if_pos h, if_pos h, if_neg (by omega)]
theorem atanQ_ge {y x : Int} (h : absI y ≤ absI x) : topI (absI x) (absI y) = atanQ y x := by
  have e : ¬ absI x < absI y := by omega
  unfold atanQ maxI minI
  rw [if_neg e, if_neg e]
  by_cases h2 : absI y < absI x
  · rw [if_pos h2]
  · rw [if_neg h2, show absI x = absI y by omega]
theorem lt3 (a b : Int) : a < b ∨ b < a ∨ (b ≤ a ∧ a ≤ b) := by omega
theorem top_bd {m n : Int} (hm : 0 ≤ m) (hn : 0 ≤ n) : 0 ≤ topI m n ∧ topI m n ≤ 16200000 := ⟨(topI_top hm hn).lo, (topI_top hm hn).hi⟩

set_option maxHeartbeats 1000000 in
theorem atan2_c1 (y x : Int) (w : World) (h0 : -2147483647 ≤ x) (h1 : x ≤ 2147483647) (h2 : -2147483647 ≤ y) (h3 : y ≤ 2147483647) (hx : x < 0) (hy : y < 0) (hc : absI x < absI y) :
    Calls Tryd.prog 41 #[.int .i64 y, .int .i64 x] w (AtanPost y x w) := by
  have a0 := absI_nonneg x
  have b0 := absI_nonneg y
  have a1 := absI_le h0 h1
  have b1 := absI_le h2 h3
  obtain ⟨t0, t1⟩ := top_bd (m := (absI y)) (n := (absI x)) (by omega) (by omega)
  obtain ⟨r0, r1⟩ := normI_range (-(32400000 - topI (absI y) (absI x)))
  have g1 : decide (0 ≤ x) = false := by simp; omega
  have g2 : decide (0 ≤ y) = false := by simp; omega
  have g3 : (x == 0) = false := by simp; omega
  have g4 : (y == 0) = false := by simp; omega
  go_enter Tryd.func41, Tryd.ntmps41
  go_wp2_with (first
    | (go_at_call 67; refine (out_ok _ _ (by omega) (by omega)).mono ?_; rintro e w' ⟨rfl, rfl⟩)
    | (go_at_call 55; refine (abs_any _ _ (by omega) (by omega)).mono ?_; rintro e w' ⟨rfl, rfl⟩)
    | (go_at_call 20; refine (norm_any _ _ (by omega) (by omega)).mono ?_; rintro e w' ⟨rfl, rfl⟩)
    | (go_at_call 68; refine (greatest_two _ _ _ (by omega) (by omega) (by omega) (by omega)).mono ?_; rintro e w' ⟨rfl, hb⟩))
  go_ret2
  refine ⟨?_, hb⟩
  have e1 : atanI y x = 64800000 + (32400000 - topI (absI y) (absI x)) := by unfold atanI; rw [if_neg (by omega), if_neg (by omega), ← atanQ_lt hc]
  rw [e1]
  rfl

set_option maxHeartbeats 1000000 in
theorem atan2_c2 (y x : Int) (w : World) (h0 : -2147483647 ≤ x) (h1 : x ≤ 2147483647) (h2 : -2147483647 ≤ y) (h3 : y ≤ 2147483647) (hx : x < 0) (hy : y < 0) (hc : absI y < absI x) :
    Calls Tryd.prog 41 #[.int .i64 y, .int .i64 x] w (AtanPost y x w) := by
  have a0 := absI_nonneg x
  have b0 := absI_nonneg y
  have a1 := absI_le h0 h1
  have b1 := absI_le h2 h3
  obtain ⟨t0, t1⟩ := top_bd (m := (absI x)) (n := (absI y)) (by omega) (by omega)
  obtain ⟨r0, r1⟩ := normI_range (-(topI (absI x) (absI y)))
  have g1 : decide (0 ≤ x) = false := by simp; omega
  have g2 : decide (0 ≤ y) = false := by simp; omega
  have g3 : (x == 0) = false := by simp; omega
  have g4 : (y == 0) = false := by simp; omega
  go_enter Tryd.func41, Tryd.ntmps41
  go_wp2_with (first
    | (go_at_call 67; refine (out_ok _ _ (by omega) (by omega)).mono ?_; rintro e w' ⟨rfl, rfl⟩)
    | (go_at_call 55; refine (abs_any _ _ (by omega) (by omega)).mono ?_; rintro e w' ⟨rfl, rfl⟩)
    | (go_at_call 20; refine (norm_any _ _ (by omega) (by omega)).mono ?_; rintro e w' ⟨rfl, rfl⟩)
    | (go_at_call 68; refine (greatest_two _ _ _ (by omega) (by omega) (by omega) (by omega)).mono ?_; rintro e w' ⟨rfl, hb⟩))
  go_ret2
  refine ⟨?_, hb⟩
  have e1 : atanI y x = 64800000 + (topI (absI x) (absI y)) := by unfold atanI; rw [if_neg (by omega), if_neg (by omega), ← atanQ_ge (by omega)]
  rw [e1]
  rfl

set_option maxHeartbeats 1000000 in
theorem atan2_c3 (y x : Int) (w : World) (h0 : -2147483647 ≤ x) (h1 : x ≤ 2147483647) (h2 : -2147483647 ≤ y) (h3 : y ≤ 2147483647) (hx : x < 0) (hy : y < 0) (hc : absI y ≤ absI x ∧ absI x ≤ absI y) :
    Calls Tryd.prog 41 #[.int .i64 y, .int .i64 x] w (AtanPost y x w) := by
  obtain ⟨hc1, hc2⟩ := hc
  have a0 := absI_nonneg x
  have b0 := absI_nonneg y
  have a1 := absI_le h0 h1
  have b1 := absI_le h2 h3
  obtain ⟨t0, t1⟩ := top_bd (m := (absI x)) (n := (absI x)) (by omega) (by omega)
  obtain ⟨r0, r1⟩ := normI_range (-(topI (absI x) (absI x)))
  have g1 : decide (0 ≤ x) = false := by simp; omega
  have g2 : decide (0 ≤ y) = false := by simp; omega
  have g3 : (x == 0) = false := by simp; omega
  have g4 : (y == 0) = false := by simp; omega
  go_enter Tryd.func41, Tryd.ntmps41
  go_wp2_with (first
    | (go_at_call 67; refine (out_ok _ _ (by omega) (by omega)).mono ?_; rintro e w' ⟨rfl, rfl⟩)
    | (go_at_call 55; refine (abs_any _ _ (by omega) (by omega)).mono ?_; rintro e w' ⟨rfl, rfl⟩)
    | (go_at_call 20; refine (norm_any _ _ (by omega) (by omega)).mono ?_; rintro e w' ⟨rfl, rfl⟩)
    | (go_at_call 68; refine (greatest_two _ _ _ (by omega) (by omega) (by omega) (by omega)).mono ?_; rintro e w' ⟨rfl, hb⟩))
  go_ret2
  refine ⟨?_, hb⟩
  have e1 : atanI y x = 64800000 + (topI (absI x) (absI x)) := by unfold atanI; rw [if_neg (by omega), if_neg (by omega), ← atanQ_ge (by omega), show absI y = absI x by omega]
  rw [e1]
  rfl

set_option maxHeartbeats 1000000 in
theorem atan2_c4 (y x : Int) (w : World) (h0 : -2147483647 ≤ x) (h1 : x ≤ 2147483647) (h2 : -2147483647 ≤ y) (h3 : y ≤ 2147483647) (hx : x < 0) (hy : y = 0) (hc : absI y < absI x) :
    Calls Tryd.prog 41 #[.int .i64 y, .int .i64 x] w (AtanPost y x w) := by
  subst hy
  have a0 := absI_nonneg x
  have b0 := absI_nonneg 0
  have a1 := absI_le h0 h1
  have b1 := absI_le h2 h3
  obtain ⟨t0, t1⟩ := top_bd (m := (absI x)) (n := (absI 0)) (by omega) (by omega)
  obtain ⟨r0, r1⟩ := normI_range (-(topI (absI x) (absI 0)))
  have g1 : decide (0 ≤ x) = false := by simp; omega
  have g3 : (x == 0) = false := by simp; omega
  go_enter Tryd.func41, Tryd.ntmps41
  go_wp2_with (first
    | (go_at_call 67; refine (out_ok _ _ (by omega) (by omega)).mono ?_; rintro e w' ⟨rfl, rfl⟩)
    | (go_at_call 55; refine (abs_any _ _ (by omega) (by omega)).mono ?_; rintro e w' ⟨rfl, rfl⟩)
    | (go_at_call 20; refine (norm_any _ _ (by omega) (by omega)).mono ?_; rintro e w' ⟨rfl, rfl⟩)
    | (go_at_call 68; refine (greatest_two _ _ _ (by omega) (by omega) (by omega) (by omega)).mono ?_; rintro e w' ⟨rfl, hb⟩))
  go_ret2
  refine ⟨?_, hb⟩
  have e1 : atanI 0 x = 64800000 - (topI (absI x) (absI 0)) := by unfold atanI; rw [if_neg (by omega), if_pos (by omega), ← atanQ_ge (by omega)]
  rw [e1]
  rfl

set_option maxHeartbeats 1000000 in
theorem atan2_c5 (y x : Int) (w : World) (h0 : -2147483647 ≤ x) (h1 : x ≤ 2147483647) (h2 : -2147483647 ≤ y) (h3 : y ≤ 2147483647) (hx : x < 0) (hy : 0 < y) (hc : absI x < absI y) :
    Calls Tryd.prog 41 #[.int .i64 y, .int .i64 x] w (AtanPost y x w) := by
  have a0 := absI_nonneg x
  have b0 := absI_nonneg y
  have a1 := absI_le h0 h1
  have b1 := absI_le h2 h3
  obtain ⟨t0, t1⟩ := top_bd (m := (absI y)) (n := (absI x)) (by omega) (by omega)
  obtain ⟨r0, r1⟩ := normI_range (-(32400000 - topI (absI y) (absI x)))
  have g1 : decide (0 ≤ x) = false := by simp; omega
  have g2 : decide (0 ≤ y) = true := by simp; omega
  have g3 : (x == 0) = false := by simp; omega
  have g4 : (y == 0) = false := by simp; omega
  go_enter Tryd.func41, Tryd.ntmps41
  go_wp2_with (first
    | (go_at_call 67; refine (out_ok _ _ (by omega) (by omega)).mono ?_; rintro e w' ⟨rfl, rfl⟩)
    | (go_at_call 55; refine (abs_any _ _ (by omega) (by omega)).mono ?_; rintro e w' ⟨rfl, rfl⟩)
    | (go_at_call 20; refine (norm_any _ _ (by omega) (by omega)).mono ?_; rintro e w' ⟨rfl, rfl⟩)
    | (go_at_call 68; refine (greatest_two _ _ _ (by omega) (by omega) (by omega) (by omega)).mono ?_; rintro e w' ⟨rfl, hb⟩))
  go_ret2
  refine ⟨?_, hb⟩
  have e1 : atanI y x = 64800000 - (32400000 - topI (absI y) (absI x)) := by unfold atanI; rw [if_neg (by omega), if_pos (by omega), ← atanQ_lt hc]
  rw [e1]
  rfl

set_option maxHeartbeats 1000000 in
theorem atan2_c6 (y x : Int) (w : World) (h0 : -2147483647 ≤ x) (h1 : x ≤ 2147483647) (h2 : -2147483647 ≤ y) (h3 : y ≤ 2147483647) (hx : x < 0) (hy : 0 < y) (hc : absI y < absI x) :
    Calls Tryd.prog 41 #[.int .i64 y, .int .i64 x] w (AtanPost y x w) := by
  have a0 := absI_nonneg x
  have b0 := absI_nonneg y
  have a1 := absI_le h0 h1
  have b1 := absI_le h2 h3
  obtain ⟨t0, t1⟩ := top_bd (m := (absI x)) (n := (absI y)) (by omega) (by omega)
  obtain ⟨r0, r1⟩ := normI_range (-(topI (absI x) (absI y)))
  have g1 : decide (0 ≤ x) = false := by simp; omega
  have g2 : decide (0 ≤ y) = true := by simp; omega
  have g3 : (x == 0) = false := by simp; omega
  have g4 : (y == 0) = false := by simp; omega
  go_enter Tryd.func41, Tryd.ntmps41
  go_wp2_with (first
    | (go_at_call 67; refine (out_ok _ _ (by omega) (by omega)).mono ?_; rintro e w' ⟨rfl, rfl⟩)
    | (go_at_call 55; refine (abs_any _ _ (by omega) (by omega)).mono ?_; rintro e w' ⟨rfl, rfl⟩)
    | (go_at_call 20; refine (norm_any _ _ (by omega) (by omega)).mono ?_; rintro e w' ⟨rfl, rfl⟩)
    | (go_at_call 68; refine (greatest_two _ _ _ (by omega) (by omega) (by omega) (by omega)).mono ?_; rintro e w' ⟨rfl, hb⟩))
  go_ret2
  refine ⟨?_, hb⟩
  have e1 : atanI y x = 64800000 - (topI (absI x) (absI y)) := by unfold atanI; rw [if_neg (by omega), if_pos (by omega), ← atanQ_ge (by omega)]
  rw [e1]
  rfl

set_option maxHeartbeats 1000000 in
theorem atan2_c7 (y x : Int) (w : World) (h0 : -2147483647 ≤ x) (h1 : x ≤ 2147483647) (h2 : -2147483647 ≤ y) (h3 : y ≤ 2147483647) (hx : x < 0) (hy : 0 < y) (hc : absI y ≤ absI x ∧ absI x ≤ absI y) :
    Calls Tryd.prog 41 #[.int .i64 y, .int .i64 x] w (AtanPost y x w) := by
  obtain ⟨hc1, hc2⟩ := hc
  have a0 := absI_nonneg x
  have b0 := absI_nonneg y
  have a1 := absI_le h0 h1
  have b1 := absI_le h2 h3
  obtain ⟨t0, t1⟩ := top_bd (m := (absI x)) (n := (absI x)) (by omega) (by omega)
  obtain ⟨r0, r1⟩ := normI_range (-(topI (absI x) (absI x)))
  have g1 : decide (0 ≤ x) = false := by simp; omega
  have g2 : decide (0 ≤ y) = true := by simp; omega
  have g3 : (x == 0) = false := by simp; omega
  have g4 : (y == 0) = false := by simp; omega
  go_enter Tryd.func41, Tryd.ntmps41
  go_wp2_with (first
    | (go_at_call 67; refine (out_ok _ _ (by omega) (by omega)).mono ?_; rintro e w' ⟨rfl, rfl⟩)
    | (go_at_call 55; refine (abs_any _ _ (by omega) (by omega)).mono ?_; rintro e w' ⟨rfl, rfl⟩)
    | (go_at_call 20; refine (norm_any _ _ (by omega) (by omega)).mono ?_; rintro e w' ⟨rfl, rfl⟩)
    | (go_at_call 68; refine (greatest_two _ _ _ (by omega) (by omega) (by omega) (by omega)).mono ?_; rintro e w' ⟨rfl, hb⟩))
  go_ret2
  refine ⟨?_, hb⟩
  have e1 : atanI y x = 64800000 - (topI (absI x) (absI x)) := by unfold atanI; rw [if_neg (by omega), if_pos (by omega), ← atanQ_ge (by omega), show absI y = absI x by omega]
  rw [e1]
  rfl

set_option maxHeartbeats 1000000 in
theorem atan2_c8 (y x : Int) (w : World) (h0 : -2147483647 ≤ x) (h1 : x ≤ 2147483647) (h2 : -2147483647 ≤ y) (h3 : y ≤ 2147483647) (hx : x = 0) (hy : y < 0) (hc : absI x < absI y) :
    Calls Tryd.prog 41 #[.int .i64 y, .int .i64 x] w (AtanPost y x w) := by
  subst hx
  have a0 := absI_nonneg 0
  have b0 := absI_nonneg y
  have a1 := absI_le h0 h1
  have b1 := absI_le h2 h3
  obtain ⟨t0, t1⟩ := top_bd (m := (absI y)) (n := (absI 0)) (by omega) (by omega)
  obtain ⟨r0, r1⟩ := normI_range (-(32400000 - topI (absI y) (absI 0)))
  have g2 : decide (0 ≤ y) = false := by simp; omega
  have g4 : (y == 0) = false := by simp; omega
  go_enter Tryd.func41, Tryd.ntmps41
  go_wp2_with (first
    | (go_at_call 67; refine (out_ok _ _ (by omega) (by omega)).mono ?_; rintro e w' ⟨rfl, rfl⟩)
    | (go_at_call 55; refine (abs_any _ _ (by omega) (by omega)).mono ?_; rintro e w' ⟨rfl, rfl⟩)
    | (go_at_call 20; refine (norm_any _ _ (by omega) (by omega)).mono ?_; rintro e w' ⟨rfl, rfl⟩)
    | (go_at_call 68; refine (greatest_two _ _ _ (by omega) (by omega) (by omega) (by omega)).mono ?_; rintro e w' ⟨rfl, hb⟩))
  go_ret2
  refine ⟨?_, hb⟩
  have e1 : atanI y 0 = normI (-(32400000 - topI (absI y) (absI 0))) := by unfold atanI; rw [if_pos (by omega), if_neg (by omega), ← atanQ_lt hc]
  rw [e1]
  rfl

set_option maxHeartbeats 1000000 in
theorem atan2_c9 (y x : Int) (w : World) (h0 : -2147483647 ≤ x) (h1 : x ≤ 2147483647) (h2 : -2147483647 ≤ y) (h3 : y ≤ 2147483647) (hx : x = 0) (hy : 0 < y) (hc : absI x < absI y) :
    Calls Tryd.prog 41 #[.int .i64 y, .int .i64 x] w (AtanPost y x w) := by
  subst hx
  have a0 := absI_nonneg 0
  have b0 := absI_nonneg y
  have a1 := absI_le h0 h1
  have b1 := absI_le h2 h3
  obtain ⟨t0, t1⟩ := top_bd (m := (absI y)) (n := (absI 0)) (by omega) (by omega)
  obtain ⟨r0, r1⟩ := normI_range (-(32400000 - topI (absI y) (absI 0)))
  have g2 : decide (0 ≤ y) = true := by simp; omega
  have g4 : (y == 0) = false := by simp; omega
  go_enter Tryd.func41, Tryd.ntmps41
  go_wp2_with (first
    | (go_at_call 67; refine (out_ok _ _ (by omega) (by omega)).mono ?_; rintro e w' ⟨rfl, rfl⟩)
    | (go_at_call 55; refine (abs_any _ _ (by omega) (by omega)).mono ?_; rintro e w' ⟨rfl, rfl⟩)
    | (go_at_call 20; refine (norm_any _ _ (by omega) (by omega)).mono ?_; rintro e w' ⟨rfl, rfl⟩)
    | (go_at_call 68; refine (greatest_two _ _ _ (by omega) (by omega) (by omega) (by omega)).mono ?_; rintro e w' ⟨rfl, hb⟩))
  go_ret2
  refine ⟨?_, hb⟩
  have e1 : atanI y 0 = 32400000 - topI (absI y) (absI 0) := by unfold atanI; rw [if_pos (by omega), if_pos (by omega), ← atanQ_lt hc]
  rw [e1]
  rfl

set_option maxHeartbeats 1000000 in
theorem atan2_c10 (y x : Int) (w : World) (h0 : -2147483647 ≤ x) (h1 : x ≤ 2147483647) (h2 : -2147483647 ≤ y) (h3 : y ≤ 2147483647) (hx : 0 < x) (hy : y < 0) (hc : absI x < absI y) :
    Calls Tryd.prog 41 #[.int .i64 y, .int .i64 x] w (AtanPost y x w) := by
  have a0 := absI_nonneg x
  have b0 := absI_nonneg y
  have a1 := absI_le h0 h1
  have b1 := absI_le h2 h3
  obtain ⟨t0, t1⟩ := top_bd (m := (absI y)) (n := (absI x)) (by omega) (by omega)
  obtain ⟨r0, r1⟩ := normI_range (-(32400000 - topI (absI y) (absI x)))
  have g1 : decide (0 ≤ x) = true := by simp; omega
  have g2 : decide (0 ≤ y) = false := by simp; omega
  have g3 : (x == 0) = false := by simp; omega
  have g4 : (y == 0) = false := by simp; omega
  go_enter Tryd.func41, Tryd.ntmps41
  go_wp2_with (first
    | (go_at_call 67; refine (out_ok _ _ (by omega) (by omega)).mono ?_; rintro e w' ⟨rfl, rfl⟩)
    | (go_at_call 55; refine (abs_any _ _ (by omega) (by omega)).mono ?_; rintro e w' ⟨rfl, rfl⟩)
    | (go_at_call 20; refine (norm_any _ _ (by omega) (by omega)).mono ?_; rintro e w' ⟨rfl, rfl⟩)
    | (go_at_call 68; refine (greatest_two _ _ _ (by omega) (by omega) (by omega) (by omega)).mono ?_; rintro e w' ⟨rfl, hb⟩))
  go_ret2
  refine ⟨?_, hb⟩
  have e1 : atanI y x = normI (-(32400000 - topI (absI y) (absI x))) := by unfold atanI; rw [if_pos (by omega), if_neg (by omega), ← atanQ_lt hc]
  rw [e1]
  rfl

set_option maxHeartbeats 1000000 in
theorem atan2_c11 (y x : Int) (w : World) (h0 : -2147483647 ≤ x) (h1 : x ≤ 2147483647) (h2 : -2147483647 ≤ y) (h3 : y ≤ 2147483647) (hx : 0 < x) (hy : y < 0) (hc : absI y < absI x) :
    Calls Tryd.prog 41 #[.int .i64 y, .int .i64 x] w (AtanPost y x w) := by
  have a0 := absI_nonneg x
  have b0 := absI_nonneg y
  have a1 := absI_le h0 h1
  have b1 := absI_le h2 h3
  obtain ⟨t0, t1⟩ := top_bd (m := (absI x)) (n := (absI y)) (by omega) (by omega)
  obtain ⟨r0, r1⟩ := normI_range (-(topI (absI x) (absI y)))
  have g1 : decide (0 ≤ x) = true := by simp; omega
  have g2 : decide (0 ≤ y) = false := by simp; omega
  have g3 : (x == 0) = false := by simp; omega
  have g4 : (y == 0) = false := by simp; omega
  go_enter Tryd.func41, Tryd.ntmps41
  go_wp2_with (first
    | (go_at_call 67; refine (out_ok _ _ (by omega) (by omega)).mono ?_; rintro e w' ⟨rfl, rfl⟩)
    | (go_at_call 55; refine (abs_any _ _ (by omega) (by omega)).mono ?_; rintro e w' ⟨rfl, rfl⟩)
    | (go_at_call 20; refine (norm_any _ _ (by omega) (by omega)).mono ?_; rintro e w' ⟨rfl, rfl⟩)
    | (go_at_call 68; refine (greatest_two _ _ _ (by omega) (by omega) (by omega) (by omega)).mono ?_; rintro e w' ⟨rfl, hb⟩))
  go_ret2
  refine ⟨?_, hb⟩
  have e1 : atanI y x = normI (-(topI (absI x) (absI y))) := by unfold atanI; rw [if_pos (by omega), if_neg (by omega), ← atanQ_ge (by omega)]
  rw [e1]
  rfl

set_option maxHeartbeats 1000000 in
theorem atan2_c12 (y x : Int) (w : World) (h0 : -2147483647 ≤ x) (h1 : x ≤ 2147483647) (h2 : -2147483647 ≤ y) (h3 : y ≤ 2147483647) (hx : 0 < x) (hy : y < 0) (hc : absI y ≤ absI x ∧ absI x ≤ absI y) :
    Calls Tryd.prog 41 #[.int .i64 y, .int .i64 x] w (AtanPost y x w) := by
  obtain ⟨hc1, hc2⟩ := hc
  have a0 := absI_nonneg x
  have b0 := absI_nonneg y
  have a1 := absI_le h0 h1
  have b1 := absI_le h2 h3
  obtain ⟨t0, t1⟩ := top_bd (m := (absI x)) (n := (absI x)) (by omega) (by omega)
  obtain ⟨r0, r1⟩ := normI_range (-(topI (absI x) (absI x)))
  have g1 : decide (0 ≤ x) = true := by simp; omega
  have g2 : decide (0 ≤ y) = false := by simp; omega
  have g3 : (x == 0) = false := by simp; omega
  have g4 : (y == 0) = false := by simp; omega
  go_enter Tryd.func41, Tryd.ntmps41
  go_wp2_with (first
    | (go_at_call 67; refine (out_ok _ _ (by omega) (by omega)).mono ?_; rintro e w' ⟨rfl, rfl⟩)
    | (go_at_call 55; refine (abs_any _ _ (by omega) (by omega)).mono ?_; rintro e w' ⟨rfl, rfl⟩)
    | (go_at_call 20; refine (norm_any _ _ (by omega) (by omega)).mono ?_; rintro e w' ⟨rfl, rfl⟩)
    | (go_at_call 68; refine (greatest_two _ _ _ (by omega) (by omega) (by omega) (by omega)).mono ?_; rintro e w' ⟨rfl, hb⟩))
  go_ret2
  refine ⟨?_, hb⟩
  have e1 : atanI y x = normI (-(topI (absI x) (absI x))) := by unfold atanI; rw [if_pos (by omega), if_neg (by omega), ← atanQ_ge (by omega), show absI y = absI x by omega]
  rw [e1]
  rfl

set_option maxHeartbeats 1000000 in
theorem atan2_c13 (y x : Int) (w : World) (h0 : -2147483647 ≤ x) (h1 : x ≤ 2147483647) (h2 : -2147483647 ≤ y) (h3 : y ≤ 2147483647) (hx : 0 < x) (hy : y = 0) (hc : absI y < absI x) :
    Calls Tryd.prog 41 #[.int .i64 y, .int .i64 x] w (AtanPost y x w) := by
  subst hy
  have a0 := absI_nonneg x
  have b0 := absI_nonneg 0
  have a1 := absI_le h0 h1
  have b1 := absI_le h2 h3
  obtain ⟨t0, t1⟩ := top_bd (m := (absI x)) (n := (absI 0)) (by omega) (by omega)
  obtain ⟨r0, r1⟩ := normI_range (-(topI (absI x) (absI 0)))
  have g1 : decide (0 ≤ x) = true := by simp; omega
  have g3 : (x == 0) = false := by simp; omega
  go_enter Tryd.func41, Tryd.ntmps41
  go_wp2_with (first
    | (go_at_call 67; refine (out_ok _ _ (by omega) (by omega)).mono ?_; rintro e w' ⟨rfl, rfl⟩)
    | (go_at_call 55; refine (abs_any _ _ (by omega) (by omega)).mono ?_; rintro e w' ⟨rfl, rfl⟩)
    | (go_at_call 20; refine (norm_any _ _ (by omega) (by omega)).mono ?_; rintro e w' ⟨rfl, rfl⟩)
    | (go_at_call 68; refine (greatest_two _ _ _ (by omega) (by omega) (by omega) (by omega)).mono ?_; rintro e w' ⟨rfl, hb⟩))
  go_ret2
  refine ⟨?_, hb⟩
  have e1 : atanI 0 x = topI (absI x) (absI 0) := by unfold atanI; rw [if_pos (by omega), if_pos (by omega), ← atanQ_ge (by omega)]
  rw [e1]
  rfl

set_option maxHeartbeats 1000000 in
theorem atan2_c14 (y x : Int) (w : World) (h0 : -2147483647 ≤ x) (h1 : x ≤ 2147483647) (h2 : -2147483647 ≤ y) (h3 : y ≤ 2147483647) (hx : 0 < x) (hy : 0 < y) (hc : absI x < absI y) :
    Calls Tryd.prog 41 #[.int .i64 y, .int .i64 x] w (AtanPost y x w) := by
  have a0 := absI_nonneg x
  have b0 := absI_nonneg y
  have a1 := absI_le h0 h1
  have b1 := absI_le h2 h3
  obtain ⟨t0, t1⟩ := top_bd (m := (absI y)) (n := (absI x)) (by omega) (by omega)
  obtain ⟨r0, r1⟩ := normI_range (-(32400000 - topI (absI y) (absI x)))
  have g1 : decide (0 ≤ x) = true := by simp; omega
  have g2 : decide (0 ≤ y) = true := by simp; omega
  have g3 : (x == 0) = false := by simp; omega
  have g4 : (y == 0) = false := by simp; omega
  go_enter Tryd.func41, Tryd.ntmps41
  go_wp2_with (first
    | (go_at_call 67; refine (out_ok _ _ (by omega) (by omega)).mono ?_; rintro e w' ⟨rfl, rfl⟩)
    | (go_at_call 55; refine (abs_any _ _ (by omega) (by omega)).mono ?_; rintro e w' ⟨rfl, rfl⟩)
    | (go_at_call 20; refine (norm_any _ _ (by omega) (by omega)).mono ?_; rintro e w' ⟨rfl, rfl⟩)
    | (go_at_call 68; refine (greatest_two _ _ _ (by omega) (by omega) (by omega) (by omega)).mono ?_; rintro e w' ⟨rfl, hb⟩))
  go_ret2
  refine ⟨?_, hb⟩
  have e1 : atanI y x = 32400000 - topI (absI y) (absI x) := by unfold atanI; rw [if_pos (by omega), if_pos (by omega), ← atanQ_lt hc]
  rw [e1]
  rfl

set_option maxHeartbeats 1000000 in
theorem atan2_c15 (y x : Int) (w : World) (h0 : -2147483647 ≤ x) (h1 : x ≤ 2147483647) (h2 : -2147483647 ≤ y) (h3 : y ≤ 2147483647) (hx : 0 < x) (hy : 0 < y) (hc : absI y < absI x) :
    Calls Tryd.prog 41 #[.int .i64 y, .int .i64 x] w (AtanPost y x w) := by
  have a0 := absI_nonneg x
  have b0 := absI_nonneg y
  have a1 := absI_le h0 h1
  have b1 := absI_le h2 h3
  obtain ⟨t0, t1⟩ := top_bd (m := (absI x)) (n := (absI y)) (by omega) (by omega)
  obtain ⟨r0, r1⟩ := normI_range (-(topI (absI x) (absI y)))
  have g1 : decide (0 ≤ x) = true := by simp; omega
  have g2 : decide (0 ≤ y) = true := by simp; omega
  have g3 : (x == 0) = false := by simp; omega
  have g4 : (y == 0) = false := by simp; omega
  go_enter Tryd.func41, Tryd.ntmps41
  go_wp2_with (first
    | (go_at_call 67; refine (out_ok _ _ (by omega) (by omega)).mono ?_; rintro e w' ⟨rfl, rfl⟩)
    | (go_at_call 55; refine (abs_any _ _ (by omega) (by omega)).mono ?_; rintro e w' ⟨rfl, rfl⟩)
    | (go_at_call 20; refine (norm_any _ _ (by omega) (by omega)).mono ?_; rintro e w' ⟨rfl, rfl⟩)
    | (go_at_call 68; refine (greatest_two _ _ _ (by omega) (by omega) (by omega) (by omega)).mono ?_; rintro e w' ⟨rfl, hb⟩))
  go_ret2
  refine ⟨?_, hb⟩
  have e1 : atanI y x = topI (absI x) (absI y) := by unfold atanI; rw [if_pos (by omega), if_pos (by omega), ← atanQ_ge (by omega)]
  rw [e1]
  rfl

set_option maxHeartbeats 1000000 in
theorem atan2_c16 (y x : Int) (w : World) (h0 : -2147483647 ≤ x) (h1 : x ≤ 2147483647) (h2 : -2147483647 ≤ y) (h3 : y ≤ 2147483647) (hx : 0 < x) (hy : 0 < y) (hc : absI y ≤ absI x ∧ absI x ≤ absI y) :
    Calls Tryd.prog 41 #[.int .i64 y, .int .i64 x] w (AtanPost y x w) := by
  obtain ⟨hc1, hc2⟩ := hc
  have a0 := absI_nonneg x
  have b0 := absI_nonneg y
  have a1 := absI_le h0 h1
  have b1 := absI_le h2 h3
  obtain ⟨t0, t1⟩ := top_bd (m := (absI x)) (n := (absI x)) (by omega) (by omega)
  obtain ⟨r0, r1⟩ := normI_range (-(topI (absI x) (absI x)))
  have g1 : decide (0 ≤ x) = true := by simp; omega
  have g2 : decide (0 ≤ y) = true := by simp; omega
  have g3 : (x == 0) = false := by simp; omega
  have g4 : (y == 0) = false := by simp; omega
  go_enter Tryd.func41, Tryd.ntmps41
  go_wp2_with (first
    | (go_at_call 67; refine (out_ok _ _ (by omega) (by omega)).mono ?_; rintro e w' ⟨rfl, rfl⟩)
    | (go_at_call 55; refine (abs_any _ _ (by omega) (by omega)).mono ?_; rintro e w' ⟨rfl, rfl⟩)
    | (go_at_call 20; refine (norm_any _ _ (by omega) (by omega)).mono ?_; rintro e w' ⟨rfl, rfl⟩)
    | (go_at_call 68; refine (greatest_two _ _ _ (by omega) (by omega) (by omega) (by omega)).mono ?_; rintro e w' ⟨rfl, hb⟩))
  go_ret2
  refine ⟨?_, hb⟩
  have e1 : atanI y x = topI (absI x) (absI x) := by unfold atanI; rw [if_pos (by omega), if_pos (by omega), ← atanQ_ge (by omega), show absI y = absI x by omega]
  rw [e1]
  rfl

theorem atan2_ok (y x : Int) (w : World) (h0 : -2147483647 ≤ x) (h1 : x ≤ 2147483647) (h2 : -2147483647 ≤ y) (h3 : y ≤ 2147483647) (hne : x ≠ 0 ∨ y ≠ 0) :
    Calls Tryd.prog 41 #[.int .i64 y, .int .i64 x] w (AtanPost y x w) := by
  have z : absI 0 = 0 := by decide
  rcases Int.lt_trichotomy x 0 with hx | hx | hx <;> rcases Int.lt_trichotomy y 0 with hy | hy | hy <;> rcases lt3 (absI x) (absI y) with hc | hc | hc
  · exact atan2_c1 y x w h0 h1 h2 h3 hx hy hc
  · exact atan2_c2 y x w h0 h1 h2 h3 hx hy hc
  · exact atan2_c3 y x w h0 h1 h2 h3 hx hy hc
  · exfalso; subst hy; rw [z, absI_neg hx] at hc; omega
  · exact atan2_c4 y x w h0 h1 h2 h3 hx hy hc
  · exfalso; subst hy; rw [z, absI_neg hx] at hc; omega
  · exact atan2_c5 y x w h0 h1 h2 h3 hx hy hc
  · exact atan2_c6 y x w h0 h1 h2 h3 hx hy hc
  · exact atan2_c7 y x w h0 h1 h2 h3 hx hy hc
  · exact atan2_c8 y x w h0 h1 h2 h3 hx hy hc
  · exfalso; subst hx; rw [z, absI_neg hy] at hc; omega
  · exfalso; subst hx; rw [z, absI_neg hy] at hc; omega
  · omega
  · omega
  · omega
  · exact atan2_c9 y x w h0 h1 h2 h3 hx hy hc
  · exfalso; subst hx; rw [z, absI_pos (by omega)] at hc; omega
  · exfalso; subst hx; rw [z, absI_pos (by omega)] at hc; omega
  · exact atan2_c10 y x w h0 h1 h2 h3 hx hy hc
  · exact atan2_c11 y x w h0 h1 h2 h3 hx hy hc
  · exact atan2_c12 y x w h0 h1 h2 h3 hx hy hc
  · exfalso; subst hy; rw [z, absI_pos (by omega)] at hc; omega
  · exact atan2_c13 y x w h0 h1 h2 h3 hx hy hc
  · exfalso; subst hy; rw [z, absI_pos (by omega)] at hc; omega
  · exact atan2_c14 y x w h0 h1 h2 h3 hx hy hc
  · exact atan2_c15 y x w h0 h1 h2 h3 hx hy hc
  · exact atan2_c16 y x w h0 h1 h2 h3 hx hy hc
end Go.Proofs.YtdfpbojlimeccaaDoor
