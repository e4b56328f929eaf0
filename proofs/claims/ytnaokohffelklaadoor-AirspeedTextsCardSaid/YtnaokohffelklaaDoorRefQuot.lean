/-
  The walk of the reference's quotient, whose product fits in 63 bits and whose divisor is positive.
-/
import Derived.Test.YtnaokohffelklaaDoorRefDiv
import Derived.IntWalk
import Derived.Lib.Zigzag
namespace Go.Proofs.YtnaokohffelklaaDoor
set_option linter.unusedVariables false
open Go.RowKit

theorem xorMax {x : Int} (h0 : 0 ≤ x) (h1 : x < 18446744073709551616) : bits BinOp.xor IntKind.u64 IntKind.u64.max x = 18446744073709551615 - x := by
  obtain ⟨n, rfl⟩ := Int.eq_ofNat_of_zero_le h0
  have hm : IntKind.u64.max = ((2 ^ 64 - 1 : Nat) : Int) := by decide
  rw [hm, bits_xor_u64_nat _ _ (by decide) (by omega), Lib.xor_ones64 _ (by omega)]
  omega
theorem refsize_any (a : Int) (w : World) (h0 : -9223372036854775808 ≤ a) (h1 : a ≤ 9223372036854775807) :
    Calls Tryd.prog 88 #[.int .i64 a] w fun e w' => e = .returned (.int .u64 (sizeI a)) ∧ w = w' := by
  by_cases h : a < 0
  · have E := Lib.hid (show sizeI a = -a by unfold sizeI; rw [if_pos h])
    have g : decide (a < 0) = true := by simpa using h
    go_enter Tryd.func88, Tryd.ntmps88
    go_wp2
    go_ret
    exact ⟨ret_u (by rw [E.out]; omega), rfl⟩
  · have E := Lib.hid (show sizeI a = a by unfold sizeI; rw [if_neg h])
    have g : decide (a < 0) = false := by simpa using h
    go_enter Tryd.func88, Tryd.ntmps88
    go_wp2
    go_ret
    exact ⟨ret_u (by rw [E.out]), rfl⟩
theorem product_any (x y : Int) (w : World) (hx : 0 ≤ x) (hx' : x < 18446744073709551616) (hy : 0 ≤ y) (hy' : y < 18446744073709551616) (h : x * y < 18446744073709551616) :
    Calls Tryd.prog 87 #[.int .u64 x, .int .u64 y] w fun e w' => e = .returned (.tuple #[.int .u64 0, .int .u64 (x * y)]) ∧ w = w' := by
  obtain ⟨a, rfl⟩ := Int.eq_ofNat_of_zero_le hx
  obtain ⟨b, rfl⟩ := Int.eq_ofNat_of_zero_le hy
  have hn : a * b < 18446744073709551616 := by
    have : ((a * b : Nat) : Int) < 18446744073709551616 := by rw [Int.natCast_mul]; exact h
    omega
  have := product_nat a b w (by omega) (by omega) hn
  rwa [Int.natCast_mul] at this
theorem divide_any (n c : Int) (w : World) (h0 : 0 ≤ n) (h1 : n < 9223372036854775808) (c0 : 0 < c) (c1 : c < 9223372036854775808) :
    Calls Tryd.prog 89 #[.int .u64 0, .int .u64 n, .int .u64 c] w fun e w' => e = .returned (.tuple #[.int .u64 0, .int .u64 (n / c), .int .u64 (n % c)]) ∧ w = w' := by
  obtain ⟨a, rfl⟩ := Int.eq_ofNat_of_zero_le h0
  obtain ⟨b, rfl⟩ := Int.eq_ofNat_of_zero_le (Int.le_of_lt c0)
  exact divide_nat a b w (by omega) (by omega) (by omega)
set_option maxHeartbeats 2000000 in
set_option maxRecDepth 100000 in
theorem quotient_up (a b c : Int) (w : World) (a0 : -9223372036854775808 ≤ a) (a1 : a ≤ 9223372036854775807) (b0 : 0 ≤ b) (b1 : b ≤ 9223372036854775807) (c0 : 0 < c) (c1 : c ≤ 9223372036854775807) (h0 : -9223372036854775808 < a * b) (h1 : a * b < 9223372036854775808) :
    Calls Tryd.prog 80 #[.int .i64 a, .int .i64 b, .int .i64 c, .int .i64 1] w fun e w' => e = .returned (.tuple #[.int .i64 (ceilI (a * b) c), .int .i64 0]) ∧ w = w' := by
  obtain ⟨n0, n1, A1, A2⟩ := size_mul b0 h0 h1
  have H1 := Lib.hid A1
  have H2 := Lib.hid A2
  clear A1 A2
  have sb : sizeI b = b := by unfold sizeI; rw [if_neg (by omega)]
  have sc : sizeI c = c := by unfold sizeI; rw [if_neg (by omega)]
  have sa := sizeI_nonneg a
  have sa2 : sizeI a ≤ 9223372036854775808 := by unfold sizeI; split <;> omega
  obtain ⟨e1, q0, q1, r0, r1⟩ := div_facts n0 n1 c0
  have k1 : decide (b < 0) = false := by simp; omega
  have k2 : decide (c < 0) = false := by simp; omega
  have k3 : (c == 0) = false := by simp; omega
  have k5 : (sizeI a * b / c == 9223372036854775808) = false := by simp; omega
  have E1 := Lib.hid e1
  clear e1
  have QQ := Lib.hid (fun h : 2 ≤ c => show sizeI a * b / c ≤ 4611686018427387904 from Int.ediv_le_of_le_mul c0 (by omega))
  by_cases hs : a < 0
  · have k0 : decide (a < 0) = true := by simpa using hs
    by_cases h0 : 0 < sizeI a * b % c
    · have g0 : decide (0 < sizeI a * b % c) = true := by simpa using h0
      have g0a : (sizeI a * b % c == 0) = false := by simp; omega
      have g0b : (sizeI a * b % c != 0) = true := by simp; omega
      go_enter Tryd.func80, Tryd.ntmps80
      go_wp2_with (first
        | (go_at_call 88; refine (refsize_any _ _ (by omega) (by omega)).mono ?_; rintro e w' ⟨rfl, rfl⟩)
        | (go_at_call 87; refine (product_any _ _ _ (by omega) (by omega) (by omega) (by omega) (by omega)).mono ?_; rintro e w' ⟨rfl, rfl⟩)
        | (go_at_call 89; refine (divide_any _ _ _ (by omega) (by omega) (by omega) (by omega)).mono ?_; rintro e w' ⟨rfl, rfl⟩))
      all_goals go_ret2
      all_goals exact ⟨two_i (by rw [H1.out hs]; rw [show _ = _ from (ceil_neg c0 E1.out r0 r1)]; rw [xorMax (by omega) (by omega)]; simp only [wrap64, IntKind.wrap_u64]; omega) rfl, rfl⟩
    · have g0 : decide (0 < sizeI a * b % c) = false := by simpa using h0
      have g0a : (sizeI a * b % c == 0) = true := by simp; omega
      have g0b : (sizeI a * b % c != 0) = false := by simp; omega
      go_enter Tryd.func80, Tryd.ntmps80
      go_wp2_with (first
        | (go_at_call 88; refine (refsize_any _ _ (by omega) (by omega)).mono ?_; rintro e w' ⟨rfl, rfl⟩)
        | (go_at_call 87; refine (product_any _ _ _ (by omega) (by omega) (by omega) (by omega) (by omega)).mono ?_; rintro e w' ⟨rfl, rfl⟩)
        | (go_at_call 89; refine (divide_any _ _ _ (by omega) (by omega) (by omega) (by omega)).mono ?_; rintro e w' ⟨rfl, rfl⟩))
      all_goals go_ret2
      all_goals exact ⟨two_i (by rw [H1.out hs]; rw [show _ = _ from (ceil_neg c0 E1.out r0 r1)]; rw [xorMax (by omega) (by omega)]; simp only [wrap64, IntKind.wrap_u64]; omega) rfl, rfl⟩
  · have k0 : decide (a < 0) = false := by simpa using hs
    by_cases h0 : 0 < sizeI a * b % c
    · have g0 : decide (0 < sizeI a * b % c) = true := by simpa using h0
      have g0a : (sizeI a * b % c == 0) = false := by simp; omega
      have g0b : (sizeI a * b % c != 0) = true := by simp; omega
      have qq := QQ.out (by omega)
      have qz : (sizeI a * b / c + 1 == 0) = false := by simp; omega
      have qm : (sizeI a * b / c + 1 == 9223372036854775808) = false := by simp; omega
      go_enter Tryd.func80, Tryd.ntmps80
      go_wp2_with (first
        | (go_at_call 88; refine (refsize_any _ _ (by omega) (by omega)).mono ?_; rintro e w' ⟨rfl, rfl⟩)
        | (go_at_call 87; refine (product_any _ _ _ (by omega) (by omega) (by omega) (by omega) (by omega)).mono ?_; rintro e w' ⟨rfl, rfl⟩)
        | (go_at_call 89; refine (divide_any _ _ _ (by omega) (by omega) (by omega) (by omega)).mono ?_; rintro e w' ⟨rfl, rfl⟩))
      all_goals go_ret2
      all_goals exact ⟨two_i (by rw [H2.out (by omega)]; rw [show _ = _ from (ceil_pos c0 E1.out h0 r1)]) rfl, rfl⟩
    · have g0 : decide (0 < sizeI a * b % c) = false := by simpa using h0
      have g0a : (sizeI a * b % c == 0) = true := by simp; omega
      have g0b : (sizeI a * b % c != 0) = false := by simp; omega
      go_enter Tryd.func80, Tryd.ntmps80
      go_wp2_with (first
        | (go_at_call 88; refine (refsize_any _ _ (by omega) (by omega)).mono ?_; rintro e w' ⟨rfl, rfl⟩)
        | (go_at_call 87; refine (product_any _ _ _ (by omega) (by omega) (by omega) (by omega) (by omega)).mono ?_; rintro e w' ⟨rfl, rfl⟩)
        | (go_at_call 89; refine (divide_any _ _ _ (by omega) (by omega) (by omega) (by omega)).mono ?_; rintro e w' ⟨rfl, rfl⟩))
      all_goals go_ret2
      all_goals exact ⟨two_i (by rw [H2.out (by omega)]; rw [show _ = _ from (ceil_pos0 c0 E1.out (by omega))]) rfl, rfl⟩
set_option maxHeartbeats 2000000 in
set_option maxRecDepth 100000 in
theorem quotient_down (a b c : Int) (w : World) (a0 : -9223372036854775808 ≤ a) (a1 : a ≤ 9223372036854775807) (b0 : 0 ≤ b) (b1 : b ≤ 9223372036854775807) (c0 : 0 < c) (c1 : c ≤ 9223372036854775807) (h0 : -9223372036854775808 < a * b) (h1 : a * b < 9223372036854775808) :
    Calls Tryd.prog 80 #[.int .i64 a, .int .i64 b, .int .i64 c, .int .i64 0] w fun e w' => e = .returned (.tuple #[.int .i64 (floorI (a * b) c), .int .i64 0]) ∧ w = w' := by
  obtain ⟨n0, n1, A1, A2⟩ := size_mul b0 h0 h1
  have H1 := Lib.hid A1
  have H2 := Lib.hid A2
  clear A1 A2
  have sb : sizeI b = b := by unfold sizeI; rw [if_neg (by omega)]
  have sc : sizeI c = c := by unfold sizeI; rw [if_neg (by omega)]
  have sa := sizeI_nonneg a
  have sa2 : sizeI a ≤ 9223372036854775808 := by unfold sizeI; split <;> omega
  obtain ⟨e1, q0, q1, r0, r1⟩ := div_facts n0 n1 c0
  have k1 : decide (b < 0) = false := by simp; omega
  have k2 : decide (c < 0) = false := by simp; omega
  have k3 : (c == 0) = false := by simp; omega
  have k5 : (sizeI a * b / c == 9223372036854775808) = false := by simp; omega
  have E1 := Lib.hid e1
  clear e1
  have QQ := Lib.hid (fun h : 2 ≤ c => show sizeI a * b / c ≤ 4611686018427387904 from Int.ediv_le_of_le_mul c0 (by omega))
  by_cases hs : a < 0
  · have k0 : decide (a < 0) = true := by simpa using hs
    by_cases h0 : 0 < sizeI a * b % c
    · have g0 : decide (0 < sizeI a * b % c) = true := by simpa using h0
      have g0a : (sizeI a * b % c == 0) = false := by simp; omega
      have g0b : (sizeI a * b % c != 0) = true := by simp; omega
      have qq := QQ.out (by omega)
      have qz : (sizeI a * b / c + 1 == 0) = false := by simp; omega
      have qm : (sizeI a * b / c + 1 == 9223372036854775808) = false := by simp; omega
      go_enter Tryd.func80, Tryd.ntmps80
      go_wp2_with (first
        | (go_at_call 88; refine (refsize_any _ _ (by omega) (by omega)).mono ?_; rintro e w' ⟨rfl, rfl⟩)
        | (go_at_call 87; refine (product_any _ _ _ (by omega) (by omega) (by omega) (by omega) (by omega)).mono ?_; rintro e w' ⟨rfl, rfl⟩)
        | (go_at_call 89; refine (divide_any _ _ _ (by omega) (by omega) (by omega) (by omega)).mono ?_; rintro e w' ⟨rfl, rfl⟩))
      all_goals go_ret2
      all_goals exact ⟨two_i (by rw [H1.out hs]; rw [show _ = _ from (floor_neg c0 E1.out h0 r1)]; rw [xorMax (by omega) (by omega)]; simp only [wrap64, IntKind.wrap_u64]; omega) rfl, rfl⟩
    · have g0 : decide (0 < sizeI a * b % c) = false := by simpa using h0
      have g0a : (sizeI a * b % c == 0) = true := by simp; omega
      have g0b : (sizeI a * b % c != 0) = false := by simp; omega
      go_enter Tryd.func80, Tryd.ntmps80
      go_wp2_with (first
        | (go_at_call 88; refine (refsize_any _ _ (by omega) (by omega)).mono ?_; rintro e w' ⟨rfl, rfl⟩)
        | (go_at_call 87; refine (product_any _ _ _ (by omega) (by omega) (by omega) (by omega) (by omega)).mono ?_; rintro e w' ⟨rfl, rfl⟩)
        | (go_at_call 89; refine (divide_any _ _ _ (by omega) (by omega) (by omega) (by omega)).mono ?_; rintro e w' ⟨rfl, rfl⟩))
      all_goals go_ret2
      all_goals exact ⟨two_i (by rw [H1.out hs]; rw [show _ = _ from (floor_neg0 c0 E1.out (by omega))]; rw [xorMax (by omega) (by omega)]; simp only [wrap64, IntKind.wrap_u64]; omega) rfl, rfl⟩
  · have k0 : decide (a < 0) = false := by simpa using hs
    by_cases h0 : 0 < sizeI a * b % c
    · have g0 : decide (0 < sizeI a * b % c) = true := by simpa using h0
      have g0a : (sizeI a * b % c == 0) = false := by simp; omega
      have g0b : (sizeI a * b % c != 0) = true := by simp; omega
      go_enter Tryd.func80, Tryd.ntmps80
      go_wp2_with (first
        | (go_at_call 88; refine (refsize_any _ _ (by omega) (by omega)).mono ?_; rintro e w' ⟨rfl, rfl⟩)
        | (go_at_call 87; refine (product_any _ _ _ (by omega) (by omega) (by omega) (by omega) (by omega)).mono ?_; rintro e w' ⟨rfl, rfl⟩)
        | (go_at_call 89; refine (divide_any _ _ _ (by omega) (by omega) (by omega) (by omega)).mono ?_; rintro e w' ⟨rfl, rfl⟩))
      all_goals go_ret2
      all_goals exact ⟨two_i (by rw [H2.out (by omega)]; rw [show _ = _ from (floor_pos c0 E1.out r0 r1)]) rfl, rfl⟩
    · have g0 : decide (0 < sizeI a * b % c) = false := by simpa using h0
      have g0a : (sizeI a * b % c == 0) = true := by simp; omega
      have g0b : (sizeI a * b % c != 0) = false := by simp; omega
      go_enter Tryd.func80, Tryd.ntmps80
      go_wp2_with (first
        | (go_at_call 88; refine (refsize_any _ _ (by omega) (by omega)).mono ?_; rintro e w' ⟨rfl, rfl⟩)
        | (go_at_call 87; refine (product_any _ _ _ (by omega) (by omega) (by omega) (by omega) (by omega)).mono ?_; rintro e w' ⟨rfl, rfl⟩)
        | (go_at_call 89; refine (divide_any _ _ _ (by omega) (by omega) (by omega) (by omega)).mono ?_; rintro e w' ⟨rfl, rfl⟩))
      all_goals go_ret2
      all_goals exact ⟨two_i (by rw [H2.out (by omega)]; rw [show _ = _ from (floor_pos c0 E1.out r0 r1)]) rfl, rfl⟩
set_option maxHeartbeats 2000000 in
set_option maxRecDepth 100000 in
theorem quotient_near (a b c : Int) (w : World) (a0 : -9223372036854775808 ≤ a) (a1 : a ≤ 9223372036854775807) (b0 : 0 ≤ b) (b1 : b ≤ 9223372036854775807) (c0 : 0 < c) (c1 : c ≤ 9223372036854775807) (h0 : -9223372036854775808 < a * b) (h1 : a * b < 9223372036854775808) :
    Calls Tryd.prog 80 #[.int .i64 a, .int .i64 b, .int .i64 c, .int .i64 2] w fun e w' => e = .returned (.tuple #[.int .i64 (nearI2 (a * b) c), .int .i64 0]) ∧ w = w' := by
  obtain ⟨n0, n1, A1, A2⟩ := size_mul b0 h0 h1
  have H1 := Lib.hid A1
  have H2 := Lib.hid A2
  clear A1 A2
  have sb : sizeI b = b := by unfold sizeI; rw [if_neg (by omega)]
  have sc : sizeI c = c := by unfold sizeI; rw [if_neg (by omega)]
  have sa := sizeI_nonneg a
  have sa2 : sizeI a ≤ 9223372036854775808 := by unfold sizeI; split <;> omega
  obtain ⟨e1, q0, q1, r0, r1⟩ := div_facts n0 n1 c0
  have k1 : decide (b < 0) = false := by simp; omega
  have k2 : decide (c < 0) = false := by simp; omega
  have k3 : (c == 0) = false := by simp; omega
  have k5 : (sizeI a * b / c == 9223372036854775808) = false := by simp; omega
  have E1 := Lib.hid e1
  clear e1
  have QQ := Lib.hid (fun h : 2 ≤ c => show sizeI a * b / c ≤ 4611686018427387904 from Int.ediv_le_of_le_mul c0 (by omega))
  by_cases hs : a < 0
  · have k0 : decide (a < 0) = true := by simpa using hs
    by_cases h0 : 0 < sizeI a * b % c
    · by_cases h1 : c - sizeI a * b % c < sizeI a * b % c
      · have g0 : decide (0 < sizeI a * b % c) = true := by simpa using h0
        have g0a : (sizeI a * b % c == 0) = false := by simp; omega
        have g0b : (sizeI a * b % c != 0) = true := by simp; omega
        have g1 : decide (c - sizeI a * b % c < sizeI a * b % c) = true := by simpa using h1
        have qq := QQ.out (by omega)
        have qz : (sizeI a * b / c + 1 == 0) = false := by simp; omega
        have qm : (sizeI a * b / c + 1 == 9223372036854775808) = false := by simp; omega
        go_enter Tryd.func80, Tryd.ntmps80
        go_wp2_with (first
          | (go_at_call 88; refine (refsize_any _ _ (by omega) (by omega)).mono ?_; rintro e w' ⟨rfl, rfl⟩)
          | (go_at_call 87; refine (product_any _ _ _ (by omega) (by omega) (by omega) (by omega) (by omega)).mono ?_; rintro e w' ⟨rfl, rfl⟩)
          | (go_at_call 89; refine (divide_any _ _ _ (by omega) (by omega) (by omega) (by omega)).mono ?_; rintro e w' ⟨rfl, rfl⟩))
        all_goals go_ret2
        all_goals exact ⟨two_i (by rw [H1.out hs]; rw [show _ = _ from (near_neg1 c0 E1.out h1 r1)]; rw [xorMax (by omega) (by omega)]; simp only [wrap64, IntKind.wrap_u64]; omega) rfl, rfl⟩
      · by_cases h2 : sizeI a * b % c = c - sizeI a * b % c
        · have g0 : decide (0 < sizeI a * b % c) = true := by simpa using h0
          have g0a : (sizeI a * b % c == 0) = false := by simp; omega
          have g0b : (sizeI a * b % c != 0) = true := by simp; omega
          have g1 : decide (c - sizeI a * b % c < sizeI a * b % c) = false := by simpa using h1
          have g2 : (sizeI a * b % c == c - sizeI a * b % c) = true := by simpa using h2
          have h2' : c - sizeI a * b % c ≤ sizeI a * b % c := by omega
          clear h2
          go_enter Tryd.func80, Tryd.ntmps80
          go_wp2_with (first
            | (go_at_call 88; refine (refsize_any _ _ (by omega) (by omega)).mono ?_; rintro e w' ⟨rfl, rfl⟩)
            | (go_at_call 87; refine (product_any _ _ _ (by omega) (by omega) (by omega) (by omega) (by omega)).mono ?_; rintro e w' ⟨rfl, rfl⟩)
            | (go_at_call 89; refine (divide_any _ _ _ (by omega) (by omega) (by omega) (by omega)).mono ?_; rintro e w' ⟨rfl, rfl⟩))
          all_goals go_ret2
          all_goals exact ⟨two_i (by rw [H1.out hs]; rw [show _ = _ from (near_neg0 c0 E1.out r0 (by omega))]; rw [xorMax (by omega) (by omega)]; simp only [wrap64, IntKind.wrap_u64]; omega) rfl, rfl⟩
        · have g0 : decide (0 < sizeI a * b % c) = true := by simpa using h0
          have g0a : (sizeI a * b % c == 0) = false := by simp; omega
          have g0b : (sizeI a * b % c != 0) = true := by simp; omega
          have g1 : decide (c - sizeI a * b % c < sizeI a * b % c) = false := by simpa using h1
          have g2 : (sizeI a * b % c == c - sizeI a * b % c) = false := by simpa using h2
          have h2' : sizeI a * b % c < c - sizeI a * b % c := by omega
          clear h2
          go_enter Tryd.func80, Tryd.ntmps80
          go_wp2_with (first
            | (go_at_call 88; refine (refsize_any _ _ (by omega) (by omega)).mono ?_; rintro e w' ⟨rfl, rfl⟩)
            | (go_at_call 87; refine (product_any _ _ _ (by omega) (by omega) (by omega) (by omega) (by omega)).mono ?_; rintro e w' ⟨rfl, rfl⟩)
            | (go_at_call 89; refine (divide_any _ _ _ (by omega) (by omega) (by omega) (by omega)).mono ?_; rintro e w' ⟨rfl, rfl⟩))
          all_goals go_ret2
          all_goals exact ⟨two_i (by rw [H1.out hs]; rw [show _ = _ from (near_neg0 c0 E1.out r0 (by omega))]; rw [xorMax (by omega) (by omega)]; simp only [wrap64, IntKind.wrap_u64]; omega) rfl, rfl⟩
    · by_cases h1 : c - sizeI a * b % c < sizeI a * b % c
      · have g0 : decide (0 < sizeI a * b % c) = false := by simpa using h0
        have g0a : (sizeI a * b % c == 0) = true := by simp; omega
        have g0b : (sizeI a * b % c != 0) = false := by simp; omega
        have g1 : decide (c - sizeI a * b % c < sizeI a * b % c) = true := by simpa using h1
        have qq := QQ.out (by omega)
        have qz : (sizeI a * b / c + 1 == 0) = false := by simp; omega
        have qm : (sizeI a * b / c + 1 == 9223372036854775808) = false := by simp; omega
        go_enter Tryd.func80, Tryd.ntmps80
        go_wp2_with (first
          | (go_at_call 88; refine (refsize_any _ _ (by omega) (by omega)).mono ?_; rintro e w' ⟨rfl, rfl⟩)
          | (go_at_call 87; refine (product_any _ _ _ (by omega) (by omega) (by omega) (by omega) (by omega)).mono ?_; rintro e w' ⟨rfl, rfl⟩)
          | (go_at_call 89; refine (divide_any _ _ _ (by omega) (by omega) (by omega) (by omega)).mono ?_; rintro e w' ⟨rfl, rfl⟩))
        all_goals go_ret2
        all_goals exact ⟨two_i (by rw [H1.out hs]; rw [show _ = _ from (near_neg1 c0 E1.out h1 r1)]; rw [xorMax (by omega) (by omega)]; simp only [wrap64, IntKind.wrap_u64]; omega) rfl, rfl⟩
      · by_cases h2 : sizeI a * b % c = c - sizeI a * b % c
        · have g0 : decide (0 < sizeI a * b % c) = false := by simpa using h0
          have g0a : (sizeI a * b % c == 0) = true := by simp; omega
          have g0b : (sizeI a * b % c != 0) = false := by simp; omega
          have g1 : decide (c - sizeI a * b % c < sizeI a * b % c) = false := by simpa using h1
          have g2 : (sizeI a * b % c == c - sizeI a * b % c) = true := by simpa using h2
          have h2' : c - sizeI a * b % c ≤ sizeI a * b % c := by omega
          clear h2
          go_enter Tryd.func80, Tryd.ntmps80
          go_wp2_with (first
            | (go_at_call 88; refine (refsize_any _ _ (by omega) (by omega)).mono ?_; rintro e w' ⟨rfl, rfl⟩)
            | (go_at_call 87; refine (product_any _ _ _ (by omega) (by omega) (by omega) (by omega) (by omega)).mono ?_; rintro e w' ⟨rfl, rfl⟩)
            | (go_at_call 89; refine (divide_any _ _ _ (by omega) (by omega) (by omega) (by omega)).mono ?_; rintro e w' ⟨rfl, rfl⟩))
          all_goals go_ret2
          all_goals exact ⟨two_i (by rw [H1.out hs]; rw [show _ = _ from (near_neg0 c0 E1.out r0 (by omega))]; rw [xorMax (by omega) (by omega)]; simp only [wrap64, IntKind.wrap_u64]; omega) rfl, rfl⟩
        · have g0 : decide (0 < sizeI a * b % c) = false := by simpa using h0
          have g0a : (sizeI a * b % c == 0) = true := by simp; omega
          have g0b : (sizeI a * b % c != 0) = false := by simp; omega
          have g1 : decide (c - sizeI a * b % c < sizeI a * b % c) = false := by simpa using h1
          have g2 : (sizeI a * b % c == c - sizeI a * b % c) = false := by simpa using h2
          have h2' : sizeI a * b % c < c - sizeI a * b % c := by omega
          clear h2
          go_enter Tryd.func80, Tryd.ntmps80
          go_wp2_with (first
            | (go_at_call 88; refine (refsize_any _ _ (by omega) (by omega)).mono ?_; rintro e w' ⟨rfl, rfl⟩)
            | (go_at_call 87; refine (product_any _ _ _ (by omega) (by omega) (by omega) (by omega) (by omega)).mono ?_; rintro e w' ⟨rfl, rfl⟩)
            | (go_at_call 89; refine (divide_any _ _ _ (by omega) (by omega) (by omega) (by omega)).mono ?_; rintro e w' ⟨rfl, rfl⟩))
          all_goals go_ret2
          all_goals exact ⟨two_i (by rw [H1.out hs]; rw [show _ = _ from (near_neg0 c0 E1.out r0 (by omega))]; rw [xorMax (by omega) (by omega)]; simp only [wrap64, IntKind.wrap_u64]; omega) rfl, rfl⟩
  · have k0 : decide (a < 0) = false := by simpa using hs
    by_cases h0 : 0 < sizeI a * b % c
    · by_cases h1 : c - sizeI a * b % c < sizeI a * b % c
      · have g0 : decide (0 < sizeI a * b % c) = true := by simpa using h0
        have g0a : (sizeI a * b % c == 0) = false := by simp; omega
        have g0b : (sizeI a * b % c != 0) = true := by simp; omega
        have g1 : decide (c - sizeI a * b % c < sizeI a * b % c) = true := by simpa using h1
        have qq := QQ.out (by omega)
        have qz : (sizeI a * b / c + 1 == 0) = false := by simp; omega
        have qm : (sizeI a * b / c + 1 == 9223372036854775808) = false := by simp; omega
        go_enter Tryd.func80, Tryd.ntmps80
        go_wp2_with (first
          | (go_at_call 88; refine (refsize_any _ _ (by omega) (by omega)).mono ?_; rintro e w' ⟨rfl, rfl⟩)
          | (go_at_call 87; refine (product_any _ _ _ (by omega) (by omega) (by omega) (by omega) (by omega)).mono ?_; rintro e w' ⟨rfl, rfl⟩)
          | (go_at_call 89; refine (divide_any _ _ _ (by omega) (by omega) (by omega) (by omega)).mono ?_; rintro e w' ⟨rfl, rfl⟩))
        all_goals go_ret2
        all_goals exact ⟨two_i (by rw [H2.out (by omega)]; rw [show _ = _ from (near_pos1 c0 E1.out (by omega) r1)]) rfl, rfl⟩
      · by_cases h2 : sizeI a * b % c = c - sizeI a * b % c
        · have g0 : decide (0 < sizeI a * b % c) = true := by simpa using h0
          have g0a : (sizeI a * b % c == 0) = false := by simp; omega
          have g0b : (sizeI a * b % c != 0) = true := by simp; omega
          have g1 : decide (c - sizeI a * b % c < sizeI a * b % c) = false := by simpa using h1
          have g2 : (sizeI a * b % c == c - sizeI a * b % c) = true := by simpa using h2
          have h2' : c - sizeI a * b % c ≤ sizeI a * b % c := by omega
          clear h2
          have qq := QQ.out (by omega)
          have qz : (sizeI a * b / c + 1 == 0) = false := by simp; omega
          have qm : (sizeI a * b / c + 1 == 9223372036854775808) = false := by simp; omega
          go_enter Tryd.func80, Tryd.ntmps80
          go_wp2_with (first
            | (go_at_call 88; refine (refsize_any _ _ (by omega) (by omega)).mono ?_; rintro e w' ⟨rfl, rfl⟩)
            | (go_at_call 87; refine (product_any _ _ _ (by omega) (by omega) (by omega) (by omega) (by omega)).mono ?_; rintro e w' ⟨rfl, rfl⟩)
            | (go_at_call 89; refine (divide_any _ _ _ (by omega) (by omega) (by omega) (by omega)).mono ?_; rintro e w' ⟨rfl, rfl⟩))
          all_goals go_ret2
          all_goals exact ⟨two_i (by rw [H2.out (by omega)]; rw [show _ = _ from (near_pos1 c0 E1.out (by omega) r1)]) rfl, rfl⟩
        · have g0 : decide (0 < sizeI a * b % c) = true := by simpa using h0
          have g0a : (sizeI a * b % c == 0) = false := by simp; omega
          have g0b : (sizeI a * b % c != 0) = true := by simp; omega
          have g1 : decide (c - sizeI a * b % c < sizeI a * b % c) = false := by simpa using h1
          have g2 : (sizeI a * b % c == c - sizeI a * b % c) = false := by simpa using h2
          have h2' : sizeI a * b % c < c - sizeI a * b % c := by omega
          clear h2
          go_enter Tryd.func80, Tryd.ntmps80
          go_wp2_with (first
            | (go_at_call 88; refine (refsize_any _ _ (by omega) (by omega)).mono ?_; rintro e w' ⟨rfl, rfl⟩)
            | (go_at_call 87; refine (product_any _ _ _ (by omega) (by omega) (by omega) (by omega) (by omega)).mono ?_; rintro e w' ⟨rfl, rfl⟩)
            | (go_at_call 89; refine (divide_any _ _ _ (by omega) (by omega) (by omega) (by omega)).mono ?_; rintro e w' ⟨rfl, rfl⟩))
          all_goals go_ret2
          all_goals exact ⟨two_i (by rw [H2.out (by omega)]; rw [show _ = _ from (near_pos0 c0 E1.out r0 (by omega))]) rfl, rfl⟩
    · by_cases h1 : c - sizeI a * b % c < sizeI a * b % c
      · have g0 : decide (0 < sizeI a * b % c) = false := by simpa using h0
        have g0a : (sizeI a * b % c == 0) = true := by simp; omega
        have g0b : (sizeI a * b % c != 0) = false := by simp; omega
        have g1 : decide (c - sizeI a * b % c < sizeI a * b % c) = true := by simpa using h1
        have qq := QQ.out (by omega)
        have qz : (sizeI a * b / c + 1 == 0) = false := by simp; omega
        have qm : (sizeI a * b / c + 1 == 9223372036854775808) = false := by simp; omega
        go_enter Tryd.func80, Tryd.ntmps80
        go_wp2_with (first
          | (go_at_call 88; refine (refsize_any _ _ (by omega) (by omega)).mono ?_; rintro e w' ⟨rfl, rfl⟩)
          | (go_at_call 87; refine (product_any _ _ _ (by omega) (by omega) (by omega) (by omega) (by omega)).mono ?_; rintro e w' ⟨rfl, rfl⟩)
          | (go_at_call 89; refine (divide_any _ _ _ (by omega) (by omega) (by omega) (by omega)).mono ?_; rintro e w' ⟨rfl, rfl⟩))
        all_goals go_ret2
        all_goals exact ⟨two_i (by rw [H2.out (by omega)]; rw [show _ = _ from (near_pos1 c0 E1.out (by omega) r1)]) rfl, rfl⟩
      · by_cases h2 : sizeI a * b % c = c - sizeI a * b % c
        · have g0 : decide (0 < sizeI a * b % c) = false := by simpa using h0
          have g0a : (sizeI a * b % c == 0) = true := by simp; omega
          have g0b : (sizeI a * b % c != 0) = false := by simp; omega
          have g1 : decide (c - sizeI a * b % c < sizeI a * b % c) = false := by simpa using h1
          have g2 : (sizeI a * b % c == c - sizeI a * b % c) = true := by simpa using h2
          have h2' : c - sizeI a * b % c ≤ sizeI a * b % c := by omega
          clear h2
          have qq := QQ.out (by omega)
          have qz : (sizeI a * b / c + 1 == 0) = false := by simp; omega
          have qm : (sizeI a * b / c + 1 == 9223372036854775808) = false := by simp; omega
          go_enter Tryd.func80, Tryd.ntmps80
          go_wp2_with (first
            | (go_at_call 88; refine (refsize_any _ _ (by omega) (by omega)).mono ?_; rintro e w' ⟨rfl, rfl⟩)
            | (go_at_call 87; refine (product_any _ _ _ (by omega) (by omega) (by omega) (by omega) (by omega)).mono ?_; rintro e w' ⟨rfl, rfl⟩)
            | (go_at_call 89; refine (divide_any _ _ _ (by omega) (by omega) (by omega) (by omega)).mono ?_; rintro e w' ⟨rfl, rfl⟩))
          all_goals go_ret2
          all_goals exact ⟨two_i (by rw [H2.out (by omega)]; rw [show _ = _ from (near_pos1 c0 E1.out (by omega) r1)]) rfl, rfl⟩
        · have g0 : decide (0 < sizeI a * b % c) = false := by simpa using h0
          have g0a : (sizeI a * b % c == 0) = true := by simp; omega
          have g0b : (sizeI a * b % c != 0) = false := by simp; omega
          have g1 : decide (c - sizeI a * b % c < sizeI a * b % c) = false := by simpa using h1
          have g2 : (sizeI a * b % c == c - sizeI a * b % c) = false := by simpa using h2
          have h2' : sizeI a * b % c < c - sizeI a * b % c := by omega
          clear h2
          go_enter Tryd.func80, Tryd.ntmps80
          go_wp2_with (first
            | (go_at_call 88; refine (refsize_any _ _ (by omega) (by omega)).mono ?_; rintro e w' ⟨rfl, rfl⟩)
            | (go_at_call 87; refine (product_any _ _ _ (by omega) (by omega) (by omega) (by omega) (by omega)).mono ?_; rintro e w' ⟨rfl, rfl⟩)
            | (go_at_call 89; refine (divide_any _ _ _ (by omega) (by omega) (by omega) (by omega)).mono ?_; rintro e w' ⟨rfl, rfl⟩))
          all_goals go_ret2
          all_goals exact ⟨two_i (by rw [H2.out (by omega)]; rw [show _ = _ from (near_pos0 c0 E1.out r0 (by omega))]) rfl, rfl⟩
end Go.Proofs.YtnaokohffelklaaDoor
