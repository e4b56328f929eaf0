/-
  The walk of layer 1's scale, whose product fits in 63 bits and whose divisor is positive.
-/
import Derived.Test.YtnaokohffelklaaDoorShelf
import Derived.Test.YtnaokohffelklaaDoorFixPlain
import Derived.WalkKit
import Derived.WalkSpells
import Derived.Lib.Hide
import Derived.Deep.QuietTactic
import Derived.BigQuiet
import Derived.Laws.Bits64
import Derived.IntWalk
namespace Go.Proofs.YtnaokohffelklaaDoor
set_option linter.unusedVariables false
open Go.RowKit

theorem ret_u {k : IntKind} {a b : Int} (h : a = b) : Ending.returned (.int k a) = .returned (.int k b) := by rw [h]
theorem two_i {k l : IntKind} {a b c d : Int} (h : a = b) (h' : c = d) : Ending.returned (.tuple #[.int k a, .int l c]) = .returned (.tuple #[.int k b, .int l d]) := by rw [h, h']
theorem size_any (a : Int) (w : World) (h0 : -9223372036854775808 ≤ a) (h1 : a ≤ 9223372036854775807) :
    Calls Tryd.prog 69 #[.int .i64 a] w fun e w' => e = .returned (.int .u64 (sizeI a)) ∧ w = w' := by
  by_cases h : a < 0
  · have E := Lib.hid (show sizeI a = -a by unfold sizeI; rw [if_pos h])
    have g : decide (a < 0) = true := by simpa using h
    go_enter Tryd.func69, Tryd.ntmps69
    go_wp2
    go_ret
    exact ⟨ret_u (by rw [E.out]; simp only [IntKind.wrap_u64]; omega), rfl⟩
  · have E := Lib.hid (show sizeI a = a by unfold sizeI; rw [if_neg h])
    have g : decide (a < 0) = false := by simpa using h
    go_enter Tryd.func69, Tryd.ntmps69
    go_wp2
    go_ret
    exact ⟨ret_u (by rw [E.out]), rfl⟩
theorem signed_pos (n : Int) (w : World) (h0 : 0 ≤ n) (h1 : n < 9223372036854775808) :
    Calls Tryd.prog 72 #[.int .u64 n, .bool false] w fun e w' => e = .returned (.tuple #[.int .i64 n, .int .i64 0]) ∧ w = w' := by
  go_enter Tryd.func72, Tryd.ntmps72
  go_wp2
  go_ret2
  exact ⟨two_i rfl rfl, rfl⟩
theorem signed_neg (n : Int) (w : World) (h0 : 0 ≤ n) (h1 : n ≤ 9223372036854775808) :
    Calls Tryd.prog 72 #[.int .u64 n, .bool true] w fun e w' => e = .returned (.tuple #[.int .i64 (-n), .int .i64 0]) ∧ w = w' := by
  go_enter Tryd.func72, Tryd.ntmps72
  go_wp2
  go_ret2
  exact ⟨two_i (by simp only [wrap64, IntKind.wrap_u64]; omega) rfl, rfl⟩
theorem mul64_any (x y : Int) (w : World) (hx : 0 ≤ x) (hx' : x < 18446744073709551616) (hy : 0 ≤ y) (hy' : y < 18446744073709551616) (h : x * y < 18446744073709551616) :
    Calls Tryd.prog 70 #[.int .u64 x, .int .u64 y] w fun e w' => e = .returned (.tuple #[.int .u64 0, .int .u64 (x * y)]) ∧ w = w' := by
  obtain ⟨a, rfl⟩ := Int.eq_ofNat_of_zero_le hx
  obtain ⟨b, rfl⟩ := Int.eq_ofNat_of_zero_le hy
  have hn : a * b < 18446744073709551616 := by have : ((a * b : Nat) : Int) < 18446744073709551616 := by rw [Int.natCast_mul]; exact h
                                               omega
  refine (Tryd.bits_Mul64 a b (by omega) (by omega) w).mono fun e w' ⟨he, hw⟩ => ⟨?_, hw.symm⟩
  rw [he, Nat.div_eq_of_lt hn, Nat.mod_eq_of_lt hn, Int.natCast_mul]
  rfl
theorem div64_any (n c : Int) (w : World) (h0 : 0 ≤ n) (h1 : n < 18446744073709551616) (c0 : 0 < c) (c1 : c < 18446744073709551616) :
    Calls Tryd.prog 71 #[.int .u64 0, .int .u64 n, .int .u64 c] w fun e w' => e = .returned (.tuple #[.int .u64 (n / c), .int .u64 (n % c)]) ∧ ∃ k, w' = w.drewN k := by
  have g : (c == 0) = false := by simp; omega
  have g2 : decide (c ≤ 0) = false := by simp; omega
  go_enter Tryd.func71, Tryd.ntmps71
  go_wp2
  go_quiet (fail)
  go_wp2
  go_ret2
  exact ⟨rfl, _, rfl⟩
/-- the sizes' product -/
theorem size_mul {a b : Int} (b0 : 0 ≤ b) (h0 : -9223372036854775808 < a * b) (h1 : a * b < 9223372036854775808) : 0 ≤ sizeI a * b ∧ sizeI a * b < 9223372036854775808 ∧ (a < 0 → a * b = -(sizeI a * b)) ∧ (0 ≤ a → a * b = sizeI a * b) := by
  unfold sizeI
  split
  · have : -a * b = -(a * b) := Int.neg_mul a b
    have := Int.mul_nonneg (show 0 ≤ -a by omega) b0
    exact ⟨by omega, by omega, fun _ => by omega, fun h => by omega⟩
  · have := Int.mul_nonneg (show 0 ≤ a by omega) b0
    exact ⟨by omega, by omega, fun h => by omega, fun _ => rfl⟩
theorem div_facts {n c : Int} (n0 : 0 ≤ n) (n1 : n < 9223372036854775808) (c0 : 0 < c) : n = c * (n / c) + n % c ∧ 0 ≤ n / c ∧ n / c < 9223372036854775808 ∧ 0 ≤ n % c ∧ n % c < c :=
  ⟨(Int.mul_ediv_add_emod n c).symm, Int.ediv_nonneg n0 (by omega), Int.lt_of_le_of_lt (Int.ediv_le_self c n0) n1, Int.emod_nonneg n (by omega), Int.emod_lt_of_pos n c0⟩
set_option maxHeartbeats 2000000 in
set_option maxRecDepth 100000 in
theorem scale_up (a b c : Int) (w : World) (a0 : -9223372036854775808 ≤ a) (a1 : a ≤ 9223372036854775807) (b0 : 0 ≤ b) (b1 : b ≤ 9223372036854775807) (c0 : 0 < c) (c1 : c ≤ 9223372036854775807) (h0 : -9223372036854775808 < a * b) (h1 : a * b < 9223372036854775808) :
    Calls Tryd.prog 56 #[.int .i64 a, .int .i64 b, .int .i64 c, .int .u8 1] w fun e w' => e = .returned (.tuple #[.int .i64 (ceilI (a * b) c), .int .i64 0]) ∧ ∃ k, w' = w.drewN k := by
  obtain ⟨n0, n1, A1, A2⟩ := size_mul b0 h0 h1
  have H1 := Lib.hid A1
  have H2 := Lib.hid A2
  clear A1 A2
  have sb : sizeI b = b := by unfold sizeI; rw [if_neg (by omega)]
  have sc : sizeI c = c := by unfold sizeI; rw [if_neg (by omega)]
  have sa := sizeI_nonneg a
  have sa2 : sizeI a ≤ 9223372036854775808 := by unfold sizeI; split <;> omega
  obtain ⟨e1, q0, q1, r0, r1⟩ := div_facts n0 n1 c0
  have k1 : decide (b < 0) = false := by simp; omega
  have k2 : decide (c < 0) = false := by simp; omega
  have k3 : (c == 0) = false := by simp; omega
  have k4 : decide (c ≤ 0) = false := by simp; omega
  have k5 : (sizeI a * b / c == 18446744073709551615) = false := by simp; omega
  have E1 := Lib.hid e1
  clear e1
  have QQ := Lib.hid (fun h : 2 ≤ c => show sizeI a * b / c ≤ 4611686018427387904 from Int.ediv_le_of_le_mul c0 (by omega))
  by_cases hs : a < 0
  · have k0 : decide (a < 0) = true := by simpa using hs
    go_enter Tryd.func56, Tryd.ntmps56
    go_wp2_with (first
      | (go_at_call 69; refine (size_any _ _ (by omega) (by omega)).mono ?_; rintro e w' ⟨rfl, rfl⟩)
      | (go_at_call 70; refine (mul64_any _ _ _ (by omega) (by omega) (by omega) (by omega) (by omega)).mono ?_; rintro e w' ⟨rfl, rfl⟩)
      | (go_at_call 71; refine (div64_any _ _ _ (by omega) (by omega) (by omega) (by omega)).mono ?_; rintro e w' ⟨rfl, kd, rfl⟩)
      | (go_at_call 72; refine (signed_neg _ _ (by omega) (by omega)).mono ?_; rintro e w' ⟨rfl, rfl⟩))
    go_ret2
    exact ⟨two_i (by rw [H1.out hs]; exact (ceil_neg c0 E1.out r0 r1).symm) rfl, _, rfl⟩
  · have k0 : decide (a < 0) = false := by simpa using hs
    by_cases h0 : 0 < sizeI a * b % c
    · have g0 : decide (0 < sizeI a * b % c) = true := by simpa using h0
      have qq := QQ.out (by omega)
      go_enter Tryd.func56, Tryd.ntmps56
      go_wp2_with (first
        | (go_at_call 69; refine (size_any _ _ (by omega) (by omega)).mono ?_; rintro e w' ⟨rfl, rfl⟩)
        | (go_at_call 70; refine (mul64_any _ _ _ (by omega) (by omega) (by omega) (by omega) (by omega)).mono ?_; rintro e w' ⟨rfl, rfl⟩)
        | (go_at_call 71; refine (div64_any _ _ _ (by omega) (by omega) (by omega) (by omega)).mono ?_; rintro e w' ⟨rfl, kd, rfl⟩)
        | (go_at_call 72; refine (signed_pos _ _ (by omega) (by omega)).mono ?_; rintro e w' ⟨rfl, rfl⟩))
      go_ret2
      exact ⟨two_i (by rw [H2.out (by omega)]; exact (ceil_pos c0 E1.out h0 r1).symm) rfl, _, rfl⟩
    · have g0 : decide (0 < sizeI a * b % c) = false := by simpa using h0
      go_enter Tryd.func56, Tryd.ntmps56
      go_wp2_with (first
        | (go_at_call 69; refine (size_any _ _ (by omega) (by omega)).mono ?_; rintro e w' ⟨rfl, rfl⟩)
        | (go_at_call 70; refine (mul64_any _ _ _ (by omega) (by omega) (by omega) (by omega) (by omega)).mono ?_; rintro e w' ⟨rfl, rfl⟩)
        | (go_at_call 71; refine (div64_any _ _ _ (by omega) (by omega) (by omega) (by omega)).mono ?_; rintro e w' ⟨rfl, kd, rfl⟩)
        | (go_at_call 72; refine (signed_pos _ _ (by omega) (by omega)).mono ?_; rintro e w' ⟨rfl, rfl⟩))
      go_ret2
      exact ⟨two_i (by rw [H2.out (by omega)]; exact (ceil_pos0 c0 E1.out (by omega)).symm) rfl, _, rfl⟩
set_option maxHeartbeats 2000000 in
set_option maxRecDepth 100000 in
theorem scale_down (a b c : Int) (w : World) (a0 : -9223372036854775808 ≤ a) (a1 : a ≤ 9223372036854775807) (b0 : 0 ≤ b) (b1 : b ≤ 9223372036854775807) (c0 : 0 < c) (c1 : c ≤ 9223372036854775807) (h0 : -9223372036854775808 < a * b) (h1 : a * b < 9223372036854775808) :
    Calls Tryd.prog 56 #[.int .i64 a, .int .i64 b, .int .i64 c, .int .u8 0] w fun e w' => e = .returned (.tuple #[.int .i64 (floorI (a * b) c), .int .i64 0]) ∧ ∃ k, w' = w.drewN k := by
  obtain ⟨n0, n1, A1, A2⟩ := size_mul b0 h0 h1
  have H1 := Lib.hid A1
  have H2 := Lib.hid A2
  clear A1 A2
  have sb : sizeI b = b := by unfold sizeI; rw [if_neg (by omega)]
  have sc : sizeI c = c := by unfold sizeI; rw [if_neg (by omega)]
  have sa := sizeI_nonneg a
  have sa2 : sizeI a ≤ 9223372036854775808 := by unfold sizeI; split <;> omega
  obtain ⟨e1, q0, q1, r0, r1⟩ := div_facts n0 n1 c0
  have k1 : decide (b < 0) = false := by simp; omega
  have k2 : decide (c < 0) = false := by simp; omega
  have k3 : (c == 0) = false := by simp; omega
  have k4 : decide (c ≤ 0) = false := by simp; omega
  have k5 : (sizeI a * b / c == 18446744073709551615) = false := by simp; omega
  have E1 := Lib.hid e1
  clear e1
  have QQ := Lib.hid (fun h : 2 ≤ c => show sizeI a * b / c ≤ 4611686018427387904 from Int.ediv_le_of_le_mul c0 (by omega))
  by_cases hs : a < 0
  · have k0 : decide (a < 0) = true := by simpa using hs
    by_cases h0 : 0 < sizeI a * b % c
    · have g0 : decide (0 < sizeI a * b % c) = true := by simpa using h0
      go_enter Tryd.func56, Tryd.ntmps56
      go_wp2_with (first
        | (go_at_call 69; refine (size_any _ _ (by omega) (by omega)).mono ?_; rintro e w' ⟨rfl, rfl⟩)
        | (go_at_call 70; refine (mul64_any _ _ _ (by omega) (by omega) (by omega) (by omega) (by omega)).mono ?_; rintro e w' ⟨rfl, rfl⟩)
        | (go_at_call 71; refine (div64_any _ _ _ (by omega) (by omega) (by omega) (by omega)).mono ?_; rintro e w' ⟨rfl, kd, rfl⟩)
        | (go_at_call 72; refine (signed_neg _ _ (by omega) (by omega)).mono ?_; rintro e w' ⟨rfl, rfl⟩))
      go_ret2
      exact ⟨two_i (by rw [H1.out hs]; exact (floor_neg c0 E1.out h0 r1).symm) rfl, _, rfl⟩
    · have g0 : decide (0 < sizeI a * b % c) = false := by simpa using h0
      go_enter Tryd.func56, Tryd.ntmps56
      go_wp2_with (first
        | (go_at_call 69; refine (size_any _ _ (by omega) (by omega)).mono ?_; rintro e w' ⟨rfl, rfl⟩)
        | (go_at_call 70; refine (mul64_any _ _ _ (by omega) (by omega) (by omega) (by omega) (by omega)).mono ?_; rintro e w' ⟨rfl, rfl⟩)
        | (go_at_call 71; refine (div64_any _ _ _ (by omega) (by omega) (by omega) (by omega)).mono ?_; rintro e w' ⟨rfl, kd, rfl⟩)
        | (go_at_call 72; refine (signed_neg _ _ (by omega) (by omega)).mono ?_; rintro e w' ⟨rfl, rfl⟩))
      go_ret2
      exact ⟨two_i (by rw [H1.out hs]; exact (floor_neg0 c0 E1.out (by omega)).symm) rfl, _, rfl⟩
  · have k0 : decide (a < 0) = false := by simpa using hs
    go_enter Tryd.func56, Tryd.ntmps56
    go_wp2_with (first
      | (go_at_call 69; refine (size_any _ _ (by omega) (by omega)).mono ?_; rintro e w' ⟨rfl, rfl⟩)
      | (go_at_call 70; refine (mul64_any _ _ _ (by omega) (by omega) (by omega) (by omega) (by omega)).mono ?_; rintro e w' ⟨rfl, rfl⟩)
      | (go_at_call 71; refine (div64_any _ _ _ (by omega) (by omega) (by omega) (by omega)).mono ?_; rintro e w' ⟨rfl, kd, rfl⟩)
      | (go_at_call 72; refine (signed_pos _ _ (by omega) (by omega)).mono ?_; rintro e w' ⟨rfl, rfl⟩))
    go_ret2
    exact ⟨two_i (by rw [H2.out (by omega)]; exact (floor_pos c0 E1.out r0 r1).symm) rfl, _, rfl⟩
set_option maxHeartbeats 2000000 in
set_option maxRecDepth 100000 in
theorem scale_near (a b c : Int) (w : World) (a0 : -9223372036854775808 ≤ a) (a1 : a ≤ 9223372036854775807) (b0 : 0 ≤ b) (b1 : b ≤ 9223372036854775807) (c0 : 0 < c) (c1 : c ≤ 9223372036854775807) (h0 : -9223372036854775808 < a * b) (h1 : a * b < 9223372036854775808) :
    Calls Tryd.prog 56 #[.int .i64 a, .int .i64 b, .int .i64 c, .int .u8 2] w fun e w' => e = .returned (.tuple #[.int .i64 (nearI2 (a * b) c), .int .i64 0]) ∧ ∃ k, w' = w.drewN k := by
  obtain ⟨n0, n1, A1, A2⟩ := size_mul b0 h0 h1
  have H1 := Lib.hid A1
  have H2 := Lib.hid A2
  clear A1 A2
  have sb : sizeI b = b := by unfold sizeI; rw [if_neg (by omega)]
  have sc : sizeI c = c := by unfold sizeI; rw [if_neg (by omega)]
  have sa := sizeI_nonneg a
  have sa2 : sizeI a ≤ 9223372036854775808 := by unfold sizeI; split <;> omega
  obtain ⟨e1, q0, q1, r0, r1⟩ := div_facts n0 n1 c0
  have k1 : decide (b < 0) = false := by simp; omega
  have k2 : decide (c < 0) = false := by simp; omega
  have k3 : (c == 0) = false := by simp; omega
  have k4 : decide (c ≤ 0) = false := by simp; omega
  have k5 : (sizeI a * b / c == 18446744073709551615) = false := by simp; omega
  have E1 := Lib.hid e1
  clear e1
  have QQ := Lib.hid (fun h : 2 ≤ c => show sizeI a * b / c ≤ 4611686018427387904 from Int.ediv_le_of_le_mul c0 (by omega))
  by_cases hs : a < 0
  · have k0 : decide (a < 0) = true := by simpa using hs
    by_cases h0 : c - sizeI a * b % c < sizeI a * b % c
    · have g0 : decide (c - sizeI a * b % c < sizeI a * b % c) = true := by simpa using h0
      go_enter Tryd.func56, Tryd.ntmps56
      go_wp2_with (first
        | (go_at_call 69; refine (size_any _ _ (by omega) (by omega)).mono ?_; rintro e w' ⟨rfl, rfl⟩)
        | (go_at_call 70; refine (mul64_any _ _ _ (by omega) (by omega) (by omega) (by omega) (by omega)).mono ?_; rintro e w' ⟨rfl, rfl⟩)
        | (go_at_call 71; refine (div64_any _ _ _ (by omega) (by omega) (by omega) (by omega)).mono ?_; rintro e w' ⟨rfl, kd, rfl⟩)
        | (go_at_call 72; refine (signed_neg _ _ (by omega) (by omega)).mono ?_; rintro e w' ⟨rfl, rfl⟩))
      go_ret2
      exact ⟨two_i (by rw [H1.out hs]; exact (near_neg1 c0 E1.out h0 r1).symm) rfl, _, rfl⟩
    · have g0 : decide (c - sizeI a * b % c < sizeI a * b % c) = false := by simpa using h0
      go_enter Tryd.func56, Tryd.ntmps56
      go_wp2_with (first
        | (go_at_call 69; refine (size_any _ _ (by omega) (by omega)).mono ?_; rintro e w' ⟨rfl, rfl⟩)
        | (go_at_call 70; refine (mul64_any _ _ _ (by omega) (by omega) (by omega) (by omega) (by omega)).mono ?_; rintro e w' ⟨rfl, rfl⟩)
        | (go_at_call 71; refine (div64_any _ _ _ (by omega) (by omega) (by omega) (by omega)).mono ?_; rintro e w' ⟨rfl, kd, rfl⟩)
        | (go_at_call 72; refine (signed_neg _ _ (by omega) (by omega)).mono ?_; rintro e w' ⟨rfl, rfl⟩))
      go_ret2
      exact ⟨two_i (by rw [H1.out hs]; exact (near_neg0 c0 E1.out r0 (by omega)).symm) rfl, _, rfl⟩
  · have k0 : decide (a < 0) = false := by simpa using hs
    by_cases h0 : c - sizeI a * b % c < sizeI a * b % c
    · have g0 : decide (c - sizeI a * b % c < sizeI a * b % c) = true := by simpa using h0
      have qq := QQ.out (by omega)
      go_enter Tryd.func56, Tryd.ntmps56
      go_wp2_with (first
        | (go_at_call 69; refine (size_any _ _ (by omega) (by omega)).mono ?_; rintro e w' ⟨rfl, rfl⟩)
        | (go_at_call 70; refine (mul64_any _ _ _ (by omega) (by omega) (by omega) (by omega) (by omega)).mono ?_; rintro e w' ⟨rfl, rfl⟩)
        | (go_at_call 71; refine (div64_any _ _ _ (by omega) (by omega) (by omega) (by omega)).mono ?_; rintro e w' ⟨rfl, kd, rfl⟩)
        | (go_at_call 72; refine (signed_pos _ _ (by omega) (by omega)).mono ?_; rintro e w' ⟨rfl, rfl⟩))
      go_ret2
      exact ⟨two_i (by rw [H2.out (by omega)]; exact (near_pos1 c0 E1.out (by omega) r1).symm) rfl, _, rfl⟩
    · by_cases h1 : sizeI a * b % c = c - sizeI a * b % c
      · have g0 : decide (c - sizeI a * b % c < sizeI a * b % c) = false := by simpa using h0
        have g1 : (sizeI a * b % c == c - sizeI a * b % c) = true := by simpa using h1
        have h1' : c - sizeI a * b % c ≤ sizeI a * b % c := by omega
        clear h1
        have qq := QQ.out (by omega)
        go_enter Tryd.func56, Tryd.ntmps56
        go_wp2_with (first
          | (go_at_call 69; refine (size_any _ _ (by omega) (by omega)).mono ?_; rintro e w' ⟨rfl, rfl⟩)
          | (go_at_call 70; refine (mul64_any _ _ _ (by omega) (by omega) (by omega) (by omega) (by omega)).mono ?_; rintro e w' ⟨rfl, rfl⟩)
          | (go_at_call 71; refine (div64_any _ _ _ (by omega) (by omega) (by omega) (by omega)).mono ?_; rintro e w' ⟨rfl, kd, rfl⟩)
          | (go_at_call 72; refine (signed_pos _ _ (by omega) (by omega)).mono ?_; rintro e w' ⟨rfl, rfl⟩))
        go_ret2
        exact ⟨two_i (by rw [H2.out (by omega)]; exact (near_pos1 c0 E1.out (by omega) r1).symm) rfl, _, rfl⟩
      · have g0 : decide (c - sizeI a * b % c < sizeI a * b % c) = false := by simpa using h0
        have g1 : (sizeI a * b % c == c - sizeI a * b % c) = false := by simpa using h1
        have h1' : sizeI a * b % c < c - sizeI a * b % c := by omega
        clear h1
        go_enter Tryd.func56, Tryd.ntmps56
        go_wp2_with (first
          | (go_at_call 69; refine (size_any _ _ (by omega) (by omega)).mono ?_; rintro e w' ⟨rfl, rfl⟩)
          | (go_at_call 70; refine (mul64_any _ _ _ (by omega) (by omega) (by omega) (by omega) (by omega)).mono ?_; rintro e w' ⟨rfl, rfl⟩)
          | (go_at_call 71; refine (div64_any _ _ _ (by omega) (by omega) (by omega) (by omega)).mono ?_; rintro e w' ⟨rfl, kd, rfl⟩)
          | (go_at_call 72; refine (signed_pos _ _ (by omega) (by omega)).mono ?_; rintro e w' ⟨rfl, rfl⟩))
        go_ret2
        exact ⟨two_i (by rw [H2.out (by omega)]; exact (near_pos0 c0 E1.out r0 (by omega)).symm) rfl, _, rfl⟩
end Go.Proofs.YtnaokohffelklaaDoor
