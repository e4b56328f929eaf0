/-
  The walks of the reference's Product and Divide.
-/
import Derived.Test.YtnaokohffelklaaDoorProg
import Derived.Test.YtnaokohffelklaaDoorRefDivPlain
import Derived.Test.YtnaokohffelklaaDoorFixScale
import Derived.WalkKit
import Derived.WalkSpells
import Derived.Lib.Hide
import Derived.Lib.Mul64
import Derived.Laws.Bits64b
namespace Go.Proofs.YtnaokohffelklaaDoor
set_option linter.unusedVariables false
open Go.RowKit

theorem wrapM (a : Nat) : IntKind.u64.wrap (a : Int) = ((a % 18446744073709551616 : Nat) : Int) := by rw [IntKind.wrap_u64]; omega
theorem three_i {k : IntKind} {a b c d e f : Int} (h : a = b) (h' : c = d) (h'' : e = f) : Ending.returned (.tuple #[.int k a, .int k c, .int k e]) = .returned (.tuple #[.int k b, .int k d, .int k f]) := by rw [h, h', h'']
theorem orI {x y : Int} {a b : Nat} (hx : x = ((2 * a % 18446744073709551616 : Nat) : Int)) (hy : y = (b : Int)) (hb : b < 2) : bits .or .u64 x y = ((2 * a % 18446744073709551616 + b : Nat) : Int) := by
  rw [hx, hy, bits_or_u64_nat _ _ (by omega) (by omega), or_bit a b hb]
theorem vu {k : IntKind} {a b : Int} (h : a = b) : Value.int k a = .int k b := by rw [h]
set_option maxRecDepth 100000 in
set_option maxHeartbeats 2000000 in
theorem divide_nat (N c : Nat) (w : World) (hN : N < 9223372036854775808) (hc : 1 ≤ c) (hc1 : c < 9223372036854775808) :
    Calls Tryd.prog 89 #[.int .u64 0, .int .u64 (N : Int), .int .u64 (c : Int)] w fun e w' => e = .returned (.tuple #[.int .u64 0, .int .u64 ((N / c : Nat) : Int), .int .u64 ((N % c : Nat) : Int)]) ∧ w = w' := by
  go_enter Tryd.func89, Tryd.ntmps89
  go_wp2
  go_loop [0, 1, 6, 7, 8, 9] (fun hi lo qh ql r i => ∃ k h l q s : Nat, DivInv N c k h l q s ∧ hi = .int .u64 (h : Int) ∧ lo = .int .u64 (l : Int) ∧ qh = .int .u64 0 ∧ ql = .int .u64 (q : Int) ∧ r = .int .u64 (s : Int) ∧ i = .int .i64 (k : Int)) (fun _ _ _ _ _ i => 128 - (intOf i).toNat)
  case atStart => exact ⟨0, 0, N, 0, 0, DivInv.start (by omega) hc, rfl, rfl, rfl, rfl, rfl, rfl⟩
  case round =>
    obtain ⟨k, h, l, q, s, hI, rfl, rfl, rfl, rfl, rfl, rfl⟩ := hrel
    have b6 := hI.qN hc
    have HI := Lib.hid hI
    obtain ⟨b1, b2, b3, b4, b5⟩ := hI
    clear b5
    by_cases hk : k < 128
    · have o1 : bits .or .u64 ((s : Int) * 2) ((h : Int) / 9223372036854775808) = 2 * (s : Int) + (h : Int) / 9223372036854775808 := by
        rw [orI (a := s) (b := h / 9223372036854775808) (by omega) (by omega) (by omega)]; omega
      have o2 : bits .or .u64 (IntKind.u64.wrap ((h : Int) * 2)) ((l : Int) / 9223372036854775808) = ((2 * h % 18446744073709551616 + l / 9223372036854775808 : Nat) : Int) :=
        orI (a := h) (b := l / 9223372036854775808) (by rw [IntKind.wrap_u64]; omega) (by omega) (by omega)
      have o3 : bits .or .u64 0 ((q : Int) / 9223372036854775808) = 0 := by
        rw [orI (a := 0) (b := 0) (by omega) (by omega) (by omega)]; rfl
      have o4 : bits .or .u64 ((q : Int) * 2) 1 = 2 * (q : Int) + 1 := by
        rw [orI (a := q) (b := 1) (by omega) (by omega) (by omega)]; omega
      have t0 : ((s : Int) / 9223372036854775808 == 1) = false := by simp; omega
      by_cases h1 : c ≤ 2 * s + h / 9223372036854775808
      · have t1 : decide ((c : Int) ≤ 2 * (s : Int) + (h : Int) / 9223372036854775808) = true := by simp; omega
        go_wp2
        go_round
        case rel => exact ⟨k + 1, _, _, _, _, HI.out.one hk h1, rfl, vu (by rw [IntKind.wrap_u64]; omega), rfl, vu (by omega), vu (by omega), by go_num⟩
        case measure => simp [intOf]; omega
      · have t1 : decide ((c : Int) ≤ 2 * (s : Int) + (h : Int) / 9223372036854775808) = false := by simp; omega
        go_wp2
        go_round
        case rel => exact ⟨k + 1, _, _, _, _, HI.out.zero hk h1, rfl, vu (by rw [IntKind.wrap_u64]; omega), rfl, vu (by omega), vu (by omega), by go_num⟩
        case measure => simp [intOf]; omega
    · obtain rfl : k = 128 := by omega
      obtain ⟨e1, e2⟩ := HI.out.done
      subst e1 e2
      go_wp2
      go_ret3
      exact ⟨rfl, rfl⟩
theorem maskN (a : Nat) (ha : a < 18446744073709551616) : bits .and .u64 (a : Int) 4294967295 = ((a % 4294967296 : Nat) : Int) := by
  have h := bits_and_u64_nat a 4294967295 ha (by omega)
  have e : a &&& 4294967295 = a % 4294967296 := Nat.and_two_pow_sub_one_eq_mod a 32
  rw [e] at h
  exact h
theorem divN (a : Nat) : (a : Int) / 4294967296 = ((a / 4294967296 : Nat) : Int) := by omega
theorem mulN (a b : Nat) : (a : Int) * (b : Int) = ((a * b : Nat) : Int) := (Int.natCast_mul a b).symm
theorem addN (a b : Nat) : (a : Int) + (b : Int) = ((a + b : Nat) : Int) := (Int.natCast_add a b).symm
theorem wrapN (a : Nat) (ha : a < 18446744073709551616) : IntKind.u64.wrap (a : Int) = (a : Int) := by rw [IntKind.wrap_u64]; omega
theorem orHalf (a b : Nat) (hb : b < 4294967296) : bits .or .u64 (IntKind.u64.wrap ((a : Int) * 4294967296)) (b : Int) = ((4294967296 * (a % 4294967296) + b : Nat) : Int) := by
  rw [show IntKind.u64.wrap ((a : Int) * 4294967296) = ((4294967296 * (a % 4294967296) : Nat) : Int) by rw [IntKind.wrap_u64]; omega, bits_or_u64_nat _ _ (by omega) (by omega), or_half _ _ hb]
theorem mul_parts (x y : Nat) : x * y = x / 4294967296 * (y / 4294967296) * 18446744073709551616 + (x / 4294967296 * (y % 4294967296) + x % 4294967296 * (y / 4294967296)) * 4294967296 + x % 4294967296 * (y % 4294967296) := by
  have hx : x = 4294967296 * (x / 4294967296) + x % 4294967296 := by omega
  have hy : y = 4294967296 * (y / 4294967296) + y % 4294967296 := by omega
  generalize x / 4294967296 = a at *
  generalize x % 4294967296 = b at *
  generalize y / 4294967296 = c at *
  generalize y % 4294967296 = d at *
  subst hx hy
  grind
set_option maxHeartbeats 1000000 in
theorem product_nat (x y : Nat) (w : World) (hx : x < 18446744073709551616) (hy : y < 18446744073709551616) (h : x * y < 18446744073709551616) :
    Calls Tryd.prog 87 #[.int .u64 (x : Int), .int .u64 (y : Int)] w fun e w' => e = .returned (.tuple #[.int .u64 0, .int .u64 ((x * y : Nat) : Int)]) ∧ w = w' := by
  obtain ⟨bd, bt, bw, hhi⟩ := Lib.mul64_hi x y hx hy
  have hp := mul_parts x y
  have ba := Lib.half_mul_le (a := x / 4294967296) (b := y / 4294967296) (by omega) (by omega)
  have bb := Lib.half_mul_le (a := x / 4294967296) (b := y % 4294967296) (by omega) (by omega)
  have bc := Lib.half_mul_le (a := x % 4294967296) (b := y / 4294967296) (by omega) (by omega)
  have ba' : x / 4294967296 * (y / 4294967296) < 18446744073709551616 := by omega
  have bb' : x / 4294967296 * (y % 4294967296) < 18446744073709551616 := by omega
  have bc' : x % 4294967296 * (y / 4294967296) < 18446744073709551616 := by omega
  have bw' : x % 4294967296 * (y / 4294967296) + (x / 4294967296 * (y % 4294967296) + x % 4294967296 * (y % 4294967296) / 4294967296) % 4294967296 < 18446744073709551616 := by omega
  have bh1 : x / 4294967296 * (y / 4294967296) + (x / 4294967296 * (y % 4294967296) + x % 4294967296 * (y % 4294967296) / 4294967296) / 4294967296 < 18446744073709551616 := by omega
  have bh : x / 4294967296 * (y / 4294967296) + (x / 4294967296 * (y % 4294967296) + x % 4294967296 * (y % 4294967296) / 4294967296) / 4294967296 + (x % 4294967296 * (y / 4294967296) + (x / 4294967296 * (y % 4294967296) + x % 4294967296 * (y % 4294967296) / 4294967296) % 4294967296) / 4294967296 < 18446744073709551616 := by omega
  have HP := Lib.hid hp
  have HH := Lib.hid hhi
  clear hp hhi
  go_enter Tryd.func87, Tryd.ntmps87
  go_wp2
  simp only [maskN x hx, maskN y hy, divN, mulN, addN, wrapN _ bd, wrapN _ bb', wrapN _ bt, maskN _ bt, wrapN _ bc', wrapN _ bw', wrapN _ ba', wrapN _ bh1, wrapN _ bh, maskN _ bd, orHalf _ _ (Nat.mod_lt _ (by decide : 0 < 4294967296))]
  go_ret2
  refine ⟨two_i ?_ ?_, rfl⟩
  · have := HP.out
    omega
  · have := HP.out
    omega
end Go.Proofs.YtnaokohffelklaaDoor
