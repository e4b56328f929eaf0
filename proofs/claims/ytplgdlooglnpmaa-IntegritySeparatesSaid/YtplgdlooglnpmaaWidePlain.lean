/-
  Numbers of 128 bits as two words, and division bit by bit. No program in sight.
-/
import Derived.Lib.Hide
import Derived.Test.YtplgdlooglnpmaaRefDivPlain
namespace Go.Proofs.Ytplgdlooglnpmaa
set_option linter.unusedVariables false

/-- the words of a number -/
def hiW (x : Int) : Int := x / 18446744073709551616
def loW (x : Int) : Int := x % 18446744073709551616
structure FitW (x : Int) : Prop where
  lo : -170141183460469231731687303715884105728 ≤ x
  hi : x < 170141183460469231731687303715884105728
theorem lo_rng (x : Int) : 0 ≤ loW x ∧ loW x < 18446744073709551616 := by unfold loW; omega
theorem hi_rng {x : Int} (h : FitW x) : -9223372036854775808 ≤ hiW x ∧ hiW x < 9223372036854775808 := by
  obtain ⟨a, b⟩ := h
  unfold hiW; omega
theorem hi_neg (x : Int) : (hiW x < 0) ↔ x < 0 := by unfold hiW; omega
/-- a number without a sign -/
structure FitU (n : Int) : Prop where
  lo : 0 ≤ n
  hi : n < 340282366920938463463374607431768211456
theorem hiu_rng {n : Int} (h : FitU n) : 0 ≤ hiW n ∧ hiW n < 18446744073709551616 := by
  obtain ⟨a, b⟩ := h
  unfold hiW; omega
def absW (x : Int) : Int := if x < 0 then -x else x
theorem absW_u {x : Int} (h : FitW x) : FitU (absW x) := by
  obtain ⟨a, b⟩ := h
  unfold absW
  refine ⟨?_, ?_⟩ <;> split <;> omega
theorem absW_nonneg (x : Int) : 0 ≤ absW x := by unfold absW; split <;> omega
theorem absW_mul (a b : Int) : a * b = if decide (a < 0) != decide (b < 0) then -(absW a * absW b) else absW a * absW b := by
  unfold absW
  by_cases ha : a < 0 <;> by_cases hb : b < 0 <;> simp [ha, hb, Int.neg_mul, Int.mul_neg]
theorem mul_u {x y : Int} (hx0 : 0 ≤ x) (hx : x ≤ 9223372036854775808) (hy0 : 0 ≤ y) (hy : y ≤ 9223372036854775808) : 0 ≤ x * y ∧ x * y ≤ 85070591730234615865843651857942052864 := by
  refine ⟨Int.mul_nonneg hx0 hy0, ?_⟩
  have h1 := Int.mul_le_mul_of_nonneg_right hx hy0
  have h2 := Int.mul_le_mul_of_nonneg_left hy (show (0 : Int) ≤ 9223372036854775808 by omega)
  omega
theorem mul_fit {a b : Int} (ha0 : -9223372036854775808 ≤ a) (ha : a ≤ 9223372036854775807) (hb0 : -9223372036854775808 ≤ b) (hb : b ≤ 9223372036854775807) : FitW (a * b) := by
  have h := mul_u (absW_nonneg a) (show absW a ≤ 9223372036854775808 by unfold absW; split <;> omega) (absW_nonneg b) (show absW b ≤ 9223372036854775808 by unfold absW; split <;> omega)
  rw [absW_mul]
  refine ⟨?_, ?_⟩ <;> split <;> omega
/-- one bit more -/
theorem div_one {M b D : Nat} (hb : b < 2) (hD : 0 < D) (h : D ≤ 2 * (M % D) + b) : (2 * M + b) / D = 2 * (M / D) + 1 ∧ (2 * M + b) % D = 2 * (M % D) + b - D := by
  have hr := Nat.mod_lt M hD
  have hM := Nat.div_add_mod M D
  generalize M / D = q at *
  generalize M % D = r at *
  subst hM
  have e : 2 * (D * q + r) + b = D * (2 * q + 1) + (2 * r + b - D) := by
    rw [Nat.mul_add D, Nat.mul_left_comm D 2 q]; omega
  rw [e, Nat.mul_add_div hD, Nat.div_eq_of_lt (by omega), Nat.mul_add_mod, Nat.mod_eq_of_lt (by omega)]
  exact ⟨rfl, rfl⟩
theorem div_zero {M b D : Nat} (hb : b < 2) (hD : 0 < D) (h : ¬ D ≤ 2 * (M % D) + b) : (2 * M + b) / D = 2 * (M / D) ∧ (2 * M + b) % D = 2 * (M % D) + b := by
  have hM := Nat.div_add_mod M D
  generalize M / D = q at *
  generalize M % D = r at *
  subst hM
  have e : 2 * (D * q + r) + b = D * (2 * q) + (2 * r + b) := by
    rw [Nat.mul_left_comm D 2 q]; omega
  rw [e, Nat.mul_add_div hD, Nat.div_eq_of_lt (by omega), Nat.mul_add_mod, Nat.mod_eq_of_lt (by omega)]
  exact ⟨rfl, rfl⟩
theorem bit_at (N i : Nat) : N / 2 ^ i = 2 * (N / 2 ^ (i + 1)) + N / 2 ^ i % 2 := by
  have e : N / 2 ^ (i + 1) = N / 2 ^ i / 2 := by rw [Nat.pow_succ, Nat.div_div_eq_div_mul]
  rw [e]
  omega
theorem bit_lo {N i : Nat} (h : i < 64) : N % 18446744073709551616 / 2 ^ i % 2 = N / 2 ^ i % 2 := by
  have e : (18446744073709551616 : Nat) = 2 ^ i * 2 ^ (64 - i) := by
    rw [← Nat.pow_add, show i + (64 - i) = 64 by omega]
  rw [e, Nat.mod_mul_right_div_self, Nat.mod_mod_of_dvd]
  exact ⟨2 ^ (63 - i), by rw [Nat.mul_comm, ← Nat.pow_succ, show 64 - i = 63 - i + 1 by omega]⟩
theorem bit_hi {N i : Nat} (h : 64 ≤ i) : N / 18446744073709551616 / 2 ^ (i - 64) % 2 = N / 2 ^ i % 2 := by
  have e : (2 : Nat) ^ i = 18446744073709551616 * 2 ^ (i - 64) := by
    rw [show (18446744073709551616 : Nat) = 2 ^ 64 by decide, ← Nat.pow_add, show 64 + (i - 64) = i by omega]
  rw [e, Nat.div_div_eq_div_mul]
/-- what the bits above i leave -/
theorem top_small {N i : Nat} (h : N < 340282366920938463463374607431768211456) : N / 2 ^ (i + 1) < 170141183460469231731687303715884105728 := by
  have e : N / 2 ^ (i + 1) = N / 2 / 2 ^ i := by rw [Nat.pow_succ, Nat.mul_comm, Nat.div_div_eq_div_mul]
  have := Nat.div_le_self (N / 2) (2 ^ i)
  omega
theorem start_wide {N c : Nat} (hN : N < 340282366920938463463374607431768211456) (hc : 1 ≤ c) : DivInv N c 0 (N / 18446744073709551616) (N % 18446744073709551616) 0 0 :=
  ⟨by omega, by omega, by omega, by omega, by simp; omega⟩
end Go.Proofs.Ytplgdlooglnpmaa
