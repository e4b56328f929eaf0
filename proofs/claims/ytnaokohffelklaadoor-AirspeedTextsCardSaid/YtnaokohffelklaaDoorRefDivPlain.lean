/-
  The reference's division, bit by bit: what a round keeps. No program in sight.
-/
namespace Go.Proofs.YtnaokohffelklaaDoor
set_option linter.unusedVariables false

structure DivInv (N c k hi lo q r : Nat) : Prop where
  hk : k ≤ 128
  hh : hi < 18446744073709551616
  hl : lo < 18446744073709551616
  hr : r < c
  eq : N * 2 ^ k = (q * c + r) * 340282366920938463463374607431768211456 + (hi * 18446744073709551616 + lo)
theorem DivInv.qc {N c k hi lo q r : Nat} (h : DivInv N c k hi lo q r) : q * c ≤ N := by
  have a : 2 ^ k ≤ 2 ^ 128 := Nat.pow_le_pow_right (by decide) h.hk
  have b : N * 2 ^ k ≤ N * 2 ^ 128 := Nat.mul_le_mul_left N a
  rw [h.eq] at b
  have e : (2 : Nat) ^ 128 = 340282366920938463463374607431768211456 := by decide
  rw [e] at b
  omega
theorem DivInv.qN {N c k hi lo q r : Nat} (h : DivInv N c k hi lo q r) (hc : 1 ≤ c) : q ≤ N := by
  have a := h.qc
  have b : q * 1 ≤ q * c := Nat.mul_le_mul_left q hc
  omega
theorem DivInv.start {N c : Nat} (hN : N < 18446744073709551616) (hc : 1 ≤ c) : DivInv N c 0 0 N 0 0 := ⟨by omega, by omega, hN, by omega, by simp⟩
theorem DivInv.one {N c k hi lo q r : Nat} (h : DivInv N c k hi lo q r) (hk : k < 128) (h1 : c ≤ 2 * r + hi / 9223372036854775808) :
    DivInv N c (k + 1) (2 * hi % 18446744073709551616 + lo / 9223372036854775808) (2 * lo % 18446744073709551616) (2 * q + 1) (2 * r + hi / 9223372036854775808 - c) := by
  obtain ⟨a, b, d, e, f⟩ := h
  refine ⟨by omega, by omega, by omega, by omega, ?_⟩
  rw [Nat.pow_succ, ← Nat.mul_assoc, f]
  have g : (2 * q + 1) * c = 2 * (q * c) + c := by rw [Nat.add_mul, Nat.mul_assoc]; omega
  rw [g]
  generalize q * c = x at *
  omega
theorem DivInv.zero {N c k hi lo q r : Nat} (h : DivInv N c k hi lo q r) (hk : k < 128) (h1 : ¬ c ≤ 2 * r + hi / 9223372036854775808) :
    DivInv N c (k + 1) (2 * hi % 18446744073709551616 + lo / 9223372036854775808) (2 * lo % 18446744073709551616) (2 * q) (2 * r + hi / 9223372036854775808) := by
  obtain ⟨a, b, d, e, f⟩ := h
  refine ⟨by omega, by omega, by omega, by omega, ?_⟩
  rw [Nat.pow_succ, ← Nat.mul_assoc, f]
  have g : (2 * q) * c = 2 * (q * c) := by rw [Nat.mul_assoc]
  rw [g]
  generalize q * c = x at *
  omega
theorem DivInv.done {N c hi lo q r : Nat} (h : DivInv N c 128 hi lo q r) : q = N / c ∧ r = N % c := by
  obtain ⟨a, b, d, e, f⟩ := h
  have g : (2 : Nat) ^ 128 = 340282366920938463463374607431768211456 := by decide
  rw [g] at f
  have hN : N = c * q + r := by rw [Nat.mul_comm c q]; omega
  subst hN
  rw [Nat.mul_add_div (by omega), Nat.div_eq_of_lt e, Nat.mul_add_mod, Nat.mod_eq_of_lt e]
  exact ⟨rfl, rfl⟩
/-- a word shifted, one bit taken in -/
theorem or_bit (a b : Nat) (hb : b < 2) : (2 * a % 18446744073709551616) ||| b = 2 * a % 18446744073709551616 + b := by
  have h : 2 * a % 18446744073709551616 = 2 ^ 1 * (a % 9223372036854775808) := by omega
  rw [h, Nat.two_pow_add_eq_or_of_lt (by omega)]
theorem or_half (a b : Nat) (hb : b < 4294967296) : (4294967296 * a) ||| b = 4294967296 * a + b := by
  have := Nat.two_pow_add_eq_or_of_lt (i := 32) (b := b) (by omega) a
  rw [show (2 : Nat) ^ 32 = 4294967296 by decide] at this
  exact this.symm
end Go.Proofs.YtnaokohffelklaaDoor
