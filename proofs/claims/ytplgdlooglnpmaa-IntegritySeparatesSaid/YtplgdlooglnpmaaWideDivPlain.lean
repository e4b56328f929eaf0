/-
  Division of 128-bit sizes bit by bit, in words. No program in sight.
-/
import Derived.Test.YtplgdlooglnpmaaWidePlain
import Derived.Laws.Bits64b
import Derived.Laws.Bits64
namespace Go.Proofs.Ytplgdlooglnpmaa
set_option linter.unusedVariables false

theorem or_word {x b : Int} (h0 : 0 ≤ x) (h1 : x < 18446744073709551616) (hb0 : 0 ≤ b) (hb : b < 2) :
    bits .or .u64 (IntKind.u64.wrap (x * 2)) b = (x * 2) % 18446744073709551616 + b := by
  obtain ⟨x, rfl⟩ := Int.eq_ofNat_of_zero_le h0
  obtain ⟨b, rfl⟩ := Int.eq_ofNat_of_zero_le hb0
  rw [show IntKind.u64.wrap ((x : Int) * 2) = ((2 * x % 18446744073709551616 : Nat) : Int) by rw [IntKind.wrap_u64]; omega,
    bits_or_u64_nat _ _ (by omega) (by omega), or_bit x b (by omega)]
  omega
theorem tw_hi {r b : Int} (h0 : 0 ≤ r) (h1 : r < 170141183460469231731687303715884105728) (hb0 : 0 ≤ b) (hb : b < 2) :
    bits .or .u64 (IntKind.u64.wrap (hiW r * 2)) (loW r / 9223372036854775808) = hiW (2 * r + b) := by
  have a0 : 0 ≤ hiW r := by unfold hiW; omega
  have a1 : hiW r < 9223372036854775808 := by unfold hiW; omega
  obtain ⟨c0, c1⟩ := lo_rng r
  rw [or_word a0 (by omega) (by omega) (by omega)]
  unfold hiW loW at *
  omega
theorem tw_lo {r b : Int} (h0 : 0 ≤ r) (hb0 : 0 ≤ b) (hb : b < 2) : bits .or .u64 (IntKind.u64.wrap (loW r * 2)) b = loW (2 * r + b) := by
  obtain ⟨c0, c1⟩ := lo_rng r
  rw [or_word c0 c1 hb0 hb]
  unfold loW at *
  omega
/-- what is left of the dividend above bit k, and its quotient and remainder -/
def qD (N D k : Nat) : Nat := N / 2 ^ k / D
def rD (N D k : Nat) : Nat := N / 2 ^ k % D
def bD (N k : Nat) : Nat := N / 2 ^ k % 2
theorem bD_lt (N k : Nat) : bD N k < 2 := Nat.mod_lt _ (by decide)
theorem qr_top {N D : Nat} (h : N < 340282366920938463463374607431768211456) : qD N D 128 = 0 ∧ rD N D 128 = 0 := by
  have e : N / 2 ^ 128 = 0 := Nat.div_eq_of_lt (by omega)
  unfold qD rD
  rw [e]
  simp
theorem qr_one {N D k : Nat} (hD : 0 < D) (h : D ≤ 2 * rD N D (k + 1) + bD N k) : qD N D k = 2 * qD N D (k + 1) + 1 ∧ rD N D k = 2 * rD N D (k + 1) + bD N k - D := by
  unfold qD rD at *
  rw [bit_at N k]
  exact div_one (bD_lt N k) hD h
theorem qr_zero {N D k : Nat} (hD : 0 < D) (h : ¬ D ≤ 2 * rD N D (k + 1) + bD N k) : qD N D k = 2 * qD N D (k + 1) ∧ rD N D k = 2 * rD N D (k + 1) + bD N k := by
  unfold qD rD at *
  rw [bit_at N k]
  exact div_zero (bD_lt N k) hD h
theorem qr_end (N D : Nat) : qD N D 0 = N / D ∧ rD N D 0 = N % D := by
  unfold qD rD
  simp
theorem rD_lt (N k : Nat) {D : Nat} (h : 0 < D) : rD N D k < D := Nat.mod_lt _ h
theorem qD_lt {N D k : Nat} (h : N < 340282366920938463463374607431768211456) : qD N D (k + 1) < 170141183460469231731687303715884105728 :=
  Nat.lt_of_le_of_lt (Nat.div_le_self _ _) (top_small h)
theorem bit_lo' {N i : Nat} (h : i < 64) : loW (N : Int) / (2 ^ i : Nat) % 2 = (bD N i : Int) := by
  have e : loW (N : Int) = ((N % 18446744073709551616 : Nat) : Int) := by unfold loW; omega
  rw [e]
  unfold bD
  rw [← bit_lo h]
  rfl
theorem bit_hi' {N i : Nat} (h : 64 ≤ i) : hiW (N : Int) / (2 ^ (i - 64) : Nat) % 2 = (bD N i : Int) := by
  have e : hiW (N : Int) = ((N / 18446744073709551616 : Nat) : Int) := by unfold hiW; omega
  rw [e]
  unfold bD
  rw [← bit_hi h]
  rfl
/-- two sizes compared word by word -/
def cmpI (x y : Int) : Int := if x < y then -1 else if y < x then 1 else 0
theorem cmp_words {x y : Int} : cmpI x y = if hiW x = hiW y then cmpI (loW x) (loW y) else cmpI (hiW x) (hiW y) := by
  unfold cmpI hiW loW
  split <;> split <;> (try split) <;> (try split) <;> (try split) <;> omega
end Go.Proofs.Ytplgdlooglnpmaa
