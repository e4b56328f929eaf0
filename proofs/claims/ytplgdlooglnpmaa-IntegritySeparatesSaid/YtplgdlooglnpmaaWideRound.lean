/-
  Rounded quotients of 128-bit numbers out of quotient and remainder. No program in sight.
-/
import Derived.Test.YtplgdlooglnpmaaWideDivPlain
import Derived.Test.YtplgdlooglnpmaaFixPlain
namespace Go.Proofs.Ytplgdlooglnpmaa
set_option linter.unusedVariables false

theorem em_eq (n d : Int) : n = d * (n / d) + n % d := (Int.mul_ediv_add_emod n d).symm
theorem up_pos {x d : Int} (hd : 0 < d) : ceilI x d = x / d + (if x % d ≠ 0 then 1 else 0) := by
  have h0 := Int.emod_nonneg x (show d ≠ 0 by omega)
  have h1 := Int.emod_lt_of_pos x hd
  by_cases h : x % d = 0
  · rw [if_neg (by omega), Int.add_zero]
    exact ceil_pos0 hd (em_eq x d) h
  · rw [if_pos h]
    exact ceil_pos hd (em_eq x d) (by omega) h1
theorem up_neg {x d : Int} (hd : 0 < d) : ceilI x d = -((-x) / d) := by
  have h0 := Int.emod_nonneg (-x) (show d ≠ 0 by omega)
  have h1 := Int.emod_lt_of_pos (-x) hd
  have := ceil_neg (n := -x) hd (em_eq (-x) d) h0 h1
  rwa [Int.neg_neg] at this
theorem near_posW {x d : Int} (hd : 0 < d) : nearI2 x d = x / d + (if d - x % d ≤ x % d then 1 else 0) := by
  have h0 := Int.emod_nonneg x (show d ≠ 0 by omega)
  have h1 := Int.emod_lt_of_pos x hd
  by_cases h : d - x % d ≤ x % d
  · rw [if_pos h]
    exact near_pos1 hd (em_eq x d) h h1
  · rw [if_neg h, Int.add_zero]
    exact near_pos0 hd (em_eq x d) h0 (by omega)
theorem near_negW {x d : Int} (hd : 0 < d) : nearI2 x d = -((-x) / d + (if d - (-x) % d < (-x) % d then 1 else 0)) := by
  have h0 := Int.emod_nonneg (-x) (show d ≠ 0 by omega)
  have h1 := Int.emod_lt_of_pos (-x) hd
  by_cases h : d - (-x) % d < (-x) % d
  · rw [if_pos h]
    have := near_neg1 (n := -x) hd (em_eq (-x) d) h h1
    rwa [Int.neg_neg] at this
  · rw [if_neg h, Int.add_zero]
    have := near_neg0 (n := -x) hd (em_eq (-x) d) h0 (by omega)
    rwa [Int.neg_neg] at this
end Go.Proofs.Ytplgdlooglnpmaa
