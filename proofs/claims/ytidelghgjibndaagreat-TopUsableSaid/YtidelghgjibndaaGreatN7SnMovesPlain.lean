/-
  Of the text SnMovesPlain: what is wanted here.
-/
import Derived.Test.YtidelghgjibndaaGreatN7SnAged
namespace Go.Proofs.YtidelghgjibndaaGreat.S41
set_option linter.unusedVariables false
open Tr Sq
theorem dot_le {a b c d H m : Int} (H0 : 0 ≤ H) (m0 : 0 ≤ m) (h1 : a * a + b * b ≤ H * H) (h2 : c * c + d * d ≤ m * m) : a * c + b * d ≤ H * m := by
  have hm : 0 ≤ H * m := Int.mul_nonneg H0 m0
  have e : (a * c + b * d) * (a * c + b * d) = (a * a + b * b) * (c * c + d * d) - (a * d - b * c) * (a * d - b * c) := by grind
  have n1 := Sq.sq_nonneg (a * d - b * c)
  have n2 : 0 ≤ c * c + d * d := by have := Sq.sq_nonneg c; have := Sq.sq_nonneg d; omega
  have n3 : 0 ≤ H * H := Sq.sq_nonneg H
  have k := Int.mul_le_mul h1 h2 n2 n3
  have e2 : H * H * (m * m) = (H * m) * (H * m) := by grind
  exact Sq.le_of_sq hm (by omega)
/-- the triangle's sides, without roots -/
theorem tri_le {a b c d H m : Int} (H0 : 0 ≤ H) (m0 : 0 ≤ m) (h1 : a * a + b * b ≤ H * H) (h2 : c * c + d * d ≤ m * m) : (a + c) * (a + c) + (b + d) * (b + d) ≤ (H + m) * (H + m) := by
  have k := dot_le H0 m0 h1 h2
  have e : (a + c) * (a + c) + (b + d) * (b + d) = (a * a + b * b) + (c * c + d * d) + 2 * (a * c + b * d) := by grind
  have e2 : (H + m) * (H + m) = H * H + m * m + 2 * (H * m) := by grind
  omega
theorem side_le {u m S : Int} (m0 : 0 ≤ m) (h : u * u ≤ m * m) : -m ≤ u ∧ u ≤ m := by
  constructor
  · have := Sq.le_of_sq (a := -u) m0 (by rw [Int.neg_mul_neg]; exact h)
    omega
  · exact Sq.le_of_sq m0 h
theorem absI_iff {x k : Int} : absI x ≤ k ↔ (-k ≤ x ∧ x ≤ k) := by unfold absI; split <;> omega
end Go.Proofs.YtidelghgjibndaaGreat.S41
