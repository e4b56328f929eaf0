/-
  The integer square root, rounded down: what it is, that it is one number, the bitwise way and Newton's step. No program in sight.
-/
namespace Go.Proofs.YtdfpbojlimeccaaDoor.Sq
set_option linter.unusedVariables false

structure IsSq (n r : Int) : Prop where
  nn : 0 ≤ r
  le : r * r ≤ n
  lt : n < (r + 1) * (r + 1)

theorem sq_le {a b : Int} (h0 : 0 ≤ a) (h : a ≤ b) : a * a ≤ b * b := Int.mul_le_mul h h h0 (by omega)
theorem sq_nonneg (x : Int) : 0 ≤ x * x := by
  rcases Int.le_total 0 x with h | h
  · exact Int.mul_nonneg h h
  · have := Int.mul_nonneg (show 0 ≤ -x by omega) (show 0 ≤ -x by omega)
    rwa [Int.neg_mul_neg] at this
theorem le_of_sq {a b : Int} (hb : 0 ≤ b) (h : a * a ≤ b * b) : a ≤ b := by
  rcases Int.lt_or_le b a with h' | h'
  · exfalso
    have := sq_le (a := b + 1) (b := a) (by omega) (by omega)
    have e : (b + 1) * (b + 1) = b * b + 2 * b + 1 := by grind
    omega
  · exact h'
theorem lt_of_sq {a b : Int} (hb : 0 ≤ b) (h : a * a < b * b) : a < b := by
  rcases Int.lt_or_le a b with h' | h'
  · exact h'
  · have := sq_le hb h'
    omega

theorem IsSq.uniq {n r s : Int} (h : IsSq n r) (k : IsSq n s) : r = s := by
  have a : r < s + 1 := lt_of_sq (by have := k.nn; omega) (by have := h.le; have := k.lt; omega)
  have b : s < r + 1 := lt_of_sq (by have := h.nn; omega) (by have := k.le; have := h.lt; omega)
  omega

def sqGo (n : Int) : Nat → Int → Int
  | 0, r => r
  | k + 1, r => if (r + 2 ^ k) * (r + 2 ^ k) ≤ n then sqGo n k (r + 2 ^ k) else sqGo n k r
/-- the square root of n, rounded down; 0 below 0 -/
def isq (n : Int) : Int := if n < 0 then 0 else sqGo n 32 0

theorem sqGo_is (n : Int) (k : Nat) : ∀ r : Int, 0 ≤ r → r * r ≤ n → n < (r + 2 ^ k) * (r + 2 ^ k) → IsSq n (sqGo n k r) := by
  induction k with
  | zero => intro r h0 h1 h2; exact ⟨h0, h1, by simpa [sqGo] using h2⟩
  | succ k ih =>
    intro r h0 h1 h2
    have hp : (0 : Int) < 2 ^ k := Int.pow_pos (by decide)
    have e : (2 : Int) ^ (k + 1) = 2 ^ k + 2 ^ k := by rw [Int.pow_succ]; omega
    unfold sqGo
    split
    · exact ih _ (by omega) (by assumption) (by rw [Int.add_assoc, ← e]; exact h2)
    · exact ih _ h0 h1 (by omega)
theorem isq_is {n : Int} (h0 : 0 ≤ n) (h1 : n < 18446744073709551616) : IsSq n (isq n) := by
  unfold isq
  rw [if_neg (by omega)]
  exact sqGo_is n 32 0 (by decide) (by omega) (by have : ((0 : Int) + 2 ^ 32) * (0 + 2 ^ 32) = 18446744073709551616 := by decide
                                                  omega)
theorem isq_of {n r : Int} (h : IsSq n r) (h1 : n < 18446744073709551616) : isq n = r :=
  (isq_is (by have := sq_nonneg r; have := h.le; omega) h1).uniq h
theorem isq_le0 {n : Int} (h : n ≤ 0) : isq n = 0 := by
  rcases Int.lt_or_le n 0 with h' | h'
  · unfold isq; rw [if_pos h']
  · obtain rfl : n = 0 := by omega
    decide
theorem isq_nonneg {n : Int} (h1 : n < 18446744073709551616) : 0 ≤ isq n := by
  rcases Int.lt_or_le n 0 with h' | h'
  · unfold isq; rw [if_pos h']; exact Int.le_refl 0
  · exact (isq_is h' h1).nn
theorem isq_mono {m n : Int} (h : m ≤ n) (h1 : n < 18446744073709551616) : isq m ≤ isq n := by
  rcases Int.lt_or_le m 0 with h' | h'
  · have := isq_nonneg h1
    rw [isq_le0 (by omega)]; exact this
  · have a := isq_is h' (by omega)
    have b := isq_is (n := n) (by omega) h1
    have := lt_of_sq (a := isq m) (b := isq n + 1) (by have := b.nn; omega) (by have := a.le; have := b.lt; omega)
    omega
/-- r ≤ the root exactly if r r ≤ n -/
theorem le_isq {n r : Int} (h0 : 0 ≤ r) (hn : 0 ≤ n) (h1 : n < 18446744073709551616) : r ≤ isq n ↔ r * r ≤ n := by
  have a := isq_is hn h1
  constructor
  · intro h; have := sq_le h0 h; have := a.le; omega
  · intro h
    have := lt_of_sq (a := r) (b := isq n + 1) (by have := a.nn; omega) (by have := a.lt; omega)
    omega
theorem isq_lt {n r : Int} (h0 : 0 ≤ r) (hn : 0 ≤ n) (h1 : n < 18446744073709551616) : isq n < r ↔ n < r * r := by
  have := le_isq h0 hn h1
  omega

/-- Newton's step from above stays above -/
theorem newton {n x : Int} (hx : 0 < x) (hn : 0 ≤ n) : n < ((x + n / x) / 2 + 1) * ((x + n / x) / 2 + 1) := by
  have h1 : n < (n / x + 1) * x := by
    have a := Int.mul_ediv_add_emod n x
    have b := Int.emod_lt_of_pos n hx
    rw [Int.add_mul, Int.one_mul, Int.mul_comm (n / x) x]
    omega
  have hq : 0 ≤ n / x := Int.ediv_nonneg hn (by omega)
  generalize n / x = q at *
  have hy : x + q + 1 ≤ 2 * ((x + q) / 2 + 1) := by omega
  generalize (x + q) / 2 + 1 = y at *
  have a := sq_le (a := x + q + 1) (b := 2 * y) (by omega) hy
  have b := sq_nonneg (x - (q + 1))
  have e1 : (x - (q + 1)) * (x - (q + 1)) = (x + q + 1) * (x + q + 1) - 4 * ((q + 1) * x) := by grind
  have e2 : 2 * y * (2 * y) = 4 * (y * y) := by grind
  omega
theorem newton_end {n x : Int} (hx : 0 < x) (h : x ≤ (x + n / x) / 2) : x * x ≤ n := by
  have h1 : x ≤ n / x := by omega
  have a := Int.mul_le_mul_of_nonneg_right h1 (show 0 ≤ x by omega)
  have b := Int.ediv_mul_le n (show x ≠ 0 by omega)
  omega
end Go.Proofs.YtdfpbojlimeccaaDoor.Sq
