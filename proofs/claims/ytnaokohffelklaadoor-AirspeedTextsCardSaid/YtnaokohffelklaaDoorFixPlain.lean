/-
  Quotients rounded down, up and to the nearest, from the quotient of the sizes. No program in sight.
-/
namespace Go.Proofs.YtnaokohffelklaaDoor
set_option linter.unusedVariables false

def floorI (p c : Int) : Int := p / c
def ceilI (p c : Int) : Int := -((-p) / c)
def nearI2 (p c : Int) : Int := (2 * p + c) / (2 * c)
/-- the size of a number -/
def sizeI (x : Int) : Int := if x < 0 then -x else x
theorem sizeI_nonneg (x : Int) : 0 ≤ sizeI x := by unfold sizeI; split <;> omega
theorem ediv_is {p c q r : Int} (hc : 0 < c) (h : p = c * q + r) (h0 : 0 ≤ r) (h1 : r < c) : p / c = q := by
  rw [h, Int.mul_comm, Int.mul_add_ediv_right _ _ (by omega)]
  have := Int.ediv_eq_zero_of_lt h0 h1
  omega
section
variable {n c q r : Int}
theorem floor_pos (hc : 0 < c) (h : n = c * q + r) (h0 : 0 ≤ r) (h1 : r < c) : floorI n c = q := ediv_is hc h h0 h1
theorem floor_neg0 (hc : 0 < c) (h : n = c * q + r) (h0 : r = 0) : floorI (-n) c = -q := ediv_is hc (r := 0) (by rw [h, h0]; grind) (by omega) (by omega)
theorem floor_neg (hc : 0 < c) (h : n = c * q + r) (h0 : 0 < r) (h1 : r < c) : floorI (-n) c = -(q + 1) := ediv_is hc (r := c - r) (by rw [h]; grind) (by omega) (by omega)
theorem ceil_neg (hc : 0 < c) (h : n = c * q + r) (h0 : 0 ≤ r) (h1 : r < c) : ceilI (-n) c = -q := by
  unfold ceilI; rw [Int.neg_neg]; have := floor_pos hc h h0 h1; unfold floorI at this; omega
theorem ceil_pos0 (hc : 0 < c) (h : n = c * q + r) (h0 : r = 0) : ceilI n c = q := by
  unfold ceilI; have := floor_neg0 hc h h0; unfold floorI at this; omega
theorem ceil_pos (hc : 0 < c) (h : n = c * q + r) (h0 : 0 < r) (h1 : r < c) : ceilI n c = q + 1 := by
  unfold ceilI; have := floor_neg hc h h0 h1; unfold floorI at this; omega
theorem near_pos0 (hc : 0 < c) (h : n = c * q + r) (h0 : 0 ≤ r) (h1 : r < c - r) : nearI2 n c = q := ediv_is (by omega) (r := 2 * r + c) (by rw [h]; grind) (by omega) (by omega)
theorem near_pos1 (hc : 0 < c) (h : n = c * q + r) (h0 : c - r ≤ r) (h1 : r < c) : nearI2 n c = q + 1 := ediv_is (by omega) (r := 2 * r - c) (by rw [h]; grind) (by omega) (by omega)
theorem near_neg0 (hc : 0 < c) (h : n = c * q + r) (h0 : 0 ≤ r) (h1 : r ≤ c - r) : nearI2 (-n) c = -q := ediv_is (by omega) (r := c - 2 * r) (by rw [h]; grind) (by omega) (by omega)
theorem near_neg1 (hc : 0 < c) (h : n = c * q + r) (h0 : c - r < r) (h1 : r < c) : nearI2 (-n) c = -(q + 1) := ediv_is (by omega) (r := 3 * c - 2 * r) (by rw [h]; grind) (by omega) (by omega)
end
end Go.Proofs.YtnaokohffelklaaDoor
