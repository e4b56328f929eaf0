/-
  Of the text RowsPlain: what is wanted here.
-/
import Derived.Test.YtidelghgjibndaaGreatSnSensorPlain
namespace Go.Proofs.YtidelghgjibndaaGreat.S41
set_option linter.unusedVariables false
open Tr Sq
/-- a measurement: source, coefficients, value, bound, weight -/
structure Ms where
  s : Int
  a : Int
  b : Int
  z : Int
  d : Int
  w : Int
/-- the range's row: D the distance, K the radius -/
def rngA (p q D : Int) : Int := nearI2 (256 * (q - p)) D
def rngF (D K : Int) : Int := ceilI (K * K) (2 * (D - K))
def brgA (v : Int) : Int := nearI2 (256 * cosI v) 1073741824
def brgB (v : Int) : Int := nearI2 (-256 * sinI v) 1073741824
def brgF (b G : Int) : Int := ceilI (256 * G * (sinI b + 2)) 1073741824
def rngM (s x y v b wt cx cy D K : Int) : Ms := ⟨s, rngA x cx D, rngA y cy D, rngA x cx D * cx + rngA y cy D * cy + 256 * (v - D), K + 256 * (b + 1 + rngF D K), wt⟩
def brgM (s x y v b wt D K : Int) : Ms := ⟨s, brgA v, brgB v, brgA v * x + brgB v * y, (D + 1 + K) + brgF b (D + 1 + K), wt⟩
def rowsF (s k x y v b wt t cx cy bx b2 : Int) : List Ms × Int :=
  if checkI s k x y v b wt t = 0 then
    if boxV cx cy bx b2 = true then
      if k = 1 then ([⟨s, 256, 0, 256 * x, 256 * b, wt⟩, ⟨s, 0, 256, 256 * y, 256 * b, wt⟩], 0)
      else if k = 2 then
        (if distI x y cx cy < 6000 ∨ distI x y cx cy < 4 * radI cx cy bx b2 then ([], 10) else ([rngM s x y v b wt cx cy (distI x y cx cy) (radI cx cy bx b2)], 0))
      else ([brgM s x y v b wt (distI x y cx cy) (radI cx cy bx b2)], 0)
    else ([], 1)
  else ([], checkI s k x y v b wt t)
theorem sqU_bd {n m : Int} (h0 : 0 ≤ n) (h1 : n ≤ m * m) (hm : 0 ≤ m) (hm2 : m ≤ 2000000000) : 0 ≤ sqU n ∧ sqU n ≤ m := by
  have hmm : m * m ≤ 4000000000000000000 := by have := Sq.sq_le hm hm2; omega
  have a := Sq.isq_is h0 (by omega)
  have nn := a.nn
  have le := a.le
  unfold sqU
  split
  · rename_i h
    refine ⟨by omega, ?_⟩
    have := Sq.lt_of_sq (a := isq n) (b := m) hm (by omega)
    omega
  · refine ⟨nn, Sq.le_of_sq hm (by omega)⟩
theorem rad_bd {cx cy bx b2 : Int} (h : boxV cx cy bx b2 = true) : 0 ≤ radI cx cy bx b2 ∧ radI cx cy bx b2 ≤ 2828428 := by
  obtain ⟨_, ⟨a0, a1⟩, b0, b1⟩ := boxV_iff.1 h
  obtain ⟨c0, c1⟩ := sq_bd (x := bx) (k := 2000000) (by omega) a1
  obtain ⟨d0, d1⟩ := sq_bd (x := b2) (k := 2000000) (by omega) b1
  unfold radI
  rw [if_pos h]
  exact sqU_bd (by omega) (by omega) (by decide) (by decide)
theorem dist_bd (x y p q : Int) : 0 ≤ distI x y p q ∧ distI x y p q ≤ 5656854 := by
  unfold distI
  split
  · rename_i h
    obtain ⟨a, b, _⟩ := d2_bd h
    have h0 := Sq.isq_nonneg (n := d2 x y p q) (by omega)
    have h1 := Sq.isq_lt (n := d2 x y p q) (r := 5656855) (by decide) a (by omega)
    exact ⟨h0, by have := h1.2 (by omega); omega⟩
  · omega
/-- |nearest quotient| is at most the bound of the sizes -/
theorem near_bd2 {p c k : Int} (hc : 0 < c) (h0 : -(k * c) ≤ p) (h1 : p ≤ k * c) : -k ≤ nearI2 p c ∧ nearI2 p c ≤ k := by
  unfold nearI2
  constructor
  · have e : -k ≤ (2 * p + c) / (2 * c) := by
      rw [Int.le_ediv_iff_mul_le (by omega)]
      have : -k * (2 * c) = 2 * -(k * c) := by grind
      omega
    exact e
  · have e : (2 * p + c) / (2 * c) < k + 1 := by
      rw [Int.ediv_lt_iff_lt_mul (by omega)]
      have : (k + 1) * (2 * c) = 2 * (k * c) + 2 * c := by grind
      omega
    omega
/-- a side is at most the distance: in whole numbers, one more -/
theorem side_dist {x y p q : Int} (h : (pvB x y && pvB p q) = true) : -(distI x y p q) ≤ p - x ∧ p - x ≤ distI x y p q ∧ -(distI x y p q) ≤ q - y ∧ q - y ≤ distI x y p q := by
  obtain ⟨a, b, c1, c2, c3, c4⟩ := d2_bd h
  unfold distI
  rw [if_pos h]
  have hn := Sq.isq_nonneg (n := d2 x y p q) (by omega)
  have key : ∀ u : Int, u * u ≤ d2 x y p q → u ≤ isq (d2 x y p q) := by
    intro u hu
    by_cases h0 : 0 ≤ u
    · exact (Sq.le_isq h0 a (by omega)).2 hu
    · omega
  have h1 := key (p - x) (by unfold d2; omega)
  have h2 := key (-(p - x)) (by rw [Int.neg_mul_neg]; unfold d2; omega)
  have h3 := key (q - y) (by unfold d2; omega)
  have h4 := key (-(q - y)) (by rw [Int.neg_mul_neg]; unfold d2; omega)
  omega
end Go.Proofs.YtidelghgjibndaaGreat.S41
