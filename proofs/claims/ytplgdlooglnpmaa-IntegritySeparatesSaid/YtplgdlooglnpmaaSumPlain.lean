/-
  Sums over measurements: the normal equations, the determinant, the exact solution and its noise. No program in sight.
-/
import Derived.Test.YtplgdlooglnpmaaMeasBase
namespace Go.Proofs.Ytplgdlooglnpmaa
set_option linter.unusedVariables false

def sumL (f : Ms → Int) : List Ms → Int
  | [] => 0
  | m :: r => f m + sumL f r
theorem sum_app (f : Ms → Int) (l k : List Ms) : sumL f (l ++ k) = sumL f l + sumL f k := by
  induction l with
  | nil => simp [sumL]
  | cons m r ih => simp only [List.cons_append, sumL, ih]; omega
theorem sum_take (f : Ms → Int) {l : List Ms} {k : Nat} (h : k < l.length) : sumL f (l.take (k + 1)) = sumL f (l.take k) + f (nth l k) := by
  rw [take_nth h, sum_app]
  simp [sumL]
theorem sum_bd (f : Ms → Int) (B : Int) (l : List Ms) (h : ∀ m ∈ l, -B ≤ f m ∧ f m ≤ B) : -(l.length * B) ≤ sumL f l ∧ sumL f l ≤ l.length * B := by
  induction l with
  | nil => simp [sumL]
  | cons m r ih =>
    have h1 := h m List.mem_cons_self
    have h2 := ih fun x hx => h x (List.mem_cons_of_mem _ hx)
    simp only [sumL, List.length_cons]
    have e : ((r.length + 1 : Nat) : Int) * B = r.length * B + B := by rw [Int.natCast_add, Int.add_mul]; simp
    omega
theorem sum_le (f g : Ms → Int) (l : List Ms) (h : ∀ m ∈ l, f m ≤ g m) : sumL f l ≤ sumL g l := by
  induction l with
  | nil => exact Int.le_refl _
  | cons m r ih =>
    have h1 := h m List.mem_cons_self
    have h2 := ih fun x hx => h x (List.mem_cons_of_mem _ hx)
    simp only [sumL]
    omega
theorem sum_congr {f g : Ms → Int} {l : List Ms} (h : ∀ m ∈ l, f m = g m) : sumL f l = sumL g l := by
  induction l with
  | nil => rfl
  | cons m r ih =>
    simp only [sumL]
    rw [h m List.mem_cons_self, ih fun x hx => h x (List.mem_cons_of_mem _ hx)]
theorem sum_nonneg (f : Ms → Int) (l : List Ms) (h : ∀ m ∈ l, 0 ≤ f m) : 0 ≤ sumL f l := by
  induction l with
  | nil => exact Int.le_refl _
  | cons m r ih =>
    have h1 := h m List.mem_cons_self
    have h2 := ih fun x hx => h x (List.mem_cons_of_mem _ hx)
    simp only [sumL]
    omega
theorem sum_lin (a b : Int) (f g : Ms → Int) (l : List Ms) : sumL (fun m => a * f m + b * g m) l = a * sumL f l + b * sumL g l := by
  induction l with
  | nil => simp [sumL]
  | cons m r ih =>
    simp only [sumL, ih]
    grind
theorem sum_map (f : Ms → Int) (g : Ms → Ms) (l : List Ms) : sumL f (l.map g) = sumL (fun m => f (g m)) l := by
  induction l with
  | nil => rfl
  | cons m r ih => simp only [List.map_cons, sumL, ih]
/-- the coefficients of the normal equations -/
def nXX (l : List Ms) : Int := sumL (fun m => m.w * m.a * m.a) l
def nXY (l : List Ms) : Int := sumL (fun m => m.w * m.a * m.b) l
def nYY (l : List Ms) : Int := sumL (fun m => m.w * m.b * m.b) l
def nXZ (l : List Ms) : Int := sumL (fun m => m.w * m.a * m.z) l
def nYZ (l : List Ms) : Int := sumL (fun m => m.w * m.b * m.z) l
def detN (l : List Ms) : Int := nXX l * nYY l - nXY l * nXY l
def solX (l : List Ms) : Int := nYY l * nXZ l - nXY l * nYZ l
def solY (l : List Ms) : Int := nXX l * nYZ l - nXY l * nXZ l
def absZ (x : Int) : Int := if x < 0 then -x else x
/-- how far the errors within the bounds move the solution, times the determinant -/
def noiX (l : List Ms) : Int := sumL (fun m => m.w * absZ (nYY l * m.a - nXY l * m.b) * m.d) l
def noiY (l : List Ms) : Int := sumL (fun m => m.w * absZ (nXX l * m.b - nXY l * m.a) * m.d) l
theorem quad (l : List Ms) (a b : Int) (h : ∀ m ∈ l, 0 ≤ m.w) : 0 ≤ a * a * nYY l - 2 * (a * b) * nXY l + b * b * nXX l := by
  have e : a * a * nYY l - 2 * (a * b) * nXY l + b * b * nXX l = sumL (fun m => m.w * ((a * m.b - b * m.a) * (a * m.b - b * m.a))) l := by
    unfold nXX nXY nYY
    induction l with
    | nil => simp [sumL]
    | cons m r ih =>
      have ih := ih fun x hx => h x (List.mem_cons_of_mem _ hx)
      simp only [sumL]
      rw [← ih]
      grind
  rw [e]
  refine sum_nonneg _ _ fun m hm => Int.mul_nonneg (h m hm) ?_
  rcases Int.le_total 0 (a * m.b - b * m.a) with g | g
  · exact Int.mul_nonneg g g
  · have := Int.mul_nonneg (show 0 ≤ -(a * m.b - b * m.a) by omega) (show 0 ≤ -(a * m.b - b * m.a) by omega)
    have e : -(a * m.b - b * m.a) * -(a * m.b - b * m.a) = (a * m.b - b * m.a) * (a * m.b - b * m.a) := by grind
    omega
/-- the determinant is not negative -/
theorem det_nonneg : ∀ (l : List Ms), (∀ m ∈ l, 0 ≤ m.w) → 0 ≤ detN l
  | [], _ => by simp [detN, nXX, nXY, nYY, sumL]
  | m :: r, h => by
    have ih := det_nonneg r fun x hx => h x (List.mem_cons_of_mem _ hx)
    have q := quad r m.a m.b fun x hx => h x (List.mem_cons_of_mem _ hx)
    have w := h m List.mem_cons_self
    have p := Int.mul_nonneg w q
    have e : detN (m :: r) = m.w * (m.a * m.a * nYY r - 2 * (m.a * m.b) * nXY r + m.b * m.b * nXX r) + detN r := by
      unfold detN nXX nXY nYY
      simp only [sumL]
      grind
    omega
/-- how far the exact solution lies from a point: the errors there, weighted -/
theorem sol_err (l : List Ms) (px py : Int) :
    detN l * px - solX l = sumL (fun m => m.w * (nYY l * m.a - nXY l * m.b) * (m.a * px + m.b * py - m.z)) l ∧
    detN l * py - solY l = sumL (fun m => m.w * (nXX l * m.b - nXY l * m.a) * (m.a * px + m.b * py - m.z)) l := by
  have h : ∀ (u v : Int) (k : List Ms), sumL (fun m => m.w * (u * m.a - v * m.b) * (m.a * px + m.b * py - m.z)) k = u * (nXX k * px + nXY k * py - nXZ k) - v * (nXY k * px + nYY k * py - nYZ k) := by
    intro u v k
    unfold nXX nXY nYY nXZ nYZ
    induction k with
    | nil => simp [sumL]
    | cons m r ih =>
      simp only [sumL]
      rw [ih]
      grind
  have h2 : ∀ (u v : Int) (k : List Ms), sumL (fun m => m.w * (u * m.b - v * m.a) * (m.a * px + m.b * py - m.z)) k = u * (nXY k * px + nYY k * py - nYZ k) - v * (nXX k * px + nXY k * py - nXZ k) := by
    intro u v k
    unfold nXX nXY nYY nXZ nYZ
    induction k with
    | nil => simp [sumL]
    | cons m r ih =>
      simp only [sumL]
      rw [ih]
      grind
  refine ⟨?_, ?_⟩
  · rw [h]
    unfold detN solX
    grind
  · rw [h2]
    unfold detN solY
    grind
theorem abs_mul_le {w c e d : Int} (hw : 0 ≤ w) (h0 : -d ≤ e) (h1 : e ≤ d) : w * c * e ≤ w * absZ c * d ∧ -(w * c * e) ≤ w * absZ c * d := by
  have key : c * e ≤ absZ c * d ∧ -(c * e) ≤ absZ c * d := by
    unfold absZ
    split
    · have a := Int.mul_le_mul_of_nonneg_left h0 (show 0 ≤ -c by omega)
      have b := Int.mul_le_mul_of_nonneg_left h1 (show 0 ≤ -c by omega)
      have e1 : -c * -d = c * d := by grind
      have e2 : -c * e = -(c * e) := by grind
      have e3 : -c * d = -(c * d) := by grind
      omega
    · have a := Int.mul_le_mul_of_nonneg_left h0 (show 0 ≤ c by omega)
      have b := Int.mul_le_mul_of_nonneg_left h1 (show 0 ≤ c by omega)
      have e1 : c * -d = -(c * d) := by grind
      omega
  have a := Int.mul_le_mul_of_nonneg_left key.1 hw
  have b := Int.mul_le_mul_of_nonneg_left key.2 hw
  have e1 : w * (c * e) = w * c * e := by grind
  have e2 : w * (absZ c * d) = w * absZ c * d := by grind
  have e3 : w * -(c * e) = -(w * c * e) := by grind
  omega
theorem sum_neg (f : Ms → Int) (l : List Ms) : sumL (fun m => -f m) l = -sumL f l := by
  induction l with
  | nil => simp [sumL]
  | cons m r ih => simp only [sumL, ih]; omega
/-- a point that meets all measurements lies within the noise of the exact solution -/
theorem near_sol {l : List Ms} {px py : Int} (hw : ∀ m ∈ l, 0 ≤ m.w) (h : ∀ m ∈ l, -m.d ≤ m.a * px + m.b * py - m.z ∧ m.a * px + m.b * py - m.z ≤ m.d) :
    absZ (detN l * px - solX l) ≤ noiX l ∧ absZ (detN l * py - solY l) ≤ noiY l := by
  obtain ⟨e1, e2⟩ := sol_err l px py
  have a1 := sum_le (fun m => m.w * (nYY l * m.a - nXY l * m.b) * (m.a * px + m.b * py - m.z)) (fun m => m.w * absZ (nYY l * m.a - nXY l * m.b) * m.d) l fun m hm => (abs_mul_le (hw m hm) (h m hm).1 (h m hm).2).1
  have a2 := sum_le (fun m => -(m.w * (nYY l * m.a - nXY l * m.b) * (m.a * px + m.b * py - m.z))) (fun m => m.w * absZ (nYY l * m.a - nXY l * m.b) * m.d) l fun m hm => (abs_mul_le (hw m hm) (h m hm).1 (h m hm).2).2
  have b1 := sum_le (fun m => m.w * (nXX l * m.b - nXY l * m.a) * (m.a * px + m.b * py - m.z)) (fun m => m.w * absZ (nXX l * m.b - nXY l * m.a) * m.d) l fun m hm => (abs_mul_le (hw m hm) (h m hm).1 (h m hm).2).1
  have b2 := sum_le (fun m => -(m.w * (nXX l * m.b - nXY l * m.a) * (m.a * px + m.b * py - m.z))) (fun m => m.w * absZ (nXX l * m.b - nXY l * m.a) * m.d) l fun m hm => (abs_mul_le (hw m hm) (h m hm).1 (h m hm).2).2
  rw [sum_neg] at a2 b2
  rw [← e1] at a1 a2
  rw [← e2] at b1 b2
  unfold noiX noiY
  refine ⟨?_, ?_⟩ <;> (unfold absZ; split) <;> (unfold absZ at *; omega)
end Go.Proofs.Ytplgdlooglnpmaa
