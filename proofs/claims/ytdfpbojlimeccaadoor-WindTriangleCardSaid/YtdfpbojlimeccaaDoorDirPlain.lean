/-
  A wind by direction and speed has that speed and direction, within the rounding. Plain.
-/
import Derived.Test.YtdfpbojlimeccaaDoorUnitPlain
import Derived.Test.YtdfpbojlimeccaaDoorWindPlain
namespace Go.Proofs.YtdfpbojlimeccaaDoor.Un
set_option linter.unusedVariables false
open Tr
open Sq (isq)

/-- one component of a wind by direction and speed -/
theorem of_comp {v s : Int} {t : Rat} (v0 : 0 ≤ v) (v1 : v ≤ 400) (h0 : -31 ≤ (s : Rat) - 1073741824 * t) (h1 : (s : Rat) - 1073741824 * t ≤ 31) :
    -(5001 / 10000) ≤ ((-shu (-v * s) : Int) : Rat) - v * t ∧ ((-shu (-v * s) : Int) : Rat) - v * t ≤ 5001 / 10000 := by
  have l : v * s ≤ 1073741824 * (-shu (-v * s)) + 536870912 := by unfold shu; rw [Int.neg_mul]; generalize v * s = p; omega
  have u : 1073741824 * (-shu (-v * s)) ≤ v * s + 536870912 := by unfold shu; rw [Int.neg_mul]; generalize v * s = p; omega
  have l := cast_le l
  have u := cast_le u
  have v0 := cast_le v0
  have v1 := cast_le v1
  generalize -shu (-v * s) = y at *
  simp only [Rat.intCast_mul, Rat.intCast_add, Rat.intCast_ofNat] at l u v0 v1
  have p := sz_mul (u := (v : Rat)) (s := (v : Rat)) v0 (by grind) (by grind) h0 h1
  generalize (y : Rat) = y at *
  generalize (v : Rat) = v at *
  generalize (s : Rat) = s at *
  constructor <;> grind
theorem proj {x y a b e : Rat} (hn : x * x + y * y = 1) (a0 : -e ≤ a) (a1 : a ≤ e) (b0 : -e ≤ b) (b1 : b ≤ e) (g : Rat) (g0 : 0 ≤ g) (hg : 2 * (e * e) ≤ g * g) : -g ≤ x * a + y * b ∧ x * a + y * b ≤ g := by
  have ha : a * a ≤ e * e := by
    have := Rat.mul_nonneg (a := e - a) (b := e + a) (by grind) (by grind)
    grind
  have hb : b * b ≤ e * e := by
    have := Rat.mul_nonneg (a := e - b) (b := e + b) (by grind) (by grind)
    grind
  have hi : (x * a + y * b) * (x * a + y * b) + (x * b - y * a) * (x * b - y * a) = (x * x + y * y) * (a * a + b * b) := by grind
  rw [hn] at hi
  have hq := sq_nonneg (x * b - y * a)
  have hs : (x * a + y * b) * (x * a + y * b) ≤ g * g := by grind
  clear hi hq
  generalize x * a + y * b = z at *
  constructor
  · have := lt_of_sqR (a := -z) g0 (by grind)
    grind
  · exact lt_of_sqR g0 hs
theorem sum_sq {x y : Int} {a b v p q : Rat} (hn : a * a + b * b = 1) (hx : (x : Rat) - v * a = p) (hy : (y : Rat) - v * b = q) : ((x * x + y * y : Int) : Rat) = v * v + 2 * v * (a * p + b * q) + (p * p + q * q) := by
  rw [Rat.intCast_add, Rat.intCast_mul, Rat.intCast_mul]
  have ex : (x : Rat) = v * a + p := by grind
  have ey : (y : Rat) = v * b + q := by grind
  rw [ex, ey]
  grind
/-- the speeds for which the sine of the greatest error is great enough -/
def okV (v : Nat) : Bool := decide (7080 * 1073741824 + 10000 * 215 * (v : Int) ≤ 10000 * v * sinI (20700000 / v + 1)) && decide (20700000 / (v : Int) < 32400000)
theorem okV_all : ∀ v : Fin 401, 1 ≤ v.val → okV v.val = true := by decide +kernel
theorem cancel_pos {v z : Rat} (h1 : 1 ≤ v) (h : 0 ≤ v * z) : 0 ≤ z := by
  rcases Rat.le_total (a := 0) (b := z) with g | g
  · exact g
  · have := Rat.mul_nonneg (a := v - 1) (b := -z) (by grind) (by grind)
    grind
theorem exists_div {v : Rat} (h : 1 ≤ v) (c : Rat) : ∃ s : Rat, v * s = c := ⟨c / v, by rw [Rat.mul_comm]; exact Rat.div_mul_cancel (by intro e; rw [e] at h; exact absurd h (by decide))⟩
/-- the angle of a vector that is near another -/
theorem angle_core {y x f a : Int} {v g k σ : Rat} (h1 : 1 ≤ v) (hK : Nr (25 / 100000000) (28 / 100) y x a)
    (p0 : -g ≤ X a * ((x : Rat) - v * X f) + Y a * ((y : Rat) - v * Y f)) (p1 : X a * ((x : Rat) - v * X f) + Y a * ((y : Rat) - v * Y f) ≤ g)
    (q0 : -g ≤ Y a * ((x : Rat) - v * X f) + -X a * ((y : Rat) - v * Y f)) (q1 : Y a * ((x : Rat) - v * X f) + -X a * ((y : Rat) - v * Y f) ≤ g)
    (hs : 25 / 100000000 * sz y x ≤ k) (hd : g + 2 / 10000000 * v ≤ (y : Rat) * Y a + (x : Rat) * X a) (hσ : v * σ = g + k) :
    2 / 10000000 ≤ X (a - f) ∧ -σ ≤ Y (a - f) ∧ Y (a - f) ≤ σ := by
  obtain ⟨⟨c0, c1⟩, _⟩ := hK
  have eY : v * Y (a - f) = -((y : Rat) * X a - (x : Rat) * Y a) - (Y a * ((x : Rat) - v * X f) + -X a * ((y : Rat) - v * Y f)) := by rw [Y_sub]; grind
  have eX : v * X (a - f) = ((y : Rat) * Y a + (x : Rat) * X a) - (X a * ((x : Rat) - v * X f) + Y a * ((y : Rat) - v * Y f)) := by rw [X_sub]; grind
  generalize X (a - f) = X1 at *
  generalize Y (a - f) = Y1 at *
  generalize (y : Rat) * X a - (x : Rat) * Y a = r1 at *
  generalize (y : Rat) * Y a + (x : Rat) * X a = r2 at *
  generalize X a * ((x : Rat) - v * X f) + Y a * ((y : Rat) - v * Y f) = r3 at *
  generalize Y a * ((x : Rat) - v * X f) + -X a * ((y : Rat) - v * Y f) = r4 at *
  generalize sz y x = s at *
  refine ⟨?_, ?_, ?_⟩
  · have := cancel_pos (z := X1 - 2 / 10000000) h1 (by grind)
    grind
  · have := cancel_pos (z := Y1 + σ) h1 (by grind)
    grind
  · have := cancel_pos (z := σ - Y1) h1 (by grind)
    grind
theorem norm_sq (y x a : Int) : ((y : Rat) * X a - (x : Rat) * Y a) * ((y : Rat) * X a - (x : Rat) * Y a) + ((y : Rat) * Y a + (x : Rat) * X a) * ((y : Rat) * Y a + (x : Rat) * X a) = ((x * x + y * y : Int) : Rat) := by
  rw [Rat.intCast_add, Rat.intCast_mul, Rat.intCast_mul]
  have n := norm a
  have : ((y : Rat) * X a - (x : Rat) * Y a) * ((y : Rat) * X a - (x : Rat) * Y a) + ((y : Rat) * Y a + (x : Rat) * X a) * ((y : Rat) * Y a + (x : Rat) * X a) = (X a * X a + Y a * Y a) * ((x : Rat) * x + y * y) := by grind
  rw [this, n]
  grind
theorem directions {f v : Int} (f0 : 0 ≤ f) (f1 : f < 129600000) (v0 : 1 ≤ v) (v1 : v ≤ 400) :
    (isq (shu (-v * sinI f) * shu (-v * sinI f) + shu (-v * cosI f) * shu (-v * cosI f)) ≤ v ∧ v - 2 ≤ isq (shu (-v * sinI f) * shu (-v * sinI f) + shu (-v * cosI f) * shu (-v * cosI f))) ∧
    ¬(shu (-v * sinI f) = 0 ∧ shu (-v * cosI f) = 0) ∧
    -(20700000 / v) ≤ diffI f (atanI (-shu (-v * sinI f)) (-shu (-v * cosI f))) ∧ diffI f (atanI (-shu (-v * sinI f)) (-shu (-v * cosI f))) ≤ 20700000 / v := by
  obtain ⟨s0, s1⟩ := sin_near f0 f1
  obtain ⟨c0, c1⟩ := cos_near f0 f1
  obtain ⟨y0, y1⟩ := of_comp (v := v) (s := sinI f) (t := Y f) (by omega) v1 (by grind) (by grind)
  obtain ⟨x0, x1⟩ := of_comp (v := v) (s := cosI f) (t := X f) (by omega) v1 c0 c1
  have hE : shu (-v * sinI f) = -(-shu (-v * sinI f)) := by omega
  have hN : shu (-v * cosI f) = -(-shu (-v * cosI f)) := by omega
  have e1 : shu (-v * sinI f) * shu (-v * sinI f) + shu (-v * cosI f) * shu (-v * cosI f) = (-shu (-v * cosI f)) * (-shu (-v * cosI f)) + (-shu (-v * sinI f)) * (-shu (-v * sinI f)) := by rw [Int.neg_mul_neg, Int.neg_mul_neg, Int.add_comm]
  have e2 : (shu (-v * sinI f) = 0 ∧ shu (-v * cosI f) = 0) ↔ (-shu (-v * sinI f) = 0 ∧ -shu (-v * cosI f) = 0) := by omega
  rw [e1, e2]
  clear e1 e2 hE hN s0 s1 c0 c1
  generalize -shu (-v * sinI f) = y at *
  generalize -shu (-v * cosI f) = x at *
  have n := norm f
  have V0 := cast_le v0
  have V1 := cast_le v1
  simp only [Rat.intCast_ofNat] at V0 V1
  obtain ⟨p0, p1⟩ := proj n x0 x1 y0 y1 (7074 / 10000) (by grind) (by grind)
  have hsq := sum_sq (x := x) (y := y) (v := (v : Rat)) n rfl rfl
  have hx2 : ((x : Rat) - v * X f) * ((x : Rat) - v * X f) ≤ 2502 / 10000 := by
    have := Rat.mul_nonneg (a := 5001 / 10000 - ((x : Rat) - v * X f)) (b := 5001 / 10000 + ((x : Rat) - v * X f)) (by grind) (by grind)
    grind
  have hy2 : ((y : Rat) - v * Y f) * ((y : Rat) - v * Y f) ≤ 2502 / 10000 := by
    have := Rat.mul_nonneg (a := 5001 / 10000 - ((y : Rat) - v * Y f)) (b := 5001 / 10000 + ((y : Rat) - v * Y f)) (by grind) (by grind)
    grind
  have hx3 := sq_nonneg ((x : Rat) - v * X f)
  have hy3 := sq_nonneg ((y : Rat) - v * Y f)
  -- the speed
  have Vp := Rat.mul_nonneg (a := (v : Rat)) (b := X f * ((x : Rat) - v * X f) + Y f * ((y : Rat) - v * Y f) + 7074 / 10000) (by grind) (by grind)
  have Vq := Rat.mul_nonneg (a := (v : Rat)) (b := 7074 / 10000 - (X f * ((x : Rat) - v * X f) + Y f * ((y : Rat) - v * Y f))) (by grind) (by grind)
  have up : ((x * x + y * y : Int) : Rat) < (((v + 1) * (v + 1) : Int) : Rat) := by
    rw [hsq, Rat.intCast_mul, Rat.intCast_add, Rat.intCast_ofNat]
    generalize X f * ((x : Rat) - v * X f) + Y f * ((y : Rat) - v * Y f) = z at *
    generalize ((x : Rat) - v * X f) * ((x : Rat) - v * X f) = a at *
    generalize ((y : Rat) - v * Y f) * ((y : Rat) - v * Y f) = b at *
    clear x0 x1 y0 y1 n hsq
    grind
  have up := Rat.intCast_lt_intCast.1 up
  have lo : ((v * v - 2 * v : Int) : Rat) ≤ ((x * x + y * y : Int) : Rat) := by
    rw [hsq, Rat.intCast_sub, Rat.intCast_mul, Rat.intCast_mul, Rat.intCast_ofNat]
    generalize X f * ((x : Rat) - v * X f) + Y f * ((y : Rat) - v * Y f) = z at *
    generalize ((x : Rat) - v * X f) * ((x : Rat) - v * X f) = a at *
    generalize ((y : Rat) - v * Y f) * ((y : Rat) - v * Y f) = b at *
    clear x0 x1 y0 y1 n hsq
    grind
  have lo := Rat.intCast_le_intCast.1 lo
  have vv : (v + 1) * (v + 1) ≤ 160801 := by have := Sq.sq_le (a := v + 1) (b := 401) (by omega) (by omega); omega
  have nn : 0 ≤ x * x + y * y := by have := Sq.sq_nonneg x; have := Sq.sq_nonneg y; omega
  have nz : ¬(y = 0 ∧ x = 0) := by
    rintro ⟨rfl, rfl⟩
    have z : ((0 : Int) : Rat) = 0 := rfl
    rw [z] at hx2 hy2
    have : (0 - (v : Rat) * X f) * (0 - v * X f) + (0 - v * Y f) * (0 - v * Y f) = v * v := by grind
    have v2 := Rat.mul_nonneg (a := (v : Rat) - 1) (b := (v : Rat) + 1) (by grind) (by grind)
    grind
  refine ⟨⟨?_, ?_⟩, nz, ?_⟩
  · have := (Sq.isq_lt (n := x * x + y * y) (r := v + 1) (by omega) nn (by omega)).2 up
    omega
  · by_cases h2 : v < 2
    · have := Sq.isq_nonneg (n := x * x + y * y) (by omega); omega
    · refine (Sq.le_isq (n := x * x + y * y) (r := v - 2) (by omega) nn (by omega)).2 ?_
      have : (v - 2) * (v - 2) = v * v - 4 * v + 4 := by grind
      omega
  · obtain ⟨t0, t1⟩ := atanI_range y x
    have hN := atan_near y x
    have hnq := norm_sq y x (atanI y x)
    generalize atanI y x = a at *
    have na := norm a
    obtain ⟨r0, r1⟩ := proj na x0 x1 y0 y1 (7074 / 10000) (by grind) (by grind)
    obtain ⟨r2, r3⟩ := proj (x := Y a) (y := -X a) (by grind) x0 x1 y0 y1 (7074 / 10000) (by grind) (by grind)
    have hv1 : x * x + y * y ≤ 160801 := by omega
    have hs : sz y x ≤ 804 := by
      have hx : absI x ≤ 402 := by
        have hx2 : x * x ≤ 160801 := by have := Sq.sq_nonneg y; omega
        have h1 := Sq.le_of_sq (a := x) (b := 402) (by decide) (by omega)
        have h2 := Sq.le_of_sq (a := -x) (b := 402) (by decide) (by rw [Int.neg_mul_neg]; omega)
        unfold absI; split <;> omega
      have hy : absI y ≤ 402 := by
        have hy2 : y * y ≤ 160801 := by have := Sq.sq_nonneg x; omega
        have h1 := Sq.le_of_sq (a := y) (b := 402) (by decide) (by omega)
        have h2 := Sq.le_of_sq (a := -y) (b := 402) (by decide) (by rw [Int.neg_mul_neg]; omega)
        unfold absI; split <;> omega
      have := cast_le (a := absI y + absI x) (b := 804) (by omega)
      rw [Rat.intCast_ofNat] at this
      exact this
    have one : 1 ≤ x * x + y * y := by
      have hx := Sq.sq_nonneg x
      have hy := Sq.sq_nonneg y
      by_cases h : x * x + y * y ≤ 0
      · exfalso
        apply nz
        have hx0 : x * x = 0 := by omega
        have hy0 : y * y = 0 := by omega
        rw [Int.mul_eq_zero] at hx0 hy0
        omega
      · omega
    have one := cast_le one
    have one : (1 : Rat) ≤ ((x * x + y * y : Int) : Rat) := by rw [Rat.intCast_ofNat] at one; exact one
    have hd : 99 / 100 ≤ (y : Rat) * Y a + (x : Rat) * X a := by
      obtain ⟨⟨k0, k1⟩, k2⟩ := hN
      obtain ⟨_, _, sp⟩ := sz_bd y x
      rw [← hnq] at one
      clear hnq r0 r1 r2 r3 na hsq lo up x0 x1 y0 y1 p0 p1 hx2 hy2 hx3 hy3 Vp Vq n
      generalize (y : Rat) * X a - (x : Rat) * Y a = c at *
      generalize (y : Rat) * Y a + (x : Rat) * X a = d at *
      generalize sz y x = s at *
      have hc : c * c ≤ 1 / 1000 := by
        have := Rat.mul_nonneg (a := 3 / 100 - c) (b := 3 / 100 + c) (by grind) (by grind)
        grind
      rcases Rat.le_total (a := 99 / 100) (b := d) with g | g
      · exact g
      · have := Rat.mul_nonneg (a := 99 / 100 - d) (b := 99 / 100 + d) (by grind) (by grind)
        grind
    obtain ⟨σ, hσ⟩ := exists_div V0 (7074 / 10000 + 3 / 10000)
    obtain ⟨g0, g1, g2⟩ := angle_core (f := f) (k := 3 / 10000) (g := 7074 / 10000) (σ := σ) V0 hN r0 r1 r2 r3 (by grind) (by grind) hσ
    have hok := okV_all ⟨v.toNat, by omega⟩ (by show 1 ≤ v.toNat; omega)
    unfold okV at hok
    rw [Bool.and_eq_true, decide_eq_true_iff, decide_eq_true_iff] at hok
    obtain ⟨o1, o2⟩ := hok
    have ev : ((v.toNat : Nat) : Int) = v := by omega
    simp only [ev] at o1 o2
    have bb : 0 ≤ 20700000 / v := Int.ediv_nonneg (by decide) (by omega)
    refine diff_le f0 f1 t0 t1 g0 g1 g2 bb o2 ?_
    have o1 := cast_le o1
    simp only [Rat.intCast_mul, Rat.intCast_add, Rat.intCast_ofNat] at o1
    clear hnq r0 r1 r2 r3 na hsq lo up x0 x1 y0 y1 p0 p1 hx2 hy2 hx3 hy3 Vp Vq n hd one hN
    generalize (sinI (20700000 / v + 1) : Rat) = p at *
    have := cancel_pos (z := p - 1073741824 * (σ + 2 / 10000000)) V0 (by grind)
    grind
end Go.Proofs.YtdfpbojlimeccaaDoor.Un
