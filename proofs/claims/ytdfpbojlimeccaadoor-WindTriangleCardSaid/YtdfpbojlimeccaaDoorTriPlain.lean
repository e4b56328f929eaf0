/-
  Flown with the heading that the wind triangle finds, the course is the wanted one, within the rounding. Plain.
-/
import Derived.Test.YtdfpbojlimeccaaDoorDirPlain
namespace Go.Proofs.YtdfpbojlimeccaaDoor.Un
set_option linter.unusedVariables false
open Tr
open Sq (isq)

theorem shf_near (z : Int) : -(524288 : Rat) ≤ 1048576 * (shf z : Rat) - z ∧ 1048576 * (shf z : Rat) - z ≤ 524288 := by
  have l : z ≤ 1048576 * shf z + 524288 := by unfold shf; omega
  have u : 1048576 * shf z ≤ z + 524288 := by unfold shf; omega
  have l := cast_le l
  have u := cast_le u
  simp only [Rat.intCast_mul, Rat.intCast_add, Rat.intCast_ofNat] at l u
  constructor <;> grind
/-- a product of a whole number and a sine -/
theorem whole_mul {e s m : Int} {t : Rat} (m0 : 0 ≤ m) (e0 : -m ≤ e) (e1 : e ≤ m) (h0 : -31 ≤ (s : Rat) - 1073741824 * t) (h1 : (s : Rat) - 1073741824 * t ≤ 31) : -(31 * (m : Rat)) ≤ (e : Rat) * s - 1073741824 * (e * t) ∧ (e : Rat) * s - 1073741824 * (e * t) ≤ 31 * m := by
  have e0 := cast_le e0
  have e1 := cast_le e1
  have m0 := cast_le m0
  rw [Rat.intCast_neg] at e0
  rw [Rat.intCast_ofNat] at m0
  have p := sz_mul m0 e0 e1 h0 h1
  constructor <;> grind
theorem along_near {c e n : Int} (c0 : 0 ≤ c) (c1 : c < 129600000) (hv : vldW e n = true) :
    (-(53 / 100) ≤ (alongI c e n : Rat) - 1024 * (e * Y c + n * X c) ∧ (alongI c e n : Rat) - 1024 * (e * Y c + n * X c) ≤ 53 / 100) ∧
    (-(53 / 100) ≤ (acrossI c e n : Rat) - 1024 * (e * X c - n * Y c) ∧ (acrossI c e n : Rat) - 1024 * (e * X c - n * Y c) ≤ 53 / 100) := by
  obtain ⟨a0, a1, a2, a3⟩ := vldW_iff.1 hv
  obtain ⟨s0, s1⟩ := sin_near c0 c1
  obtain ⟨k0, k1⟩ := cos_near c0 c1
  have p1 := whole_mul (m := 400) (by decide) a0 a1 (show -31 ≤ (sinI c : Rat) - 1073741824 * Y c by grind) (by grind)
  have p2 := whole_mul (m := 400) (by decide) a2 a3 (show -31 ≤ (sinI c : Rat) - 1073741824 * Y c by grind) (by grind)
  have p3 := whole_mul (m := 400) (by decide) a0 a1 k0 k1
  have p4 := whole_mul (m := 400) (by decide) a2 a3 k0 k1
  have q1 := shf_near (e * sinI c + n * cosI c)
  have q2 := shf_near (e * cosI c - n * sinI c)
  rw [Rat.intCast_add, Rat.intCast_mul, Rat.intCast_mul] at q1
  rw [Rat.intCast_sub, Rat.intCast_mul, Rat.intCast_mul] at q2
  rw [Rat.intCast_ofNat] at p1 p2 p3 p4
  unfold alongI acrossI
  refine ⟨⟨?_, ?_⟩, ?_, ?_⟩ <;> grind
theorem track_near {h t e n : Int} (h0 : 0 ≤ h) (h1 : h < 129600000) (t0 : 1 ≤ t) (t1 : t ≤ 4000) :
    (-(58 / 100) ≤ (trackX h t e : Rat) - 1024 * (t * Y h + e) ∧ (trackX h t e : Rat) - 1024 * (t * Y h + e) ≤ 58 / 100) ∧
    (-(62 / 100) ≤ (trackY h t n : Rat) - 1024 * (t * X h + n) ∧ (trackY h t n : Rat) - 1024 * (t * X h + n) ≤ 62 / 100) := by
  obtain ⟨s0, s1⟩ := sin_near h0 h1
  obtain ⟨k0, k1⟩ := cos_near h0 h1
  have T0 := cast_le t0
  have T1 := cast_le t1
  simp only [Rat.intCast_ofNat] at T0 T1
  have p1 := sz_mul (u := (t : Rat)) (s := (t : Rat)) (by grind) (by grind) (by grind) s0 s1
  have p2 := sz_mul (u := (t : Rat)) (s := (t : Rat)) (by grind) (by grind) (by grind) k0 k1
  have q1 := shf_near (t * sinI h + e * 1073741824)
  have q2 := shf_near (t * cosI h + n * 1073741824)
  rw [Rat.intCast_add, Rat.intCast_mul, Rat.intCast_mul, Rat.intCast_ofNat] at q1 q2
  unfold trackX trackY
  refine ⟨⟨?_, ?_⟩, ?_, ?_⟩ <;> grind
/-- the heading's turn -/
theorem turn_near {c a : Int} (c0 : 0 ≤ c) (c1 : c < 129600000) (a0 : 0 ≤ a) (a1 : a < 129600000) :
    (0 ≤ turnI c (diffI 0 a) ∧ turnI c (diffI 0 a) < 129600000) ∧ (-(8 * kq) ≤ X (turnI c (diffI 0 a)) - X (c + a) ∧ X (turnI c (diffI 0 a)) - X (c + a) ≤ 8 * kq) ∧ (-(8 * kq) ≤ Y (turnI c (diffI 0 a)) - Y (c + a) ∧ Y (turnI c (diffI 0 a)) - Y (c + a) ≤ 8 * kq) := by
  have hk : 0 ≤ kq := by unfold kq; grind
  have hd : (0 ≤ turnI c (diffI 0 a) ∧ turnI c (diffI 0 a) < 129600000) ∧ (turnI c (diffI 0 a) = c + a ∨ c + a = turnI c (diffI 0 a) + 129600000) := by
    unfold turnI diffI normI
    have e1 : c % 129600000 = c := by omega
    have e2 : a % 129600000 = a := by omega
    rw [e1, e2]
    split <;> omega
  obtain ⟨hb, h⟩ := hd
  refine ⟨hb, ?_⟩
  rcases h with h | h
  · rw [h]
    refine ⟨⟨?_, ?_⟩, ?_, ?_⟩ <;> grind
  · obtain ⟨⟨a0, a1⟩, b0, b1⟩ := turn8 (turnI c (diffI 0 a))
    rw [h]
    refine ⟨⟨?_, ?_⟩, ?_, ?_⟩ <;> grind
/-- the triangle's sides: the airspeed along the drift angle, against the root and the component across -/
theorem drift_near {C R T a : Int} (hT0 : 1024 ≤ T) (hT1 : T ≤ 4096000) (hC0 : -819200 ≤ C) (hC1 : C ≤ 819200) (hR0 : 0 ≤ R) (hR1 : R ≤ 4096000) (lo : R * R ≤ T * T - C * C) (hi : T * T - C * C < (R + 1) * (R + 1)) (ha : a = atanI (-C) R) :
    (-(33 / 10) ≤ (T : Rat) * Y a + C ∧ (T : Rat) * Y a + C ≤ 33 / 10) ∧ (-(33 / 10) ≤ (T : Rat) * X a - R ∧ (T : Rat) * X a - R ≤ 33 / 10) := by
  have hN := atan_near (-C) R
  have hq := norm_sq (-C) R (atanI (-C) R)
  rw [← ha] at hN hq
  obtain ⟨⟨k0, k1⟩, k2⟩ := hN
  have hs : sz (-C) R ≤ 4915200 := by
    have : absI (-C) + absI R ≤ 4915200 := by unfold absI; split <;> split <;> omega
    have := cast_le this
    rw [Rat.intCast_ofNat] at this
    exact this
  obtain ⟨_, _, hs0⟩ := sz_bd (-C) R
  rw [Int.neg_mul_neg] at hq
  have hRT : R ≤ T := by
    have := Sq.sq_nonneg C
    exact Sq.le_of_sq (by omega) (by omega)
  have n := norm a
  obtain ⟨x0, x1⟩ := X_bd a
  obtain ⟨y0, y1⟩ := Y_bd a
  have up : ((R * R + C * C : Int) : Rat) ≤ ((T * T : Int) : Rat) := cast_le (by omega)
  have dn : ((T * T - 2 * R - 1 : Int) : Rat) ≤ ((R * R + C * C : Int) : Rat) := cast_le (by
    have : (R + 1) * (R + 1) = R * R + 2 * R + 1 := by grind
    omega)
  rw [← hq] at up dn
  simp only [Rat.intCast_mul, Rat.intCast_sub, Rat.intCast_ofNat] at up dn
  have RT := cast_le hRT
  have T0 := cast_le hT0
  rw [Rat.intCast_ofNat] at T0
  have e1 : (T : Rat) * Y a + C = Y a * ((T : Rat) - (((-C : Int) : Rat) * Y a + R * X a)) - X a * (((-C : Int) : Rat) * X a - R * Y a) := by
    rw [Rat.intCast_neg]; grind
  have e2 : (T : Rat) * X a - R = X a * ((T : Rat) - (((-C : Int) : Rat) * Y a + R * X a)) + Y a * (((-C : Int) : Rat) * X a - R * Y a) := by
    rw [Rat.intCast_neg]; grind
  rw [e1, e2]
  clear e1 e2 hq n
  generalize ((-C : Int) : Rat) * X a - R * Y a = c at *
  generalize ((-C : Int) : Rat) * Y a + R * X a = d at *
  generalize sz (-C) R = s at *
  have c0 : -(123 / 100) ≤ c := by grind
  have c1 : c ≤ 123 / 100 := by grind
  have cc : c * c ≤ 16 / 10 := by
    have := Rat.mul_nonneg (a := 123 / 100 - c) (b := 123 / 100 + c) (by grind) (by grind)
    grind
  have d0 : 0 ≤ d := by grind
  have c2 := sq_nonneg c
  have d1 : d ≤ T := lt_of_sqR (by grind) (by grind)
  have d2 : (T : Rat) - 2 ≤ d := lt_of_sqR d0 (by grind)
  have m1 := mul_small (v := (T : Rat) - d) (e := 2) y0 y1 (by grind) (by grind)
  have m2 := mul_small (v := (T : Rat) - d) (e := 2) x0 x1 (by grind) (by grind)
  have m3 := mul_small x0 x1 c0 c1
  have m4 := mul_small y0 y1 c0 c1
  refine ⟨⟨?_, ?_⟩, ?_, ?_⟩ <;> grind

theorem along_parts {x y e n t C R A cX cY aX aY kX kY hX hY T : Rat} (hn : cX * cX + cY * cY = 1) (cX0 : -1 ≤ cX) (cX1 : cX ≤ 1) (cY0 : -1 ≤ cY) (cY1 : cY ≤ 1)
    (ekX : aX = kX * cX + kY * cY) (ekY : aY = kY * cX - kX * cY) (hT : T = 1024 * t) (t0 : 1 ≤ t) (t1 : t ≤ 4000)
    (x0 : -(58 / 100) ≤ x - 1024 * (t * hY + e)) (x1 : x - 1024 * (t * hY + e) ≤ 58 / 100) (y0 : -(62 / 100) ≤ y - 1024 * (t * hX + n)) (y1 : y - 1024 * (t * hX + n) ≤ 62 / 100)
    (u0 : -(1 / 90000000) ≤ hX - kX) (u1 : hX - kX ≤ 1 / 90000000) (v0 : -(1 / 90000000) ≤ hY - kY) (v1 : hY - kY ≤ 1 / 90000000)
    (A0 : -(53 / 100) ≤ A - 1024 * (e * cY + n * cX)) (A1 : A - 1024 * (e * cY + n * cX) ≤ 53 / 100) (C0 : -(53 / 100) ≤ C - 1024 * (e * cX - n * cY)) (C1 : C - 1024 * (e * cX - n * cY) ≤ 53 / 100)
    (D0 : -(33 / 10) ≤ T * aY + C) (D1 : T * aY + C ≤ 33 / 10) (E0 : -(33 / 10) ≤ T * aX - R) (E1 : T * aX - R ≤ 33 / 10) :
    (-(52 / 10) ≤ x * cY + y * cX - (A + R) ∧ x * cY + y * cX - (A + R) ≤ 52 / 10) ∧ (-(52 / 10) ≤ x * cX - y * cY ∧ x * cX - y * cY ≤ 52 / 10) := by
  have w1 := sz_mul (u := t) (s := t) (v := hX - kX) (e := 1 / 90000000) (by grind) (by grind) (by grind) u0 u1
  have w2 := sz_mul (u := t) (s := t) (v := hY - kY) (e := 1 / 90000000) (by grind) (by grind) (by grind) v0 v1
  have z0 : -(63 / 100) ≤ x - 1024 * (t * kY + e) := by grind
  have z1 : x - 1024 * (t * kY + e) ≤ 63 / 100 := by grind
  have z2 : -(67 / 100) ≤ y - 1024 * (t * kX + n) := by grind
  have z3 : y - 1024 * (t * kX + n) ≤ 67 / 100 := by grind
  have m1 := mul_small cY0 cY1 z0 z1
  have m2 := mul_small cX0 cX1 z2 z3
  have m3 := mul_small cX0 cX1 z0 z1
  have m4 := mul_small cY0 cY1 z2 z3
  have i1 : x * cY + y * cX = cY * (x - 1024 * (t * kY + e)) + cX * (y - 1024 * (t * kX + n)) + T * aX + 1024 * (e * cY + n * cX) := by rw [ekX, hT]; grind
  have i2 : x * cX - y * cY = cX * (x - 1024 * (t * kY + e)) - cY * (y - 1024 * (t * kX + n)) + T * aY + 1024 * (e * cX - n * cY) := by rw [ekY, hT]; grind
  rw [i1, i2]
  clear i1 i2 ekX ekY hT w1 w2 x0 x1 y0 y1 u0 u1 v0 v1 hn
  refine ⟨⟨?_, ?_⟩, ?_, ?_⟩ <;> grind
theorem triangle {c t e n g d : Int} (c0 : 0 ≤ c) (c1 : c < 129600000) (hg : groundF c t e n = (g, d, 0)) (g0 : 1032 ≤ g) :
    ∃ c' h', trackF (turnI c d) t e n = (c', h', 0) ∧ g ≤ 4915200 ∧ h' ≤ g + 8 ∧ g - 8 ≤ h' ∧ -(331200000 / g + 1) ≤ diffI c c' ∧ diffI c c' ≤ 331200000 / g + 1 := by
  unfold groundF at hg
  split at hg
  case isFalse => simp at hg
  case isTrue hok =>
  obtain ⟨hv, t0, t1⟩ := hok
  split at hg
  case isTrue => simp at hg
  case isFalse hx =>
  split at hg
  case isTrue => simp at hg
  case isFalse hy =>
  simp only [Prod.mk.injEq] at hg
  obtain ⟨hg, hd, _⟩ := hg
  have hC := across_bd (c := c) hv
  have hA := along_bd (c := c) hv
  have hvb := vldW_iff.1 hv
  obtain ⟨⟨A0, A1⟩, C0, C1⟩ := along_near c0 c1 hv
  obtain ⟨b1, b2, b3, b4, b5, b6⟩ := under_bd (t := t) (x := acrossI c e n) t0 t1 (by omega) (by omega)
  have hR := root_bd b1 b2
  have hI := Sq.isq_is (n := t * 1024 * (t * 1024) - acrossI c e n * acrossI c e n) (by omega) (by omega)
  generalize hRR : isq (t * 1024 * (t * 1024) - acrossI c e n * acrossI c e n) = R at *
  generalize hCC : acrossI c e n = C at *
  generalize hAA : alongI c e n = A at *
  obtain ⟨a0, a1⟩ := atanI_range (-C) R
  obtain ⟨⟨D0, D1⟩, E0, E1⟩ := drift_near (C := C) (R := R) (T := t * 1024) (by omega) (by omega) hC.1 hC.2 (by omega) (by omega) hI.le hI.lt rfl
  generalize atanI (-C) R = a at *
  obtain ⟨⟨h0, h1⟩, ⟨u0, u1⟩, v0, v1⟩ := turn_near c0 c1 a0 a1
  rw [hd] at h0 h1 u0 u1 v0 v1
  generalize hh : turnI c d = h at *
  obtain ⟨⟨x0, x1⟩, y0, y1⟩ := track_near (e := e) (n := n) h0 h1 t0 t1
  have hxy := track_bd (h := h) (e := e) t0 t1 hvb.1 hvb.2.1
  have hxy2 := track_bd (h := h) (e := n) t0 t1 hvb.2.2.1 hvb.2.2.2
  have ekX := X_sub (c + a) c
  have ekY := Y_sub (c + a) c
  rw [show c + a - c = a by omega] at ekX ekY
  obtain ⟨cX0, cX1⟩ := X_bd c
  obtain ⟨cY0, cY1⟩ := Y_bd c
  have nc := norm c
  have T0 := cast_le t0
  have T1 := cast_le t1
  simp only [Rat.intCast_ofNat] at T0 T1
  have hk : 8 * kq ≤ 1 / 90000000 := by unfold kq; grind
  obtain ⟨⟨l0, l1⟩, l2, l3⟩ := along_parts (e := (e : Rat)) (n := (n : Rat)) (t := (t : Rat)) (T := ((t * 1024 : Int) : Rat)) (hX := X h) (hY := Y h) (kX := X (c + a)) (kY := Y (c + a)) (aX := X a) (aY := Y a) nc cX0 cX1 cY0 cY1 (by rw [ekX]) (by rw [ekY])
    (by rw [Rat.intCast_mul, Rat.intCast_ofNat]; grind) T0 T1 x0 x1 y0 y1 (by grind) (by grind) (by grind) (by grind) A0 A1 C0 C1 D0 D1 E0 E1
  have tXe : trackX h t e = trackX h t e := rfl
  unfold trackF
  rw [if_pos ⟨hv, t0, t1⟩]
  clear x0 x1 y0 y1 u0 u1 v0 v1 A0 A1 C0 C1 D0 D1 E0 E1 ekX ekY tXe
  generalize trackX h t e = x at *
  generalize trackY h t n = y at *
  have gR : (A : Rat) + R = (g : Rat) := by rw [← hg, Rat.intCast_add]
  rw [gR] at l0 l1
  have G0 := cast_le g0
  have gb : g ≤ 4915200 := by omega
  have G1 := cast_le gb
  simp only [Rat.intCast_ofNat] at G0 G1
  have nq := norm_sq x y c
  have e1 : (x : Rat) * X c - (y : Rat) * Y c = (x : Rat) * X c - y * Y c := rfl
  -- the speed
  have sq1 : ((x : Rat) * X c - y * Y c) * ((x : Rat) * X c - y * Y c) ≤ 2704 / 100 := by
    generalize (x : Rat) * X c - y * Y c = z at *
    have := Rat.mul_nonneg (a := 52 / 10 - z) (b := 52 / 10 + z) (by grind) (by grind)
    grind
  have sq0 := sq_nonneg ((x : Rat) * X c - y * Y c)
  have up : ((y * y + x * x : Int) : Rat) < (((g + 9) * (g + 9) : Int) : Rat) := by
    rw [← nq, Rat.intCast_mul, Rat.intCast_add, Rat.intCast_ofNat]
    clear nq nc
    generalize (x : Rat) * Y c + y * X c = z at *
    generalize (x : Rat) * X c - y * Y c = u at *
    have := Rat.mul_nonneg (a := (g : Rat) + 52 / 10 - z) (b := (g : Rat) + 52 / 10 + z) (by grind) (by grind)
    grind
  have lo : (((g - 6) * (g - 6) : Int) : Rat) ≤ ((y * y + x * x : Int) : Rat) := by
    rw [← nq, Rat.intCast_mul, Rat.intCast_sub, Rat.intCast_ofNat]
    clear nq nc
    generalize (x : Rat) * Y c + y * X c = z at *
    generalize (x : Rat) * X c - y * Y c = u at *
    have := Rat.mul_nonneg (a := z - ((g : Rat) - 6)) (b := z + ((g : Rat) - 6)) (by grind) (by grind)
    grind
  have up := Rat.intCast_lt_intCast.1 up
  have lo := Rat.intCast_le_intCast.1 lo
  have gg : (g + 9) * (g + 9) ≤ 24159280340481 := by have := Sq.sq_le (a := g + 9) (b := 4915209) (by omega) (by omega); omega
  have ec : x * x + y * y = y * y + x * x := by omega
  have nn : 0 ≤ x * x + y * y := by have := Sq.sq_nonneg x; have := Sq.sq_nonneg y; omega
  have hup : isq (x * x + y * y) ≤ g + 8 := by
    have := (Sq.isq_lt (n := x * x + y * y) (r := g + 9) (by omega) nn (by omega)).2 (by omega)
    omega
  have hlo : g - 6 ≤ isq (x * x + y * y) := (Sq.le_isq (n := x * x + y * y) (r := g - 6) (by omega) nn (by omega)).2 (by omega)
  rw [if_neg (by omega)]
  refine ⟨_, _, rfl, gb, hup, by omega, ?_⟩
  -- the angle
  obtain ⟨t0', t1'⟩ := atanI_range x y
  have hN := atan_near x y
  have hnq := norm_sq x y (atanI x y)
  generalize atanI x y = b at *
  have nb := norm b
  have fe : ((y : Rat) - g * X c) * ((y : Rat) - g * X c) + ((x : Rat) - g * Y c) * ((x : Rat) - g * Y c) ≤ 5408 / 100 := by
    have i : ((y : Rat) - g * X c) * ((y : Rat) - g * X c) + ((x : Rat) - g * Y c) * ((x : Rat) - g * Y c) = ((x : Rat) * Y c + y * X c - g) * ((x : Rat) * Y c + y * X c - g) + ((x : Rat) * X c - y * Y c) * ((x : Rat) * X c - y * Y c) := by
      have : ((x : Rat) * Y c + y * X c - g) * ((x : Rat) * Y c + y * X c - g) + ((x : Rat) * X c - y * Y c) * ((x : Rat) * X c - y * Y c) = (X c * X c + Y c * Y c) * ((x : Rat) * x + y * y) - 2 * g * ((x : Rat) * Y c + y * X c) + g * g := by grind
      rw [this, nc]
      have : ((y : Rat) - g * X c) * ((y : Rat) - g * X c) + ((x : Rat) - g * Y c) * ((x : Rat) - g * Y c) = ((x : Rat) * x + y * y) - 2 * g * ((x : Rat) * Y c + y * X c) + g * g * (X c * X c + Y c * Y c) := by grind
      rw [this, nc]
      grind
    rw [i]
    clear i nq hnq nc nb
    generalize (x : Rat) * Y c + y * X c - g = z at *
    have := Rat.mul_nonneg (a := 52 / 10 - z) (b := 52 / 10 + z) (by grind) (by grind)
    grind
  have comp : ∀ p q : Rat, p * p + q * q = 1 → -(736 / 100) ≤ p * ((y : Rat) - g * X c) + q * ((x : Rat) - g * Y c) ∧ p * ((y : Rat) - g * X c) + q * ((x : Rat) - g * Y c) ≤ 736 / 100 := by
    intro p q hpq
    clear nq hnq nc nb l0 l1 l2 l3
    generalize (y : Rat) - g * X c = u at *
    generalize (x : Rat) - g * Y c = v at *
    have i : (p * u + q * v) * (p * u + q * v) + (p * v - q * u) * (p * v - q * u) = (p * p + q * q) * (u * u + v * v) := by grind
    rw [hpq] at i
    have s := sq_nonneg (p * v - q * u)
    have m : (p * u + q * v) * (p * u + q * v) ≤ 5408 / 100 := by grind
    clear i s hpq
    generalize p * u + q * v = z at *
    constructor
    · have := lt_of_sqR (a := -z) (b := 736 / 100) (by grind) (by grind)
      grind
    · exact lt_of_sqR (by grind) (by grind)
  obtain ⟨r0, r1⟩ := comp (X b) (Y b) nb
  obtain ⟨r2, r3⟩ := comp (Y b) (-X b) (by grind)
  have hs1 : sz x y ≤ 9830420 ∧ (g : Rat) - 6 ≤ sz x y := by
    have hx1 : absI x * absI x = x * x := by unfold absI; split; exact Int.neg_mul_neg x x; rfl
    have hy1 : absI y * absI y = y * y := by unfold absI; split; exact Int.neg_mul_neg y y; rfl
    have px := absI_nonneg x
    have py := absI_nonneg y
    have sx := Sq.sq_nonneg x
    have sy := Sq.sq_nonneg y
    have ux : absI x ≤ 4915210 := Sq.le_of_sq (by decide) (by rw [hx1]; omega)
    have uy : absI y ≤ 4915210 := Sq.le_of_sq (by decide) (by rw [hy1]; omega)
    have low : g - 6 ≤ absI x + absI y := by
      refine Sq.le_of_sq (by omega) ?_
      have hm := Int.mul_nonneg px py
      have : (absI x + absI y) * (absI x + absI y) = absI x * absI x + absI y * absI y + 2 * (absI x * absI y) := by grind
      omega
    have k1 := cast_le (a := absI x + absI y) (b := 9830420) (by omega)
    have k2 := cast_le low
    rw [Rat.intCast_ofNat] at k1
    rw [Rat.intCast_sub, Rat.intCast_ofNat] at k2
    exact ⟨k1, k2⟩
  have hdot : 736 / 100 + 2 / 10000000 * (g : Rat) ≤ (x : Rat) * Y b + y * X b := by
    have := hN.2
    grind
  obtain ⟨σ, hσ⟩ := exists_div (v := (g : Rat)) (by grind) (736 / 100 + 246 / 100)
  obtain ⟨k0, k1, k2⟩ := angle_core (f := c) (k := 246 / 100) (g := 736 / 100) (σ := σ) (v := (g : Rat)) (by grind) hN r0 r1 r2 r3 (by grind) hdot hσ
  have bb : 0 ≤ 331200000 / g := Int.ediv_nonneg (by decide) (by omega)
  have bu : 331200000 / g ≤ 330000 := Int.ediv_le_of_le_mul (by omega) (by omega)
  have ch := sin_chord (b := 331200000 / g + 1 + 1) (by omega) (by omega)
  refine diff_le c0 c1 t0' t1' k0 k1 k2 (by omega) (by omega) ?_
  have hdiv : 331200000 ≤ (331200000 / g + 1 + 1) * g := by
    have h1 := Int.lt_mul_ediv_self_add (x := 331200000) (k := g) (by omega)
    have h2 : (331200000 / g + 1 + 1) * g = g * (331200000 / g) + 2 * g := by grind
    omega
  generalize 331200000 / g + 1 = B at *
  have ch := cast_le ch
  have hdiv := cast_le hdiv
  simp only [Rat.intCast_mul, Rat.intCast_add, Rat.intCast_ofNat] at ch hdiv
  clear nq hnq nc nb l0 l1 l2 l3 r0 r1 r2 r3 comp fe hdot hN k0 k1 k2 up lo hs1
  generalize (sinI (B + 1) : Rat) = p at *
  have := cancel_pos (v := (g : Rat)) (z := p - 1073741824 * (σ + 2 / 10000000)) (by grind) (by
    have hp : 0 ≤ (g : Rat) * (p - 40 * ((B : Rat) + 1)) := Rat.mul_nonneg (by grind) (by grind)
    grind)
  grind
end Go.Proofs.YtdfpbojlimeccaaDoor.Un
