/-
  Of the text SnCertPlain: what is wanted here.
-/
import Derived.Test.YtidelghgjibndaaGreatN7SnRowsJoin
import Derived.Test.YtidelghgjibndaaGreatN7SnMovesPlain
import Derived.Test.YtidelghgjibndaaGreatSnUnitPlain
namespace Go.Proofs.YtidelghgjibndaaGreat.S41
set_option linter.unusedVariables false
open Tr Sq
theorem near_err {p c : Int} (hc : 0 < c) : -c ≤ 2 * (p - nearI2 p c * c) ∧ 2 * (p - nearI2 p c * c) ≤ c := by
  unfold nearI2
  have h1 := Int.ediv_mul_le (2 * p + c) (show 2 * c ≠ 0 by omega)
  have h2 := Int.lt_ediv_add_one_mul_self (2 * p + c) (show 0 < 2 * c by omega)
  have e1 : (2 * p + c) / (2 * c) * (2 * c) = 2 * ((2 * p + c) / (2 * c) * c) := by grind
  have e2 : ((2 * p + c) / (2 * c) + 1) * (2 * c) = 2 * ((2 * p + c) / (2 * c) * c) + 2 * c := by grind
  omega
theorem ceil_err {p c : Int} (hc : 0 < c) : p ≤ ceilI p c * c := by
  unfold ceilI
  have h1 := Int.ediv_mul_le (-p) (show c ≠ 0 by omega)
  have e : -((-p) / c) * c = -((-p) / c * c) := Int.neg_mul _ _
  omega
theorem sqU_sq {n : Int} (h0 : 0 ≤ n) (h1 : n < 18446744073709551616) : n ≤ sqU n * sqU n := by
  have a := isq_is h0 h1
  unfold sqU
  split
  · have := a.lt
    omega
  · rename_i h
    by_cases g : 0 < n
    · have : ¬ isq n * isq n < n := fun q => h ⟨g, q⟩
      omega
    · have := Sq.sq_nonneg (isq n); omega
theorem rng_core {X Y u w D K v b F A B : Int} (hN1 : D * D ≤ X * X + Y * Y) (hN2 : X * X + Y * Y ≤ D * D + 2 * D) (hk : u * u + w * w ≤ K * K) (K0 : 0 ≤ K) (hD : 0 < D) (h4 : 4 * K ≤ D) (v0 : 0 ≤ v) (b0 : 0 ≤ b)
    (hS1 : (X + u) * (X + u) + (Y + w) * (Y + w) ≤ (v + b) * (v + b)) (hS2 : v - b ≤ 0 ∨ (v - b) * (v - b) ≤ (X + u) * (X + u) + (Y + w) * (Y + w)) (F0 : 0 ≤ F) (hF : K * K ≤ F * (2 * (D - K)))
    (hA : -D ≤ 2 * (256 * X - A * D) ∧ 2 * (256 * X - A * D) ≤ D) (hB : -D ≤ 2 * (256 * Y - B * D) ∧ 2 * (256 * Y - B * D) ≤ D) :
    -(K + 256 * (b + 1 + F)) ≤ A * u + B * w - 256 * (v - D) ∧ A * u + B * w - 256 * (v - D) ≤ K + 256 * (b + 1 + F) := by
  have KD : K * K ≤ D * D := Sq.sq_le K0 (by omega)
  have n1 := Sq.sq_nonneg (X * w - Y * u)
  have eS : (X + u) * (X + u) + (Y + w) * (Y + w) = (X * X + Y * Y) + (u * u + w * w) + 2 * (X * u + Y * w) := by grind
  have eC : (X * X + Y * Y) * (u * u + w * w) - (X * u + Y * w) * (X * u + Y * w) = (X * w - Y * u) * (X * w - Y * u) := by grind
  -- the upper side
  have up : X * u + Y * w + D * D ≤ D * (v + b) := by
    by_cases hs : X * u + Y * w + D * D ≤ 0
    · have := Int.mul_nonneg (show 0 ≤ D by omega) (show 0 ≤ v + b by omega); omega
    · have hp := Int.mul_nonneg (show 0 ≤ X * X + Y * Y - D * D by omega) (show 0 ≤ D * D - (u * u + w * w) by omega)
      have hDS : D * D * ((X + u) * (X + u) + (Y + w) * (Y + w)) ≤ D * D * ((v + b) * (v + b)) := Int.mul_le_mul_of_nonneg_left hS1 (Sq.sq_nonneg D)
      rw [eS] at hDS
      have e1 : D * D * ((v + b) * (v + b)) = (D * (v + b)) * (D * (v + b)) := by grind
      have e2 : (X * u + Y * w + D * D) * (X * u + Y * w + D * D) = D * D * ((X * X + Y * Y) + (u * u + w * w) + 2 * (X * u + Y * w)) - (X * X + Y * Y - D * D) * (D * D - (u * u + w * w)) - ((X * X + Y * Y) * (u * u + w * w) - (X * u + Y * w) * (X * u + Y * w)) := by grind
      exact Sq.le_of_sq (Int.mul_nonneg (by omega) (by omega)) (by omega)
  -- the lower side
  have lo : D * (v - b - 1 - F) ≤ X * u + Y * w + D * D := by
    rcases hS2 with h | h
    · have e0 : (D + 1) * (D + 1) = D * D + 2 * D + 1 := by grind
      have hd := dot_le (a := -X) (b := -Y) (c := u) (d := w) (H := D + 1) (m := K) (by omega) K0 (by rw [Int.neg_mul_neg, Int.neg_mul_neg]; omega) hk
      have e1 : -X * u + -Y * w = -(X * u + Y * w) := by grind
      have e2 : (D + 1) * K = D * K + K := by grind
      have e3 : D * (4 * K) ≤ D * D := Int.mul_le_mul_of_nonneg_left h4 (by omega)
      have e4 : D * (4 * K) = 4 * (D * K) := by grind
      have e5 : D * 1 ≤ D * D := Int.mul_le_mul_of_nonneg_left (by omega) (by omega)
      have e6 : D * (v - b - 1 - F) ≤ 0 := by
        have := Int.mul_nonneg (show 0 ≤ D by omega) (show 0 ≤ -(v - b - 1 - F) by omega)
        rw [Int.mul_neg] at this
        omega
      omega
    · rw [eS] at h
      have n2 := Sq.sq_nonneg (v - b - D)
      have e1 : (v - b - D) * (v - b - D) = (v - b) * (v - b) - 2 * (D * (v - b)) + D * D := by grind
      have e2 : D * (v - b - 1 - F) = D * (v - b) - D - D * F := by grind
      have e3 : F * (2 * (D - K)) = 2 * (D * F) - 2 * (K * F) := by grind
      have e4 := Int.mul_nonneg K0 F0
      omega
  have hu := side_le (S := 0) K0 (show u * u ≤ K * K by have := Sq.sq_nonneg w; omega)
  have hw := side_le (S := 0) K0 (show w * w ≤ K * K by have := Sq.sq_nonneg u; omega)
  have pa := mul_bd hA.1 hA.2 hu.1 hu.2
  have pb := mul_bd hB.1 hB.2 hw.1 hw.2
  have eE : D * (A * u + B * w - 256 * (v - D)) = 256 * (X * u + Y * w + D * D - D * v) - ((256 * X - A * D) * u + (256 * Y - B * D) * w) := by grind
  have ea : 2 * (256 * X - A * D) * u = 2 * ((256 * X - A * D) * u) := by grind
  have eb : 2 * (256 * Y - B * D) * w = 2 * ((256 * Y - B * D) * w) := by grind
  have ev : D * (v + b) = D * v + D * b := by grind
  have el : D * (v - b - 1 - F) = D * v - D * b - D - D * F := by grind
  have eT : D * (K + 256 * (b + 1 + F)) = D * K + 256 * (D * b) + 256 * D + 256 * (D * F) := by grind
  have nF := Int.mul_nonneg (show 0 ≤ D by omega) F0
  have nb := Int.mul_nonneg (show 0 ≤ D by omega) b0
  constructor
  · refine Int.le_of_mul_le_mul_left (a := D) ?_ hD
    rw [Int.mul_neg]
    omega
  · refine Int.le_of_mul_le_mul_left (a := D) ?_ hD
    omega
theorem dist_sq {x y p q D : Int} (hp : (pvB x y && pvB p q) = true) (eD : distI x y p q = D) : D * D ≤ (p - x) * (p - x) + (q - y) * (q - y) ∧ (p - x) * (p - x) + (q - y) * (q - y) ≤ D * D + 2 * D := by
  obtain ⟨d0, dm, -⟩ := d2_bd hp
  unfold distI at eD
  rw [if_pos hp] at eD
  have a := isq_is d0 (by omega)
  rw [eD] at a
  have l := a.le
  have r := a.lt
  have e : (D + 1) * (D + 1) = D * D + 2 * D + 1 := by grind
  unfold d2 at l r
  omega
theorem inside_sq {cx cy bx b2 px py : Int} (h : insB cx cy bx b2 px py = true) : (px - cx) * (px - cx) + (py - cy) * (py - cy) ≤ radI cx cy bx b2 * radI cx cy bx b2 := by
  obtain ⟨hv, ⟨h0, h1⟩, h2, h3⟩ := insB_iff.1 h
  obtain ⟨hc, ⟨a0, a1⟩, b0, b1⟩ := boxV_iff.1 hv
  obtain ⟨c0, c1⟩ := sq_bd (x := px - cx) (k := bx) (by omega) (by omega)
  obtain ⟨e0, e1⟩ := sq_bd (x := py - cy) (k := b2) (by omega) (by omega)
  obtain ⟨m0, m1⟩ := sq_bd (x := bx) (k := 2000000) (by omega) (by omega)
  obtain ⟨n0, n1⟩ := sq_bd (x := b2) (k := 2000000) (by omega) (by omega)
  unfold radI
  rw [if_pos hv]
  have := sqU_sq (n := bx * bx + b2 * b2) (by omega) (by omega)
  omega
open Un in
theorem nsq (y x a : Int) : ((y : Rat) * X a - (x : Rat) * Y a) * ((y : Rat) * X a - (x : Rat) * Y a) + ((y : Rat) * Y a + (x : Rat) * X a) * ((y : Rat) * Y a + (x : Rat) * X a) = ((x * x + y * y : Int) : Rat) := by
  rw [Rat.intCast_add, Rat.intCast_mul, Rat.intCast_mul]
  have n := norm a
  have : ((y : Rat) * X a - (x : Rat) * Y a) * ((y : Rat) * X a - (x : Rat) * Y a) + ((y : Rat) * Y a + (x : Rat) * X a) * ((y : Rat) * Y a + (x : Rat) * X a) = (X a * X a + Y a * Y a) * ((x : Rat) * x + y * y) := by grind
  rw [this, n]
  grind
theorem abs_sq (x : Int) : absI x * absI x = x * x := by unfold absI; split; exact Int.neg_mul_neg x x; rfl
theorem size_le {dx dy G : Int} (G0 : 0 ≤ G) (hG : dx * dx + dy * dy ≤ G * G) : 1000 * (absI dx + absI dy) ≤ 1415 * G := by
  have a := absI_nonneg dx
  have b := absI_nonneg dy
  have n := Sq.sq_nonneg (absI dx - absI dy)
  have e1 : (1000 * (absI dx + absI dy)) * (1000 * (absI dx + absI dy)) = 1000000 * (2 * (absI dx * absI dx) + 2 * (absI dy * absI dy) - (absI dx - absI dy) * (absI dx - absI dy)) := by grind
  have e2 : (1415 * G) * (1415 * G) = 2002225 * (G * G) := by grind
  rw [abs_sq, abs_sq] at e1
  have n2 := Sq.sq_nonneg G
  exact Sq.le_of_sq (by omega) (by omega)
open Un in
/-- a small angle's sine -/
theorem small_sine {d b : Int} (h0 : -(b - 2) ≤ d) (h1 : d ≤ b - 2) (b1 : b ≤ 3600000) : -((sinI b : Rat) + 19) ≤ 1073741824 * Y d ∧ 1073741824 * Y d ≤ (sinI b : Rat) + 19 := by
  have hb0 : 0 ≤ sinI b := (sin_pos (by omega) b1).1
  have hb0' := cast_le hb0
  rcases Int.le_total 0 d with h | h
  · obtain ⟨s0, s1⟩ := sin_near (b := d) h (by omega)
    have m := cast_le (sin_mono h (show d ≤ b by omega) (by omega))
    have p := cast_le (sin_pos h (by omega)).1
    constructor <;> grind
  · obtain ⟨s0, s1⟩ := sin_near (b := -d) (by omega) (by omega)
    have m := cast_le (sin_mono (a := -d) (by omega) (show -d ≤ b by omega) (by omega))
    have p := cast_le (sin_pos (b := -d) (by omega) (by omega)).1
    rw [Y_neg] at s0 s1
    constructor <;> grind
open Un in
/-- the sine part of a bearing's row -/
theorem brg_sine {v b G dx dy : Int} (v0 : 0 ≤ v) (v1 : v < 129600000) (b1 : b ≤ 3600000) (G0 : 0 ≤ G) (hG : dx * dx + dy * dy ≤ G * G)
    (hd : -(b - 2) ≤ diffI v (atanI dx dy) ∧ diffI v (atanI dx dy) ≤ b - 2) :
    -((sinI b + 600) * G) ≤ cosI v * dx - sinI v * dy ∧ cosI v * dx - sinI v * dy ≤ (sinI b + 600) * G := by
  obtain ⟨c0, c1⟩ := atanI_range dx dy
  obtain ⟨⟨n0, n1⟩, -⟩ := atan_near dx dy
  obtain ⟨-, -, ⟨yd0, yd1⟩⟩ := diff_near v0 v1 c0 c1
  have hns := nsq dx dy (atanI dx dy)
  have hn := norm (atanI dx dy)
  have eX := X_sub (atanI dx dy) v
  have eY := Y_sub (atanI dx dy) v
  obtain ⟨x0, x1⟩ := X_bd (atanI dx dy - v)
  obtain ⟨s0, s1⟩ := sin_near v0 v1
  obtain ⟨k0, k1⟩ := cos_near v0 v1
  obtain ⟨z0, z1⟩ := small_sine hd.1 hd.2 b1
  obtain ⟨⟨p0, p1⟩, ⟨q0, q1⟩, sz0⟩ := sz_bd dx dy
  have hs := cast_le (size_le G0 hG)
  have hG' := cast_le (show dy * dy + dx * dx ≤ G * G by omega)
  have G0' := cast_le G0
  have hsz : 1000 * sz dx dy ≤ 1415 * (G : Rat) := by unfold sz; simp only [Rat.intCast_mul, Rat.intCast_ofNat] at hs; exact hs
  rw [Rat.intCast_mul G G] at hG'
  have hkq : 1073741824 * (8 * kq) ≤ 12 := by unfold kq; grind
  generalize atanI dx dy = a at *
  have hT : X v * (dx : Rat) - Y v * (dy : Rat) = X (a - v) * ((dx : Rat) * X a - (dy : Rat) * Y a) + Y (a - v) * ((dx : Rat) * Y a + (dy : Rat) * X a) := by
    rw [eX, eY]
    have : (X a * X v + Y a * Y v) * ((dx : Rat) * X a - (dy : Rat) * Y a) + (Y a * X v - X a * Y v) * ((dx : Rat) * Y a + (dy : Rat) * X a) = (X a * X a + Y a * Y a) * (X v * (dx : Rat) - Y v * (dy : Rat)) := by grind
    rw [this, hn]; grind
  clear eX eY hn hd
  generalize Y (diffI v a) = yd at *
  generalize X (a - v) = gx at *
  generalize Y (a - v) = gy at *
  generalize (dx : Rat) * X a - (dy : Rat) * Y a = be at *
  generalize (dx : Rat) * Y a + (dy : Rat) * X a = al at *
  have hal : al * al ≤ (G : Rat) * G := by have := sq_nonneg be; grind
  have al1 := lt_of_sqR (a := al) (b := (G : Rat)) (by grind) hal
  have al0 := lt_of_sqR (a := -al) (b := (G : Rat)) (by grind) (by grind)
  have hbe0 : -(36 / 100000000 * (G : Rat)) ≤ be := by grind
  have hbe1 : be ≤ 36 / 100000000 * (G : Rat) := by grind
  obtain ⟨t0, t1⟩ := sz_mul (s := 36 / 100000000 * (G : Rat)) (u := be) (v := gx) (e := 1) (by grind) hbe0 hbe1 x0 x1
  obtain ⟨r0, r1⟩ := sz_mul (s := (G : Rat)) (u := al) (v := 1073741824 * gy) (e := (sinI b : Rat) + 31) (by grind) (by grind) al1 (by grind) (by grind)
  obtain ⟨w0, w1⟩ := sz_mul (s := sz dx dy) (u := (dx : Rat)) (v := (cosI v : Rat) - 1073741824 * X v) (e := 31) sz0 p0 p1 k0 k1
  obtain ⟨u0, u1⟩ := sz_mul (s := sz dx dy) (u := (dy : Rat)) (v := (sinI v : Rat) - 1073741824 * Y v) (e := 31) sz0 q0 q1 (by grind) (by grind)
  have eW : ((cosI v * dx - sinI v * dy : Int) : Rat) = 1073741824 * (be * gx) + al * (1073741824 * gy) + (dx : Rat) * ((cosI v : Rat) - 1073741824 * X v) - (dy : Rat) * ((sinI v : Rat) - 1073741824 * Y v) := by
    rw [Rat.intCast_sub, Rat.intCast_mul, Rat.intCast_mul]; grind
  have eR : (((sinI b + 600) * G : Int) : Rat) = ((sinI b : Rat) + 31) * G + 569 * G := by
    rw [Rat.intCast_mul, Rat.intCast_add, Rat.intCast_ofNat]; grind
  clear hT hns hal
  generalize be * gx = P1 at *
  generalize al * (1073741824 * gy) = P2 at *
  generalize (dx : Rat) * ((cosI v : Rat) - 1073741824 * X v) = P3 at *
  generalize (dy : Rat) * ((sinI v : Rat) - 1073741824 * Y v) = P4 at *
  generalize ((sinI b : Rat) + 31) * G = P5 at *
  constructor
  · refine Rat.intCast_le_intCast.1 ?_
    rw [Rat.intCast_neg, eR, eW]
    grind
  · refine Rat.intCast_le_intCast.1 ?_
    rw [eR, eW]
    grind
theorem brg_core {v b G dx dy : Int} (v0 : 0 ≤ v) (v1 : v < 129600000) (b1 : b ≤ 3600000) (G0 : 0 ≤ G) (hG : dx * dx + dy * dy ≤ G * G)
    (hd : -(b - 2) ≤ diffI v (atanI dx dy) ∧ diffI v (atanI dx dy) ≤ b - 2) :
    -(G + brgF b G) ≤ brgA v * dx + brgB v * dy ∧ brgA v * dx + brgB v * dy ≤ G + brgF b G := by
  obtain ⟨w0, w1⟩ := brg_sine v0 v1 b1 G0 hG hd
  have hz := size_le G0 hG
  have hA := near_err (p := 256 * cosI v) (c := 1073741824) (by decide)
  have hB := near_err (p := -256 * sinI v) (c := 1073741824) (by decide)
  have hF := ceil_err (p := 256 * G * (sinI b + 2)) (c := 1073741824) (by decide)
  unfold brgA brgB brgF
  have ax := absI_iff (x := dx) (k := absI dx)
  have ay := absI_iff (x := dy) (k := absI dy)
  have bx := ax.1 (Int.le_refl _)
  have by' := ay.1 (Int.le_refl _)
  have pa := mul_bd hA.1 hA.2 bx.1 bx.2
  have pb := mul_bd hB.1 hB.2 by'.1 by'.2
  generalize nearI2 (256 * cosI v) 1073741824 = A at *
  generalize nearI2 (-256 * sinI v) 1073741824 = B at *
  generalize ceilI (256 * G * (sinI b + 2)) 1073741824 = F at *
  have e1 : 2 * (256 * cosI v - A * 1073741824) * dx = 512 * (cosI v * dx) - 2147483648 * (A * dx) := by grind
  have e2 : 2 * (-256 * sinI v - B * 1073741824) * dy = -512 * (sinI v * dy) - 2147483648 * (B * dy) := by grind
  have e3 : (sinI b + 600) * G = sinI b * G + 600 * G := by grind
  have e4 : 256 * G * (sinI b + 2) = 256 * (sinI b * G) + 512 * G := by grind
  constructor <;> omega
/-- a measurement holds at a point -/
def CertM (s wt px py : Int) (m : Ms) : Prop := (-m.d ≤ m.a * px + m.b * py - m.z ∧ m.a * px + m.b * py - m.z ≤ m.d) ∧ m.s = s ∧ m.w = wt ∧ (-512000000 ≤ m.a * px ∧ m.a * px ≤ 512000000) ∧ (-512000000 ≤ m.b * py ∧ m.b * py ≤ 512000000) ∧ (-4294967296 ≤ m.z ∧ m.z ≤ 4294967296)
theorem rows_cert {s k x y v b wt t cx cy bx b2 px py : Int} (h0 : (rowsF s k x y v b wt t cx cy bx b2).2 = 0) (ha : agrB s k x y v b wt t px py = true) (hi : insB cx cy bx b2 px py = true) :
    (∃ m, (rowsF s k x y v b wt t cx cy bx b2).1 = [m] ∧ CertM s wt px py m) ∨ (∃ m n, (rowsF s k x y v b wt t cx cy bx b2).1 = [m, n] ∧ CertM s wt px py m ∧ CertM s wt px py n) := by
  unfold agrB at ha
  simp only [Bool.and_eq_true, decide_eq_true_iff] at ha
  obtain ⟨⟨h, hpv⟩, hk⟩ := ha
  have hin := insB_iff.1 hi
  have hv := hin.1
  have hsq := inside_sq hi
  have hp1 := pvB_iff.1 hpv
  obtain ⟨hA, hR⟩ := check_ok.1 h
  have hR' := okR_iff.1 hR
  obtain ⟨-, hkk, ⟨x0, x1, y0, y1⟩, ⟨v0, v1⟩, -, -, -⟩ := check_bd h
  have bx' := boxV_iff.1 hv
  have hp : (pvB x y && pvB cx cy) = true := by
    rw [Bool.and_eq_true]; exact ⟨(okA_iff.1 hA).2.2.2.1 |> pvB_iff.2, pvB_iff.2 bx'.1⟩
  obtain ⟨K0, K1⟩ := rad_bd hv
  obtain ⟨D0, D1⟩ := dist_bd x y cx cy
  obtain ⟨hN1, hN2⟩ := dist_sq hp rfl
  have hpx : (pvB x y && pvB px py) = true := by
    rw [Bool.and_eq_true]; exact ⟨(okA_iff.1 hA).2.2.2.1 |> pvB_iff.2, hpv⟩
  unfold rowsF at h0 ⊢
  rw [if_pos h, if_pos hv] at h0 ⊢
  rcases hkk with rfl | rfl | rfl
  · rw [if_pos rfl] at hk
    rw [if_pos rfl]
    unfold agrP at hk
    simp only [Bool.and_eq_true, decide_eq_true_iff, absI_iff] at hk
    have hb' : 0 ≤ b ∧ b ≤ 600000 := hR'.2.1
    refine .inr ⟨_, _, rfl, ?_, ?_⟩
    · unfold CertM; simp only; exact ⟨by omega, by first | rfl | trivial, by first | rfl | trivial, by omega, by omega, by omega⟩
    · unfold CertM; simp only; exact ⟨by omega, by first | rfl | trivial, by first | rfl | trivial, by omega, by omega, by omega⟩
  · rw [if_neg (by decide), if_pos rfl] at hk h0 ⊢
    have hb' : 0 ≤ b ∧ b ≤ 600000 := hR'.2.1
    have hv' : 0 ≤ v ∧ v ≤ 8000000 := hR'.2.2
    by_cases hg : distI x y cx cy < 6000 ∨ distI x y cx cy < 4 * radI cx cy bx b2
    · rw [if_pos hg] at h0
      exact absurd h0 (by decide)
    · rw [if_neg hg]
      refine .inl ⟨_, rfl, ?_⟩
      unfold agrR d2 at hk
      simp only [Bool.and_eq_true, Bool.or_eq_true, decide_eq_true_iff] at hk
      obtain ⟨a, c⟩ := rngAB_bd hp rfl (by omega)
      obtain ⟨f0, f1⟩ := rngF_bd K0 K1 (show 6000 ≤ distI x y cx cy by omega) (by omega)
      have hFc := ceil_err (p := radI cx cy bx b2 * radI cx cy bx b2) (c := 2 * (distI x y cx cy - radI cx cy bx b2)) (by omega)
      have hAe := near_err (p := 256 * (cx - x)) (c := distI x y cx cy) (by omega)
      have hBe := near_err (p := 256 * (cy - y)) (c := distI x y cx cy) (by omega)
      have key := rng_core (X := cx - x) (Y := cy - y) (u := px - cx) (w := py - cy) (D := distI x y cx cy) (K := radI cx cy bx b2) (v := v) (b := b) (F := rngF (distI x y cx cy) (radI cx cy bx b2)) (A := rngA x cx (distI x y cx cy)) (B := rngA y cy (distI x y cx cy))
        hN1 hN2 hsq K0 (by omega) (by omega) hv'.1 hb'.1 (by rw [show cx - x + (px - cx) = px - x by omega, show cy - y + (py - cy) = py - y by omega]; exact hk.1) (by rw [show cx - x + (px - cx) = px - x by omega, show cy - y + (py - cy) = py - y by omega]; exact hk.2) f0 hFc hAe hBe
      have pa := mul_bd a.1 a.2 (show -2000000 ≤ cx by omega) (by omega)
      have pb := mul_bd c.1 c.2 (show -2000000 ≤ cy by omega) (by omega)
      have qa := mul_bd a.1 a.2 (show -2000000 ≤ px by omega) (by omega)
      have qb := mul_bd c.1 c.2 (show -2000000 ≤ py by omega) (by omega)
      unfold CertM rngM
      simp only
      rw [Int.mul_sub, Int.mul_sub] at key
      refine ⟨by omega, trivial, trivial, by omega, by omega, by omega⟩
  · rw [if_neg (by decide), if_neg (by decide)] at hk ⊢
    refine .inl ⟨_, rfl, ?_⟩
    have hb' : 0 ≤ b ∧ b ≤ 3600000 := hR'.2.1
    unfold agrC courseF at hk
    rw [if_pos hpx] at hk
    have hgg : ¬(x = px ∧ y = py) := by
      intro e
      rw [if_pos e] at hk
      simp at hk
    rw [if_neg hgg] at hk
    simp only [Bool.and_eq_true, decide_eq_true_iff, absI_iff] at hk
    have hN3 : (cx - x) * (cx - x) + (cy - y) * (cy - y) ≤ (distI x y cx cy + 1) * (distI x y cx cy + 1) := by
      have e : (distI x y cx cy + 1) * (distI x y cx cy + 1) = distI x y cx cy * distI x y cx cy + 2 * distI x y cx cy + 1 := by grind
      omega
    have htri := tri_le (a := cx - x) (b := cy - y) (c := px - cx) (d := py - cy) (H := distI x y cx cy + 1) (m := radI cx cy bx b2) (by omega) K0 hN3 hsq
    rw [show cx - x + (px - cx) = px - x by omega, show cy - y + (py - cy) = py - y by omega] at htri
    have key := brg_core (v := v) (b := b) (G := distI x y cx cy + 1 + radI cx cy bx b2) (dx := px - x) (dy := py - y) v0 (by omega) hb'.2 (by omega) htri hk.2
    obtain ⟨a, c⟩ := brgAB_bd v
    have pa := mul_bd a.1 a.2 (show -2000000 ≤ x by omega) (by omega)
    have pb := mul_bd c.1 c.2 (show -2000000 ≤ y by omega) (by omega)
    have qa := mul_bd a.1 a.2 (show -2000000 ≤ px by omega) (by omega)
    have qb := mul_bd c.1 c.2 (show -2000000 ≤ py by omega) (by omega)
    unfold CertM brgM
    simp only
    rw [Int.mul_sub, Int.mul_sub] at key
    exact ⟨by omega, trivial, trivial, by omega, by omega, by omega⟩
end Go.Proofs.YtidelghgjibndaaGreat.S41
