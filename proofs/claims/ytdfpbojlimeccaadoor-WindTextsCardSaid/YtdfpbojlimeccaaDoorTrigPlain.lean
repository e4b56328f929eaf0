/-
  The integer sine, cosine and search of layer 7 as plain functions on Int, and that they are monotone on the first octant. No program in sight.
-/
namespace Go.Proofs.YtdfpbojlimeccaaDoor.Tr
set_option linter.unusedVariables false

/-- the scaled product of layer 7 -/
def mulI (x y : Int) : Int := (x * y + 1073741824) / 2147483648
/-- one step of a series: S - div(mul(u, r), n) -/
def nst (n u r : Int) : Int := 2147483648 - (mulI u r + n / 2) / n
/-- the first step -/
def fst1 (n u : Int) : Int := 2147483648 - (u + n / 2) / n
def argT (a : Int) : Int := (a * 6746518852 + 32400000) / 64800000
def sinR (u : Int) : Int := nst 6 u (nst 20 u (nst 42 u (nst 72 u (fst1 110 u))))
def cosR (u : Int) : Int := nst 2 u (nst 12 u (nst 30 u (nst 56 u (fst1 90 u))))
def sineI (a : Int) : Int := (mulI (argT a) (sinR (mulI (argT a) (argT a))) + 1) / 2
def cosineI (a : Int) : Int := (cosR (mulI (argT a) (argT a)) + 1) / 2
def quarterI (a : Int) : Int := if a ≤ 16200000 then sineI a else cosineI (32400000 - a)
def normI (a : Int) : Int := a % 129600000
def sinB (b : Int) : Int :=
  if b ≤ 32400000 then quarterI b else if b ≤ 64800000 then quarterI (64800000 - b) else if b ≤ 97200000 then -quarterI (b - 64800000) else -quarterI (129600000 - b)
def sinI (a : Int) : Int := sinB (normI a)
def turnI (a b : Int) : Int := normI (normI a + normI b)
def cosI (a : Int) : Int := sinI (turnI a 32400000)
def diffI (f t : Int) : Int := if normI (normI t - normI f) > 64800000 then normI (normI t - normI f) - 129600000 else normI (normI t - normI f)

/-- a slowly falling function on 0 .. U: each step down is 0 or 1, all values from lo to S -/
structure Slow (U lo : Int) (r : Int → Int) : Prop where
  up : ∀ u, 0 ≤ u → u < U → r (u + 1) ≤ r u
  dn : ∀ u, 0 ≤ u → u < U → r u - 1 ≤ r (u + 1)
  lo : ∀ u, 0 ≤ u → u ≤ U → lo ≤ r u
  hi : ∀ u, 0 ≤ u → u ≤ U → r u ≤ 2147483648

theorem ediv_step {x y k : Int} (hk : 0 < k) (h1 : x ≤ y) (h2 : y ≤ x + k) : x / k ≤ y / k ∧ y / k ≤ x / k + 1 := by
  constructor
  · exact Int.ediv_le_ediv hk h1
  · have h3 : y / k ≤ (x + k) / k := Int.ediv_le_ediv hk h2
    rw [Int.add_ediv_of_dvd_right (Int.dvd_refl k), Int.ediv_self (by omega)] at h3
    exact h3

theorem slow_fst (n : Int) (hn : 2 ≤ n) (U : Int) (hU0 : 0 ≤ U) (hU : U ≤ 2147483648) : Slow U (2147483648 - U) (fst1 n) := by
  have key : ∀ u, 0 ≤ u → (u + n / 2) / n ≤ u ∨ u = 0 := by
    intro u hu
    by_cases h0 : u = 0
    · exact .inr h0
    · refine .inl ?_
      have h1 : (u + n / 2) / n ≤ u * n / n := by
        apply Int.ediv_le_ediv (by omega)
        have h2 : n / 2 * 2 ≤ n := Int.ediv_mul_le n (by decide)
        have h3 : u * 2 ≤ u * n := Int.mul_le_mul_of_nonneg_left hn hu
        have h4 : 1 * n ≤ u * n := Int.mul_le_mul_of_nonneg_right (by omega) (by omega)
        omega
      rwa [Int.mul_ediv_cancel u (by omega)] at h1
  have nn : ∀ u, 0 ≤ u → 0 ≤ (u + n / 2) / n := by
    intro u hu
    apply Int.ediv_nonneg <;> omega
  have z : (0 + n / 2) / n = 0 := by
    apply Int.ediv_eq_zero_of_lt <;> omega
  refine ⟨?_, ?_, ?_, ?_⟩
  · intro u h0 h1
    have := ediv_step (x := u + n / 2) (y := u + 1 + n / 2) (k := n) (by omega) (by omega) (by omega)
    unfold fst1; omega
  · intro u h0 h1
    have := ediv_step (x := u + n / 2) (y := u + 1 + n / 2) (k := n) (by omega) (by omega) (by omega)
    unfold fst1; omega
  · intro u h0 h1
    rcases key u h0 with h | h
    · unfold fst1; omega
    · subst h; unfold fst1; omega
  · intro u h0 h1
    have := nn u h0
    unfold fst1; omega

/-- u ↦ mul(u, r u) rises by 0 or 1, and lies from 0 to u -/
theorem mul_slow {U lo : Int} {r : Int → Int} (h : Slow U lo r) (hlo : U ≤ lo) (hlo0 : 0 ≤ lo) (u : Int) (h0 : 0 ≤ u) (h1 : u < U) :
    mulI u (r u) ≤ mulI (u + 1) (r (u + 1)) ∧ mulI (u + 1) (r (u + 1)) ≤ mulI u (r u) + 1 := by
  unfold mulI
  have a := h.up u h0 h1
  have b := h.dn u h0 h1
  have c := h.lo (u + 1) (by omega) (by omega)
  have d := h.hi (u + 1) (by omega) (by omega)
  have e : (u + 1) * r (u + 1) = u * r (u + 1) + r (u + 1) := by rw [Int.add_mul, Int.one_mul]
  have f : u * r (u + 1) ≤ u * r u := Int.mul_le_mul_of_nonneg_left a h0
  have g : u * (r u - 1) ≤ u * r (u + 1) := Int.mul_le_mul_of_nonneg_left b h0
  rw [Int.mul_sub, Int.mul_one] at g
  exact ediv_step (by decide) (by omega) (by omega)
theorem mul_range {U lo : Int} {r : Int → Int} (h : Slow U lo r) (hlo0 : 0 ≤ lo) (u : Int) (h0 : 0 ≤ u) (h1 : u ≤ U) : 0 ≤ mulI u (r u) ∧ mulI u (r u) ≤ u := by
  unfold mulI
  have c := h.lo u h0 h1
  have d := h.hi u h0 h1
  have e : 0 ≤ u * r u := Int.mul_nonneg h0 (by omega)
  have f : u * r u ≤ u * 2147483648 := Int.mul_le_mul_of_nonneg_left d h0
  omega

theorem slow_nst {U lo : Int} {r : Int → Int} (n : Int) (hn : 2 ≤ n) (h : Slow U lo r) (hlo : U ≤ lo) (hlo0 : 0 ≤ lo) (lo' : Int) (hU : (U + n / 2) / n ≤ 2147483648 - lo') : Slow U lo' (fun u => nst n u (r u)) := by
  refine ⟨?_, ?_, ?_, ?_⟩
  · intro u h0 h1
    have := mul_slow h hlo hlo0 u h0 h1
    have := ediv_step (x := mulI u (r u) + n / 2) (y := mulI (u + 1) (r (u + 1)) + n / 2) (k := n) (by omega) (by omega) (by omega)
    show nst n (u + 1) (r (u + 1)) ≤ nst n u (r u)
    unfold nst; omega
  · intro u h0 h1
    have := mul_slow h hlo hlo0 u h0 h1
    have := ediv_step (x := mulI u (r u) + n / 2) (y := mulI (u + 1) (r (u + 1)) + n / 2) (k := n) (by omega) (by omega) (by omega)
    show nst n u (r u) - 1 ≤ nst n (u + 1) (r (u + 1))
    unfold nst; omega
  · intro u h0 h1
    have := mul_range h hlo0 u h0 h1
    have : (mulI u (r u) + n / 2) / n ≤ (U + n / 2) / n := Int.ediv_le_ediv (by omega) (by omega)
    show lo' ≤ nst n u (r u)
    unfold nst; omega
  · intro u h0 h1
    have := mul_range h hlo0 u h0 h1
    have : 0 ≤ (mulI u (r u) + n / 2) / n := by apply Int.ediv_nonneg <;> omega
    show nst n u (r u) ≤ 2147483648
    unfold nst; omega

/-- the greatest u -/
abbrev UM : Int := 1324700000

theorem slow_sub {U lo U' lo' : Int} {r : Int → Int} (h : Slow U lo r) (h1 : U' ≤ U) (h2 : lo' ≤ lo) : Slow U' lo' r :=
  ⟨fun u a b => h.up u a (by omega), fun u a b => h.dn u a (by omega), fun u a b => by have := h.lo u a (by omega); omega, fun u a b => h.hi u a (by omega)⟩

theorem fst1_lo (n : Int) (hn : 2 ≤ n) (lo : Int) (h : (UM + n / 2) / n ≤ 2147483648 - lo) : Slow UM lo (fst1 n) := by
  have s := slow_fst n hn UM (by decide) (by decide)
  refine ⟨s.up, s.dn, ?_, s.hi⟩
  intro u a b
  have : (u + n / 2) / n ≤ (UM + n / 2) / n := Int.ediv_le_ediv (by omega) (by omega)
  unfold fst1; omega

theorem sinR_slow : Slow UM 1926700314 sinR := by
  have s1 := fst1_lo 110 (by decide) 2000000000 (by decide)
  have s2 := slow_nst 72 (by decide) s1 (by decide) (by decide) 2000000000 (by decide)
  have s3 := slow_nst 42 (by decide) s2 (by decide) (by decide) 2000000000 (by decide)
  have s4 := slow_nst 20 (by decide) s3 (by decide) (by decide) 2000000000 (by decide)
  exact slow_nst 6 (by decide) s4 (by decide) (by decide) 1926700314 (by decide)
theorem cosR_slow : Slow UM 1485133648 cosR := by
  have s1 := fst1_lo 90 (by decide) 2000000000 (by decide)
  have s2 := slow_nst 56 (by decide) s1 (by decide) (by decide) 2000000000 (by decide)
  have s3 := slow_nst 30 (by decide) s2 (by decide) (by decide) 2000000000 (by decide)
  have s4 := slow_nst 12 (by decide) s3 (by decide) (by decide) 2000000000 (by decide)
  exact slow_nst 2 (by decide) s4 (by decide) (by decide) 1485133648 (by decide)

theorem slow_anti {U lo : Int} {r : Int → Int} (h : Slow U lo r) (u : Int) (h0 : 0 ≤ u) (k : Nat) (h1 : u + k ≤ U) : r (u + k) ≤ r u := by
  induction k with
  | zero => simp
  | succ k ih =>
    have a := ih (by omega)
    have b := h.up (u + k) (by omega) (by omega)
    have e : u + ((k + 1 : Nat) : Int) = u + (k : Int) + 1 := by omega
    rw [e]; omega
theorem slow_le {U lo : Int} {r : Int → Int} (h : Slow U lo r) {u v : Int} (h0 : 0 ≤ u) (huv : u ≤ v) (h1 : v ≤ U) : r v ≤ r u := by
  obtain ⟨k, hk⟩ := Int.eq_ofNat_of_zero_le (show 0 ≤ v - u by omega)
  have := slow_anti h u h0 k (by omega)
  rwa [show u + (k : Int) = v by omega] at this

abbrev TM : Int := 1686629713
theorem argT_le {a b : Int} (h : a ≤ b) : argT a ≤ argT b := by unfold argT; omega
theorem argT_range {a : Int} (h0 : 0 ≤ a) (h1 : a ≤ 16200000) : 0 ≤ argT a ∧ argT a ≤ TM := by unfold argT TM; omega
theorem mulI_self {t : Int} (h0 : 0 ≤ t) (h1 : t ≤ TM) : 0 ≤ mulI t t ∧ mulI t t ≤ UM := by
  unfold mulI
  have a : 0 ≤ t * t := Int.mul_nonneg h0 h0
  have b : t * t ≤ TM * TM := Int.mul_le_mul h1 h1 h0 (by decide)
  have c : TM * TM = 2844719788774462369 := by decide
  unfold UM; omega
theorem mulI_mono {s t : Int} (h0 : 0 ≤ s) (h : s ≤ t) : mulI s s ≤ mulI t t := by
  unfold mulI
  have b : s * s ≤ t * t := Int.mul_le_mul h h h0 (by omega)
  exact Int.ediv_le_ediv (by decide) (by omega)

/-- t ↦ mul(t, sinR(mul(t,t))) rises -/
def F (t : Int) : Int := mulI t (sinR (mulI t t))
theorem sinR_step2 {u v : Int} (h0 : 0 ≤ u) (h1 : u ≤ v) (h2 : v ≤ u + 2) (h3 : v ≤ UM) : sinR u - 1 ≤ sinR v := by
  have s1 := fst1_lo 110 (by decide) 2000000000 (by decide)
  have s2 := slow_nst 72 (by decide) s1 (by decide) (by decide) 2000000000 (by decide)
  have s3 := slow_nst 42 (by decide) s2 (by decide) (by decide) 2000000000 (by decide)
  have s4 := slow_nst 20 (by decide) s3 (by decide) (by decide) 2000000000 (by decide)
  have key : ∀ x, 0 ≤ x → x < UM → _ := fun x a b => mul_slow s4 (by decide) (by decide) x a b
  have hv : v = u ∨ v = u + 1 ∨ v = u + 1 + 1 := by omega
  rcases hv with rfl | rfl | rfl
  · omega
  · have := key u h0 (by omega)
    show nst 6 u _ - 1 ≤ nst 6 (u + 1) _
    unfold nst at this ⊢; omega
  · have a := key u h0 (by omega)
    have b := key (u + 1) (by omega) (by omega)
    show nst 6 u _ - 1 ≤ nst 6 (u + 1 + 1) _
    unfold nst at a b ⊢; omega
theorem F_step {t : Int} (h0 : 0 ≤ t) (h1 : t < TM) : F t ≤ F (t + 1) := by
  have hu := mulI_self h0 (by omega)
  have hv := mulI_self (t := t + 1) (by omega) (by omega)
  have hm := mulI_mono h0 (show t ≤ t + 1 by omega)
  have hstep : mulI (t + 1) (t + 1) ≤ mulI t t + 2 := by
    unfold mulI
    have : (t + 1) * (t + 1) = t * t + (2 * t + 1) := by grind
    unfold TM at h1
    omega
  have hr := sinR_step2 hu.1 hm hstep hv.2
  have hlo := sinR_slow.lo _ hv.1 hv.2
  unfold F
  generalize sinR (mulI (t + 1) (t + 1)) = r' at *
  generalize sinR (mulI t t) = r at *
  unfold mulI
  apply Int.ediv_le_ediv (by decide)
  have e : (t + 1) * r' = t * r' + r' := by rw [Int.add_mul, Int.one_mul]
  have g : t * (r - 1) ≤ t * r' := Int.mul_le_mul_of_nonneg_left hr h0
  rw [Int.mul_sub, Int.mul_one] at g
  unfold TM at h1
  omega
theorem F_add {t : Int} (h0 : 0 ≤ t) (k : Nat) (h1 : t + k ≤ TM) : F t ≤ F (t + k) := by
  induction k with
  | zero => simp
  | succ k ih =>
    have a := ih (by omega)
    have b := F_step (t := t + k) (by omega) (by omega)
    have e : t + ((k + 1 : Nat) : Int) = t + (k : Int) + 1 := by omega
    rw [e]; omega
theorem F_le {s t : Int} (h0 : 0 ≤ s) (h : s ≤ t) (h1 : t ≤ TM) : F s ≤ F t := by
  obtain ⟨k, hk⟩ := Int.eq_ofNat_of_zero_le (show 0 ≤ t - s by omega)
  have := F_add h0 k (by omega)
  rwa [show s + (k : Int) = t by omega] at this

theorem sineI_le {a b : Int} (h0 : 0 ≤ a) (h : a ≤ b) (h1 : b ≤ 16200000) : sineI a ≤ sineI b := by
  have := F_le (argT_range h0 (by omega)).1 (argT_le h) (argT_range (by omega) h1).2
  unfold sineI
  show (F (argT a) + 1) / 2 ≤ (F (argT b) + 1) / 2
  omega
theorem cosineI_le {a b : Int} (h0 : 0 ≤ a) (h : a ≤ b) (h1 : b ≤ 16200000) : cosineI b ≤ cosineI a := by
  have ra := argT_range h0 (by omega)
  have rb := argT_range (by omega) h1
  have := slow_le cosR_slow (mulI_self ra.1 ra.2).1 (mulI_mono ra.1 (argT_le h)) (mulI_self rb.1 rb.2).2
  unfold cosineI
  omega
theorem sineI_0 : sineI 0 = 0 := by decide
theorem cosineI_0 : cosineI 0 = 1073741824 := by decide
theorem sineI_E : sineI 16200000 = 759250125 := by decide
theorem cosineI_E : cosineI 16200000 = 759250125 := by decide
theorem sineI_range {a : Int} (h0 : 0 ≤ a) (h1 : a ≤ 16200000) : 0 ≤ sineI a ∧ sineI a ≤ 759250125 := by
  have a1 := sineI_le (a := 0) (by omega) h0 h1
  have a2 := sineI_le h0 h1 (Int.le_refl _)
  rw [sineI_0] at a1; rw [sineI_E] at a2
  exact ⟨a1, a2⟩
theorem cosineI_range {a : Int} (h0 : 0 ≤ a) (h1 : a ≤ 16200000) : 759250125 ≤ cosineI a ∧ cosineI a ≤ 1073741824 := by
  have a1 := cosineI_le (a := 0) (by omega) h0 h1
  have a2 := cosineI_le h0 h1 (Int.le_refl _)
  rw [cosineI_0] at a1; rw [cosineI_E] at a2
  exact ⟨a2, a1⟩
theorem quarterI_range {a : Int} (h0 : 0 ≤ a) (h1 : a ≤ 32400000) : 0 ≤ quarterI a ∧ quarterI a ≤ 1073741824 := by
  unfold quarterI
  split
  · have := sineI_range h0 (by omega); omega
  · have := cosineI_range (a := 32400000 - a) (by omega) (by omega); omega
theorem normI_range (a : Int) : 0 ≤ normI a ∧ normI a < 129600000 := by unfold normI; omega
theorem sinI_range (a : Int) : -1073741824 ≤ sinI a ∧ sinI a ≤ 1073741824 := by
  have h := normI_range a
  unfold sinI sinB
  generalize normI a = b at *
  repeat' split
  · have := quarterI_range (a := b) (by omega) (by omega); omega
  · have := quarterI_range (a := 64800000 - b) (by omega) (by omega); omega
  · have := quarterI_range (a := b - 64800000) (by omega) (by omega); omega
  · have := quarterI_range (a := 129600000 - b) (by omega) (by omega); omega
theorem cosI_range (a : Int) : -1073741824 ≤ cosI a ∧ cosI a ≤ 1073741824 := sinI_range _

/-- the series' numbers, round by round -/
def serS (u : Int) : Nat → Int
  | 0 => 2147483648
  | 1 => fst1 110 u
  | 2 => nst 72 u (fst1 110 u)
  | 3 => nst 42 u (nst 72 u (fst1 110 u))
  | 4 => nst 20 u (nst 42 u (nst 72 u (fst1 110 u)))
  | _ => sinR u
def serC (u : Int) : Nat → Int
  | 0 => 2147483648
  | 1 => fst1 90 u
  | 2 => nst 56 u (fst1 90 u)
  | 3 => nst 30 u (nst 56 u (fst1 90 u))
  | 4 => nst 12 u (nst 30 u (nst 56 u (fst1 90 u)))
  | _ => cosR u
/-- bounds of one number of a series and of its product -/
def Rb (u r : Int) : Prop := 0 ≤ r ∧ r ≤ 2147483648 ∧ 0 ≤ mulI u r ∧ mulI u r ≤ UM
theorem rb_of {lo : Int} {r : Int → Int} (h : Slow UM lo r) (hlo : 0 ≤ lo) (u : Int) (h0 : 0 ≤ u) (h1 : u ≤ UM) : Rb u (r u) := by
  have a := h.lo u h0 h1
  have b := h.hi u h0 h1
  have c := mul_range h hlo u h0 h1
  exact ⟨by omega, b, c.1, by omega⟩
theorem serS_bd (u : Int) (h0 : 0 ≤ u) (h1 : u ≤ UM) (k : Nat) (hk : 1 ≤ k) : Rb u (serS u k) := by
  have s1 := fst1_lo 110 (by decide) 2000000000 (by decide)
  have s2 := slow_nst 72 (by decide) s1 (by decide) (by decide) 2000000000 (by decide)
  have s3 := slow_nst 42 (by decide) s2 (by decide) (by decide) 2000000000 (by decide)
  have s4 := slow_nst 20 (by decide) s3 (by decide) (by decide) 2000000000 (by decide)
  match k, hk with
  | 1, _ => exact rb_of s1 (by decide) u h0 h1
  | 2, _ => exact rb_of s2 (by decide) u h0 h1
  | 3, _ => exact rb_of s3 (by decide) u h0 h1
  | 4, _ => exact rb_of s4 (by decide) u h0 h1
  | k + 5, _ => exact rb_of sinR_slow (by decide) u h0 h1
theorem serC_bd (u : Int) (h0 : 0 ≤ u) (h1 : u ≤ UM) (k : Nat) (hk : 1 ≤ k) : Rb u (serC u k) := by
  have s1 := fst1_lo 90 (by decide) 2000000000 (by decide)
  have s2 := slow_nst 56 (by decide) s1 (by decide) (by decide) 2000000000 (by decide)
  have s3 := slow_nst 30 (by decide) s2 (by decide) (by decide) 2000000000 (by decide)
  have s4 := slow_nst 12 (by decide) s3 (by decide) (by decide) 2000000000 (by decide)
  match k, hk with
  | 1, _ => exact rb_of s1 (by decide) u h0 h1
  | 2, _ => exact rb_of s2 (by decide) u h0 h1
  | 3, _ => exact rb_of s3 (by decide) u h0 h1
  | 4, _ => exact rb_of s4 (by decide) u h0 h1
  | k + 5, _ => exact rb_of cosR_slow (by decide) u h0 h1
theorem ser_div (u n v : Int) (h0 : 0 ≤ v) (h1 : v ≤ UM) (hn : 2 ≤ n) (hn' : n ≤ 1000) : 0 ≤ (v + n / 2) / n ∧ (v + n / 2) / n ≤ 2147483648 := by
  constructor
  · apply Int.ediv_nonneg <;> omega
  · apply Int.ediv_le_of_le_mul (by omega)
    have : 2147483648 * 2 ≤ 2147483648 * n := by omega
    unfold UM at h1
    omega
theorem mulTR_bd {t r : Int} (h0 : 0 ≤ t) (h1 : t ≤ TM) (h2 : 0 ≤ r) (h3 : r ≤ 2147483648) : 0 ≤ mulI t r ∧ mulI t r ≤ TM := by
  unfold mulI
  have a : 0 ≤ t * r := Int.mul_nonneg h0 h2
  have b : t * r ≤ TM * 2147483648 := Int.mul_le_mul h1 h3 h2 (by decide)
  unfold TM at *
  omega

/-- sine and cosine on the first octant -/
theorem sinI_oct {c : Int} (h0 : 0 ≤ c) (h1 : c ≤ 16200000) : sinI c = sineI c := by
  have e : normI c = c := by unfold normI; omega
  unfold sinI sinB quarterI
  rw [e, if_pos (by omega), if_pos h1]
theorem cosI_oct {c : Int} (h0 : 0 ≤ c) (h1 : c ≤ 16200000) : cosI c = cosineI c := by
  have e : normI (turnI c 32400000) = c + 32400000 := by unfold turnI normI; omega
  unfold cosI sinI sinB quarterI
  rw [e]
  by_cases hc : c = 0
  · subst hc; decide
  · rw [if_neg (by omega), if_pos (by omega)]
    by_cases hE : c = 16200000
    · subst hE; decide
    · rw [if_neg (by omega)]
      congr 1; omega

/-- the predicate of the search falls -/
def okI (m n c : Int) : Prop := sinI c * m ≤ cosI c * n
theorem okI_down {m n c d : Int} (hm : 0 ≤ m) (hn : 0 ≤ n) (h0 : 0 ≤ c) (hcd : c ≤ d) (h1 : d ≤ 16200000) (h : okI m n d) : okI m n c := by
  unfold okI at *
  rw [sinI_oct h0 (by omega), cosI_oct h0 (by omega)]
  rw [sinI_oct (by omega) h1, cosI_oct (by omega) h1] at h
  have a := Int.mul_le_mul_of_nonneg_right (sineI_le h0 hcd h1) hm
  have b := Int.mul_le_mul_of_nonneg_right (cosineI_le h0 hcd h1) hn
  omega
theorem okI_0 {m n : Int} (hn : 0 ≤ n) : okI m n 0 := by
  unfold okI
  rw [sinI_oct (by decide) (by decide), cosI_oct (by decide) (by decide), sineI_0, cosineI_0]
  omega

/-- c is the greatest angle from 0 to most with ok -/
structure IsTop (ok : Int → Prop) (most c : Int) : Prop where
  lo : 0 ≤ c
  hi : c ≤ most
  yes : ok c
  no : ∀ d, c < d → d ≤ most → ¬ ok d
theorem IsTop.uniq {ok : Int → Prop} {most c d : Int} (h : IsTop ok most c) (k : IsTop ok most d) : c = d := by
  rcases Int.lt_trichotomy c d with h' | h' | h'
  · exact absurd k.yes (h.no d h' k.hi)
  · exact h'
  · exact absurd h.yes (k.no c h' h.hi)

/-- the search itself, with fuel -/
def topGo (m n : Int) : Nat → Int → Int → Int
  | 0, c, _ => c
  | k + 1, c, above => if above - c ≤ 1 then c else if sinI ((c + above) / 2) * m ≤ cosI ((c + above) / 2) * n then topGo m n k ((c + above) / 2) above else topGo m n k c ((c + above) / 2)
/-- the greatest angle c from 0 to 45 degrees with Sin(c) m at most Cos(c) n -/
def topI (m n : Int) : Int := topGo m n 24 0 16200001
theorem topGo_top (m n : Int) (hm : 0 ≤ m) (hn : 0 ≤ n) (k : Nat) : ∀ c above : Int, 0 ≤ c → c < above → above ≤ 16200001 → above - c ≤ 2 ^ k → okI m n c → (above ≤ 16200000 → ¬ okI m n above) →
    IsTop (okI m n) 16200000 (topGo m n k c above) := by
  induction k with
  | zero =>
    intro c above h0 h1 h2 h3 hy hn'
    have h3' : above - c ≤ 1 := by simpa using h3
    refine ⟨h0, by simp [topGo]; omega, hy, ?_⟩
    intro d hd1 hd2 hd
    simp only [topGo] at hd1
    exact hn' (by omega) (okI_down hm hn (by omega) (show above ≤ d by omega) hd2 hd)
  | succ k ih =>
    intro c above h0 h1 h2 h3 hy hn'
    unfold topGo
    have e : (2 : Int) ^ (k + 1) = 2 ^ k + 2 ^ k := by rw [Int.pow_succ]; omega
    split
    · refine ⟨h0, by omega, hy, ?_⟩
      intro d hd1 hd2 hd
      exact hn' (by omega) (okI_down hm hn (by omega) (show above ≤ d by omega) hd2 hd)
    · split
      · rename_i hx
        exact ih _ _ (by omega) (by omega) h2 (by omega) hx hn'
      · rename_i hx
        exact ih _ _ h0 (by omega) (by omega) (by omega) hy (fun _ => hx)
theorem topI_top {m n : Int} (hm : 0 ≤ m) (hn : 0 ≤ n) : IsTop (okI m n) 16200000 (topI m n) :=
  topGo_top m n hm hn 24 0 16200001 (by decide) (by decide) (by decide) (by decide) (okI_0 hn) (fun h => absurd h (by decide))

def absI (x : Int) : Int := if x < 0 then -x else x
def maxI (a b : Int) : Int := if a < b then b else a
def minI (a b : Int) : Int := if b < a then b else a
theorem absI_nonneg (x : Int) : 0 ≤ absI x := by unfold absI; split <;> omega
/-- the quadrant's angle -/
def atanQ (y x : Int) : Int := if absI x < absI y then 32400000 - topI (maxI (absI x) (absI y)) (minI (absI x) (absI y)) else topI (maxI (absI x) (absI y)) (minI (absI x) (absI y))
/-- Atan2 of numbers in range, not both 0 -/
def atanI (y x : Int) : Int :=
  if 0 ≤ x then (if 0 ≤ y then atanQ y x else normI (-atanQ y x)) else (if 0 ≤ y then 64800000 - atanQ y x else 64800000 + atanQ y x)
theorem atanQ_range (y x : Int) : 0 ≤ atanQ y x ∧ atanQ y x ≤ 32400000 := by
  have h := topI_top (m := maxI (absI x) (absI y)) (n := minI (absI x) (absI y)) (by have := absI_nonneg x; have := absI_nonneg y; unfold maxI; split <;> omega) (by have := absI_nonneg x; have := absI_nonneg y; unfold minI; split <;> omega)
  have a := h.lo
  have b := h.hi
  unfold atanQ
  split <;> omega
theorem atanI_range (y x : Int) : 0 ≤ atanI y x ∧ atanI y x < 129600000 := by
  have h := atanQ_range y x
  unfold atanI normI
  split <;> split <;> omega
end Go.Proofs.YtdfpbojlimeccaaDoor.Tr
