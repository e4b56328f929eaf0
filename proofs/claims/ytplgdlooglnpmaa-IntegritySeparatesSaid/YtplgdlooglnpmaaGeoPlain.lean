/-
  Strips in the plane: a point within strips of full rank can be moved to a corner without lowering a linear form. No program in sight.
-/
import Derived.Lib.Hide
namespace Go.Proofs.Ytplgdlooglnpmaa
set_option linter.unusedVariables false

/-- a measurement: source, coefficients, value, bound, weight -/
structure Ms where
  s : Int
  a : Int
  b : Int
  z : Int
  d : Int
  w : Int
/-- how far the point (X/D, Y/D) misses a measurement, times D -/
def gI (m : Ms) (X Y D : Int) : Int := m.a * X + m.b * Y - m.z * D
def dlt (m : Ms) (u v : Int) : Int := m.a * u + m.b * v
def detM (m n : Ms) : Int := m.a * n.b - n.a * m.b
structure In1 (m : Ms) (X Y D : Int) : Prop where
  up : gI m X Y D ≤ m.d * D
  dn : -gI m X Y D ≤ m.d * D
def In (l : List Ms) (X Y D : Int) : Prop := ∀ m ∈ l, In1 m X Y D
/-- on an edge of the strip -/
def OnE (m : Ms) (X Y D : Int) : Prop := gI m X Y D = m.d * D ∨ gI m X Y D = -(m.d * D)
/-- how far a strip lets the point go, and how fast it goes -/
def roomI (m : Ms) (X Y D u v : Int) : Int := if 0 < dlt m u v then m.d * D - gI m X Y D else m.d * D + gI m X Y D
def fastI (m : Ms) (u v : Int) : Int := if 0 < dlt m u v then dlt m u v else -dlt m u v
theorem room_nonneg {m : Ms} {X Y D u v : Int} (h : In1 m X Y D) : 0 ≤ roomI m X Y D u v := by
  have := h.up
  have := h.dn
  unfold roomI
  split <;> omega
theorem fast_pos {m : Ms} {u v : Int} (h : dlt m u v ≠ 0) : 0 < fastI m u v := by
  unfold fastI
  split <;> omega
/-- the strip that is met first -/
theorem first_met (X Y D u v : Int) : ∀ (l : List Ms), In l X Y D → (∃ m ∈ l, dlt m u v ≠ 0) →
    ∃ m ∈ l, dlt m u v ≠ 0 ∧ ∀ k ∈ l, dlt k u v ≠ 0 → roomI m X Y D u v * fastI k u v ≤ roomI k X Y D u v * fastI m u v := by
  intro l
  induction l with
  | nil => rintro _ ⟨m, hm, _⟩; cases hm
  | cons c r ih =>
    intro hin hex
    by_cases hr : ∃ m ∈ r, dlt m u v ≠ 0
    · obtain ⟨m, hm, hd, hmin⟩ := ih (fun k hk => hin k (List.mem_cons_of_mem _ hk)) hr
      by_cases hc : dlt c u v ≠ 0 ∧ roomI c X Y D u v * fastI m u v < roomI m X Y D u v * fastI c u v
      · refine ⟨c, List.mem_cons_self, hc.1, fun k hk hkd => ?_⟩
        rcases List.mem_cons.1 hk with rfl | hk
        · exact Int.le_refl _
        · have h1 := hmin k hk hkd
          have fm := fast_pos hd
          have fk := fast_pos hkd
          have fc := fast_pos hc.1
          generalize roomI c X Y D u v = rc at *
          generalize roomI m X Y D u v = rm at *
          generalize roomI k X Y D u v = rk at *
          generalize fastI c u v = qc at *
          generalize fastI m u v = qm at *
          generalize fastI k u v = qk at *
          -- rc qm < rm qc, rm qk ≤ rk qm  ⊢ rc qk ≤ rk qc
          have e1 := Int.mul_le_mul_of_nonneg_right (Int.le_of_lt hc.2) (Int.le_of_lt fk)
          have e2 := Int.mul_le_mul_of_nonneg_right h1 (Int.le_of_lt fc)
          have e3 : rc * qk * qm ≤ rk * qc * qm := by
            have a1 : rc * qm * qk = rc * qk * qm := by grind
            have a2 : rm * qc * qk = rm * qk * qc := by grind
            have a3 : rk * qm * qc = rk * qc * qm := by grind
            omega
          exact Int.le_of_mul_le_mul_right e3 fm
      · refine ⟨m, List.mem_cons_of_mem _ hm, hd, fun k hk hkd => ?_⟩
        rcases List.mem_cons.1 hk with rfl | hk
        · exact Int.not_lt.1 fun q => hc ⟨hkd, q⟩
        · exact hmin k hk hkd
    · obtain ⟨m, hm, hd⟩ := hex
      rcases List.mem_cons.1 hm with rfl | hm'
      · refine ⟨m, List.mem_cons_self, hd, fun k hk hkd => ?_⟩
        rcases List.mem_cons.1 hk with rfl | hk
        · exact Int.le_refl _
        · exact absurd ⟨k, hk, hkd⟩ hr
      · exact absurd ⟨m, hm', hd⟩ hr
theorem g_move (m : Ms) (X Y D q t u v : Int) : gI m (X * q + t * u) (Y * q + t * v) (D * q) = q * gI m X Y D + t * dlt m u v := by
  unfold gI dlt; grind
/-- a point moved along (u, v) until it meets an edge -/
theorem move {l : List Ms} {X Y D u v : Int} (hD : 0 < D) (hin : In l X Y D) (hex : ∃ m ∈ l, dlt m u v ≠ 0) :
    ∃ q t : Int, 0 < q ∧ 0 ≤ t ∧ In l (X * q + t * u) (Y * q + t * v) (D * q) ∧ ∃ m ∈ l, dlt m u v ≠ 0 ∧ OnE m (X * q + t * u) (Y * q + t * v) (D * q) := by
  obtain ⟨m, hm, hd, hmin⟩ := first_met X Y D u v l hin hex
  have fm := fast_pos hd
  have rm := room_nonneg (u := u) (v := v) (hin m hm)
  refine ⟨fastI m u v, roomI m X Y D u v, fm, rm, fun k hk => ?_, m, hm, hd, ?_⟩
  · have hk1 := hin k hk
    have h1 := Int.mul_le_mul_of_nonneg_left hk1.up (Int.le_of_lt fm)
    have h2 := Int.mul_le_mul_of_nonneg_left hk1.dn (Int.le_of_lt fm)
    have ed : fastI m u v * (k.d * D) = k.d * (D * fastI m u v) := by grind
    have en : fastI m u v * -gI k X Y D = -(fastI m u v * gI k X Y D) := by grind
    by_cases hz : dlt k u v = 0
    · refine ⟨?_, ?_⟩ <;> rw [g_move, hz, Int.mul_zero] <;> omega
    · have hk2 := hmin k hk hz
      by_cases hp : 0 < dlt k u v
      · have ef : fastI k u v = dlt k u v := by unfold fastI; rw [if_pos hp]
        have er : roomI k X Y D u v = k.d * D - gI k X Y D := by unfold roomI; rw [if_pos hp]
        rw [ef, er] at hk2
        have es : (k.d * D - gI k X Y D) * fastI m u v = k.d * (D * fastI m u v) - fastI m u v * gI k X Y D := by grind
        have hn := Int.mul_nonneg rm (Int.le_of_lt hp)
        refine ⟨?_, ?_⟩ <;> rw [g_move] <;> omega
      · have ef : fastI k u v = -dlt k u v := by unfold fastI; rw [if_neg hp]
        have er : roomI k X Y D u v = k.d * D + gI k X Y D := by unfold roomI; rw [if_neg hp]
        rw [ef, er] at hk2
        have es : (k.d * D + gI k X Y D) * fastI m u v = k.d * (D * fastI m u v) + fastI m u v * gI k X Y D := by grind
        have eq : roomI m X Y D u v * -dlt k u v = -(roomI m X Y D u v * dlt k u v) := by grind
        have hn := Int.mul_nonneg rm (show 0 ≤ -dlt k u v by omega)
        refine ⟨?_, ?_⟩ <;> rw [g_move] <;> omega
  · unfold OnE
    rw [g_move]
    by_cases hp : 0 < dlt m u v
    · left
      have ef : fastI m u v = dlt m u v := by unfold fastI; rw [if_pos hp]
      have er : roomI m X Y D u v = m.d * D - gI m X Y D := by unfold roomI; rw [if_pos hp]
      rw [ef, er]; grind
    · right
      have ef : fastI m u v = -dlt m u v := by unfold fastI; rw [if_neg hp]
      have er : roomI m X Y D u v = m.d * D + gI m X Y D := by unfold roomI; rw [if_neg hp]
      rw [ef, er]; grind
/-- a direction along the lines of m that does not lower a x + b y -/
theorem along (m : Ms) (a b : Int) : ∃ u v : Int, 0 ≤ a * u + b * v ∧ dlt m u v = 0 ∧ (∀ k : Ms, dlt k u v ≠ 0 ↔ detM m k ≠ 0) := by
  by_cases h : 0 ≤ a * -m.b + b * m.a
  · refine ⟨-m.b, m.a, h, by unfold dlt; grind, fun k => ?_⟩
    have : dlt k (-m.b) m.a = detM m k := by unfold dlt detM; grind
    rw [this]
  · have e : a * m.b + b * -m.a = -(a * -m.b + b * m.a) := by grind
    refine ⟨m.b, -m.a, by omega, by unfold dlt; grind, fun k => ?_⟩
    have : dlt k m.b (-m.a) = -detM m k := by unfold dlt detM; grind
    rw [this]
    omega
/-- full rank -/
def Full (l : List Ms) : Prop := ∃ m ∈ l, ∃ n ∈ l, detM m n ≠ 0
theorem det_swap (m n : Ms) : detM n m = -detM m n := by unfold detM; grind
/-- from a point within strips of full rank a corner is reached at which a x + b y is not less -/
theorem vertex {l : List Ms} {X Y D : Int} (a b : Int) (hD : 0 < D) (hin : In l X Y D) (hf : Full l) :
    ∃ m ∈ l, ∃ n ∈ l, detM m n ≠ 0 ∧ ∃ X' Y' D' : Int, 0 < D' ∧ In l X' Y' D' ∧ OnE m X' Y' D' ∧ OnE n X' Y' D' ∧ (a * X + b * Y) * D' ≤ (a * X' + b * Y') * D := by
  obtain ⟨m0, hm0, n0, hn0, hd0⟩ := hf
  obtain ⟨u, v, f0, z0, p0⟩ := along m0 a b
  obtain ⟨q, t, hq, ht, hin1, m1, hm1, hd1, he1⟩ := move hD hin ⟨n0, hn0, (p0 n0).2 hd0⟩
  have hd1 := (p0 m1).1 hd1
  have hD1 : 0 < D * q := Int.mul_pos hD hq
  obtain ⟨u', v', f1, z1, p1⟩ := along m1 a b
  obtain ⟨q', t', hq', ht', hin2, m2, hm2, hd2, he2⟩ := move (u := u') (v := v') hD1 hin1 ⟨m0, hm0, (p1 m0).2 (by rw [det_swap]; omega)⟩
  have hd2 := (p1 m2).1 hd2
  refine ⟨m1, hm1, m2, hm2, hd2, _, _, _, Int.mul_pos hD1 hq', hin2, ?_, he2, ?_⟩
  · unfold OnE
    rw [g_move, z1, Int.mul_zero]
    rcases he1 with h | h
    · left; rw [h]; grind
    · right; rw [h]; grind
  · have n1 := Int.mul_nonneg ht f0
    have n2 := Int.mul_nonneg ht' f1
    have h1 := Int.mul_nonneg (Int.mul_nonneg n1 (Int.le_of_lt hq')) (Int.le_of_lt hD)
    have h2 := Int.mul_nonneg n2 (Int.le_of_lt hD)
    have e : (a * ((X * q + t * u) * q' + t' * u') + b * ((Y * q + t * v) * q' + t' * v')) * D = (a * X + b * Y) * (D * q * q') + t * (a * u + b * v) * q' * D + t' * (a * u' + b * v') * D := by grind
    rw [e]
    omega
/-! the intersection of two lines, as it is computed -/
structure Cr where
  x : Int
  y : Int
  d : Int
/-- of the lines m = c and n = e -/
def crossC (m n : Ms) (c e : Int) : Cr :=
  if detM m n < 0 then ⟨-(c * n.b - e * m.b), -(m.a * e - n.a * c), -detM m n⟩ else ⟨c * n.b - e * m.b, m.a * e - n.a * c, detM m n⟩
theorem cross_pos {m n : Ms} (c e : Int) (h : detM m n ≠ 0) : 0 < (crossC m n c e).d := by
  unfold crossC
  split
  · show 0 < -detM m n
    omega
  · show 0 < detM m n
    omega
def edgeC (m : Ms) (up : Bool) : Int := if up = true then m.z + m.d else m.z - m.d
theorem on_edge {m : Ms} {X Y D : Int} (h : OnE m X Y D) : ∃ up, m.a * X + m.b * Y = edgeC m up * D := by
  rcases h with h | h
  · refine ⟨true, ?_⟩
    unfold gI at h
    show _ = (m.z + m.d) * D
    grind
  · refine ⟨false, ?_⟩
    unfold gI at h
    show _ = (m.z - m.d) * D
    grind
/-- the corner computed is the point on both lines -/
theorem cross_at {m n : Ms} {X Y D c e : Int} (hm : m.a * X + m.b * Y = c * D) (hn : n.a * X + n.b * Y = e * D) :
    (crossC m n c e).d * X = (crossC m n c e).x * D ∧ (crossC m n c e).d * Y = (crossC m n c e).y * D := by
  have h1 : detM m n * X = (c * n.b - e * m.b) * D := by
    unfold detM
    have a1 : (m.a * n.b - n.a * m.b) * X = n.b * (m.a * X + m.b * Y) - m.b * (n.a * X + n.b * Y) := by grind
    rw [a1, hm, hn]; grind
  have h2 : detM m n * Y = (m.a * e - n.a * c) * D := by
    unfold detM
    have a1 : (m.a * n.b - n.a * m.b) * Y = m.a * (n.a * X + n.b * Y) - n.a * (m.a * X + m.b * Y) := by grind
    rw [a1, hm, hn]; grind
  unfold crossC
  split
  · show -detM m n * X = -(c * n.b - e * m.b) * D ∧ -detM m n * Y = -(m.a * e - n.a * c) * D
    rw [Int.neg_mul, Int.neg_mul, Int.neg_mul, Int.neg_mul, h1, h2]
    exact ⟨rfl, rfl⟩
  · exact ⟨h1, h2⟩
theorem le_cancel {p q D : Int} (hD : 0 < D) (h : p * D ≤ q * D) : p ≤ q := Int.le_of_mul_le_mul_right h hD
/-- points on one ray are in the same strips -/
theorem in_same {m : Ms} {X Y D x y d : Int} (hD : 0 < D) (hd : 0 ≤ d) (h1 : d * X = x * D) (h2 : d * Y = y * D) (h : In1 m X Y D) : In1 m x y d := by
  have e : gI m x y d * D = d * gI m X Y D := by
    unfold gI
    have : (m.a * x + m.b * y - m.z * d) * D = m.a * (x * D) + m.b * (y * D) - m.z * d * D := by grind
    rw [this, ← h1, ← h2]; grind
  have a := Int.mul_le_mul_of_nonneg_left h.up hd
  have b := Int.mul_le_mul_of_nonneg_left h.dn hd
  refine ⟨le_cancel hD ?_, le_cancel hD ?_⟩
  · rw [e]
    have : m.d * d * D = d * (m.d * D) := by grind
    omega
  · rw [Int.neg_mul, e]
    have : m.d * d * D = d * (m.d * D) := by grind
    have : d * -gI m X Y D = -(d * gI m X Y D) := by grind
    omega
/-- a corner of the region of R, from the edges of two of its strips -/
structure IsCor (l R : List Ms) (p : Cr) : Prop where
  of : ∃ m ∈ l, ∃ n ∈ l, detM m n ≠ 0 ∧ ∃ s t, p = crossC m n (edgeC m s) (edgeC n t)
  inn : In R p.x p.y p.d
theorem IsCor.pos {l R : List Ms} {p : Cr} (h : IsCor l R p) : 0 < p.d := by
  obtain ⟨m, _, n, _, hd, s, t, rfl⟩ := h.of
  exact cross_pos _ _ hd
/-- every point of the region has a corner at which a x + b y is not less -/
theorem corner_ge {l : List Ms} {X Y D : Int} (a b : Int) (hD : 0 < D) (hin : In l X Y D) (hf : Full l) : ∃ p, IsCor l l p ∧ (a * X + b * Y) * p.d ≤ (a * p.x + b * p.y) * D := by
  obtain ⟨m, hm, n, hn, hd, X', Y', D', hD', hin', h1, h2, h3⟩ := vertex a b hD hin hf
  obtain ⟨s, e1⟩ := on_edge h1
  obtain ⟨t, e2⟩ := on_edge h2
  obtain ⟨x1, x2⟩ := cross_at e1 e2
  have hp := cross_pos (m := m) (n := n) (edgeC m s) (edgeC n t) hd
  refine ⟨crossC m n (edgeC m s) (edgeC n t), ⟨⟨m, hm, n, hn, hd, s, t, rfl⟩, fun k hk => in_same hD' (Int.le_of_lt hp) x1 x2 (hin' k hk)⟩, ?_⟩
  generalize crossC m n (edgeC m s) (edgeC n t) = p at *
  apply le_cancel hD'
  have h4 := Int.mul_le_mul_of_nonneg_right h3 (Int.le_of_lt hp)
  have e3 : (a * p.x + b * p.y) * D * D' = (a * (p.x * D') + b * (p.y * D')) * D := by grind
  rw [e3, ← x1, ← x2]
  have e4 : (a * (p.d * X') + b * (p.d * Y')) * D = (a * X' + b * Y') * D * p.d := by grind
  have e5 : (a * X + b * Y) * p.d * D' = (a * X + b * Y) * D' * p.d := by grind
  omega
theorem corner_le {l : List Ms} {X Y D : Int} (a b : Int) (hD : 0 < D) (hin : In l X Y D) (hf : Full l) : ∃ p, IsCor l l p ∧ (a * p.x + b * p.y) * D ≤ (a * X + b * Y) * p.d := by
  obtain ⟨p, hp, h⟩ := corner_ge (-a) (-b) hD hin hf
  refine ⟨p, hp, ?_⟩
  have e1 : (-a * X + -b * Y) * p.d = -((a * X + b * Y) * p.d) := by grind
  have e2 : (-a * p.x + -b * p.y) * D = -((a * p.x + b * p.y) * D) := by grind
  omega
theorem corner_ex {l : List Ms} {X Y D : Int} (hD : 0 < D) (hin : In l X Y D) (hf : Full l) : ∃ p, IsCor l l p :=
  let ⟨p, hp, _⟩ := corner_ge 0 0 hD hin hf
  ⟨p, hp⟩
end Go.Proofs.Ytplgdlooglnpmaa
