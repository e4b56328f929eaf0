/-
  Walks and laws of the layers below, gathered from several texts.
-/
import Derived.Lib.Hide
import Derived.Test.YtidelghgjibndaaGreatShelf
import Derived.WalkKit
import Derived.WalkSpells
import Derived.IntWalk
import Derived.BigQuiet
import Derived.Deep.QuietTactic
import Derived.Deep.LoopGhost
import Derived.LoopTactic
import Derived.Deep.Cut
import Derived.Laws.OwnMore
import Derived.Maps.AppendAt
import Derived.OwnWalk
import Derived.OneCell
import Derived.Lib.SmallJoins
import Derived.Deep.Onto
import Derived.Lib.SlicesCompact
import Derived.Lib.RowBridge
import Derived.Test.YtidelghgjibndaaGreatFixPlain
import Derived.Test.YtidelghgjibndaaGreatRows
import Derived.ProofKit
import Derived.OpenShut
import Derived.Deep.Slices
import Derived.Test.YtidelghgjibndaaGreatN7SnCertPlain
import Derived.Test.YtidelghgjibndaaGreatN7SnSmallPlain
import Derived.Test.YtidelghgjibndaaGreatN7SnSensorFour
import Derived.Test.YtidelghgjibndaaGreatRefDivPlain
namespace Go.Proofs.YtidelghgjibndaaGreat
set_option linter.unusedVariables false
/-- a measurement: source, coefficients, value, bound, weight -/
structure Ms where
  s : Int
  a : Int
  b : Int
  z : Int
  d : Int
  w : Int
/-- how far the point (X/D, Y/D) misses a measurement, times D -/
def gI (m : Ms) (X Y D : Int) : Int := m.a * X + m.b * Y - m.z * D
def dlt (m : Ms) (u v : Int) : Int := m.a * u + m.b * v
def detM (m n : Ms) : Int := m.a * n.b - n.a * m.b
structure In1 (m : Ms) (X Y D : Int) : Prop where
  up : gI m X Y D ≤ m.d * D
  dn : -gI m X Y D ≤ m.d * D
def In (l : List Ms) (X Y D : Int) : Prop := ∀ m ∈ l, In1 m X Y D
/-- on an edge of the strip -/
def OnE (m : Ms) (X Y D : Int) : Prop := gI m X Y D = m.d * D ∨ gI m X Y D = -(m.d * D)
/-- how far a strip lets the point go, and how fast it goes -/
def roomI (m : Ms) (X Y D u v : Int) : Int := if 0 < dlt m u v then m.d * D - gI m X Y D else m.d * D + gI m X Y D
def fastI (m : Ms) (u v : Int) : Int := if 0 < dlt m u v then dlt m u v else -dlt m u v
theorem room_nonneg {m : Ms} {X Y D u v : Int} (h : In1 m X Y D) : 0 ≤ roomI m X Y D u v := by
  have := h.up
  have := h.dn
  unfold roomI
  split <;> omega
theorem fast_pos {m : Ms} {u v : Int} (h : dlt m u v ≠ 0) : 0 < fastI m u v := by
  unfold fastI
  split <;> omega
/-- the strip that is met first -/
theorem first_met (X Y D u v : Int) : ∀ (l : List Ms), In l X Y D → (∃ m ∈ l, dlt m u v ≠ 0) →
    ∃ m ∈ l, dlt m u v ≠ 0 ∧ ∀ k ∈ l, dlt k u v ≠ 0 → roomI m X Y D u v * fastI k u v ≤ roomI k X Y D u v * fastI m u v := by
  intro l
  induction l with
  | nil => rintro _ ⟨m, hm, _⟩; cases hm
  | cons c r ih =>
    intro hin hex
    by_cases hr : ∃ m ∈ r, dlt m u v ≠ 0
    · obtain ⟨m, hm, hd, hmin⟩ := ih (fun k hk => hin k (List.mem_cons_of_mem _ hk)) hr
      by_cases hc : dlt c u v ≠ 0 ∧ roomI c X Y D u v * fastI m u v < roomI m X Y D u v * fastI c u v
      · refine ⟨c, List.mem_cons_self, hc.1, fun k hk hkd => ?_⟩
        rcases List.mem_cons.1 hk with rfl | hk
        · exact Int.le_refl _
        · have h1 := hmin k hk hkd
          have fm := fast_pos hd
          have fk := fast_pos hkd
          have fc := fast_pos hc.1
          generalize roomI c X Y D u v = rc at *
          generalize roomI m X Y D u v = rm at *
          generalize roomI k X Y D u v = rk at *
          generalize fastI c u v = qc at *
          generalize fastI m u v = qm at *
          generalize fastI k u v = qk at *
          -- rc qm < rm qc, rm qk ≤ rk qm  ⊢ rc qk ≤ rk qc
          have e1 := Int.mul_le_mul_of_nonneg_right (Int.le_of_lt hc.2) (Int.le_of_lt fk)
          have e2 := Int.mul_le_mul_of_nonneg_right h1 (Int.le_of_lt fc)
          have e3 : rc * qk * qm ≤ rk * qc * qm := by
            have a1 : rc * qm * qk = rc * qk * qm := by grind
            have a2 : rm * qc * qk = rm * qk * qc := by grind
            have a3 : rk * qm * qc = rk * qc * qm := by grind
            omega
          exact Int.le_of_mul_le_mul_right e3 fm
      · refine ⟨m, List.mem_cons_of_mem _ hm, hd, fun k hk hkd => ?_⟩
        rcases List.mem_cons.1 hk with rfl | hk
        · exact Int.not_lt.1 fun q => hc ⟨hkd, q⟩
        · exact hmin k hk hkd
    · obtain ⟨m, hm, hd⟩ := hex
      rcases List.mem_cons.1 hm with rfl | hm'
      · refine ⟨m, List.mem_cons_self, hd, fun k hk hkd => ?_⟩
        rcases List.mem_cons.1 hk with rfl | hk
        · exact Int.le_refl _
        · exact absurd ⟨k, hk, hkd⟩ hr
      · exact absurd ⟨m, hm', hd⟩ hr
theorem g_move (m : Ms) (X Y D q t u v : Int) : gI m (X * q + t * u) (Y * q + t * v) (D * q) = q * gI m X Y D + t * dlt m u v := by
  unfold gI dlt; grind
/-- a point moved along (u, v) until it meets an edge -/
theorem move {l : List Ms} {X Y D u v : Int} (hD : 0 < D) (hin : In l X Y D) (hex : ∃ m ∈ l, dlt m u v ≠ 0) :
    ∃ q t : Int, 0 < q ∧ 0 ≤ t ∧ In l (X * q + t * u) (Y * q + t * v) (D * q) ∧ ∃ m ∈ l, dlt m u v ≠ 0 ∧ OnE m (X * q + t * u) (Y * q + t * v) (D * q) := by
  obtain ⟨m, hm, hd, hmin⟩ := first_met X Y D u v l hin hex
  have fm := fast_pos hd
  have rm := room_nonneg (u := u) (v := v) (hin m hm)
  refine ⟨fastI m u v, roomI m X Y D u v, fm, rm, fun k hk => ?_, m, hm, hd, ?_⟩
  · have hk1 := hin k hk
    have h1 := Int.mul_le_mul_of_nonneg_left hk1.up (Int.le_of_lt fm)
    have h2 := Int.mul_le_mul_of_nonneg_left hk1.dn (Int.le_of_lt fm)
    have ed : fastI m u v * (k.d * D) = k.d * (D * fastI m u v) := by grind
    have en : fastI m u v * -gI k X Y D = -(fastI m u v * gI k X Y D) := by grind
    by_cases hz : dlt k u v = 0
    · refine ⟨?_, ?_⟩ <;> rw [g_move, hz, Int.mul_zero] <;> omega
    · have hk2 := hmin k hk hz
      by_cases hp : 0 < dlt k u v
      · have ef : fastI k u v = dlt k u v := by unfold fastI; rw [if_pos hp]
        have er : roomI k X Y D u v = k.d * D - gI k X Y D := by unfold roomI; rw [if_pos hp]
        rw [ef, er] at hk2
        have es : (k.d * D - gI k X Y D) * fastI m u v = k.d * (D * fastI m u v) - fastI m u v * gI k X Y D := by grind
        have hn := Int.mul_nonneg rm (Int.le_of_lt hp)
        refine ⟨?_, ?_⟩ <;> rw [g_move] <;> omega
      · have ef : fastI k u v = -dlt k u v := by unfold fastI; rw [if_neg hp]
        have er : roomI k X Y D u v = k.d * D + gI k X Y D := by unfold roomI; rw [if_neg hp]
        rw [ef, er] at hk2
        have es : (k.d * D + gI k X Y D) * fastI m u v = k.d * (D * fastI m u v) + fastI m u v * gI k X Y D := by grind
        have eq : roomI m X Y D u v * -dlt k u v = -(roomI m X Y D u v * dlt k u v) := by grind
        have hn := Int.mul_nonneg rm (show 0 ≤ -dlt k u v by omega)
        refine ⟨?_, ?_⟩ <;> rw [g_move] <;> omega
  · unfold OnE
    rw [g_move]
    by_cases hp : 0 < dlt m u v
    · left
      have ef : fastI m u v = dlt m u v := by unfold fastI; rw [if_pos hp]
      have er : roomI m X Y D u v = m.d * D - gI m X Y D := by unfold roomI; rw [if_pos hp]
      rw [ef, er]; grind
    · right
      have ef : fastI m u v = -dlt m u v := by unfold fastI; rw [if_neg hp]
      have er : roomI m X Y D u v = m.d * D + gI m X Y D := by unfold roomI; rw [if_neg hp]
      rw [ef, er]; grind
/-- a direction along the lines of m that does not lower a x + b y -/
theorem along (m : Ms) (a b : Int) : ∃ u v : Int, 0 ≤ a * u + b * v ∧ dlt m u v = 0 ∧ (∀ k : Ms, dlt k u v ≠ 0 ↔ detM m k ≠ 0) := by
  by_cases h : 0 ≤ a * -m.b + b * m.a
  · refine ⟨-m.b, m.a, h, by unfold dlt; grind, fun k => ?_⟩
    have : dlt k (-m.b) m.a = detM m k := by unfold dlt detM; grind
    rw [this]
  · have e : a * m.b + b * -m.a = -(a * -m.b + b * m.a) := by grind
    refine ⟨m.b, -m.a, by omega, by unfold dlt; grind, fun k => ?_⟩
    have : dlt k m.b (-m.a) = -detM m k := by unfold dlt detM; grind
    rw [this]
    omega
/-- full rank -/
def Full (l : List Ms) : Prop := ∃ m ∈ l, ∃ n ∈ l, detM m n ≠ 0
theorem det_swap (m n : Ms) : detM n m = -detM m n := by unfold detM; grind
/-- from a point within strips of full rank a corner is reached at which a x + b y is not less -/
theorem vertex {l : List Ms} {X Y D : Int} (a b : Int) (hD : 0 < D) (hin : In l X Y D) (hf : Full l) :
    ∃ m ∈ l, ∃ n ∈ l, detM m n ≠ 0 ∧ ∃ X' Y' D' : Int, 0 < D' ∧ In l X' Y' D' ∧ OnE m X' Y' D' ∧ OnE n X' Y' D' ∧ (a * X + b * Y) * D' ≤ (a * X' + b * Y') * D := by
  obtain ⟨m0, hm0, n0, hn0, hd0⟩ := hf
  obtain ⟨u, v, f0, z0, p0⟩ := along m0 a b
  obtain ⟨q, t, hq, ht, hin1, m1, hm1, hd1, he1⟩ := move hD hin ⟨n0, hn0, (p0 n0).2 hd0⟩
  have hd1 := (p0 m1).1 hd1
  have hD1 : 0 < D * q := Int.mul_pos hD hq
  obtain ⟨u', v', f1, z1, p1⟩ := along m1 a b
  obtain ⟨q', t', hq', ht', hin2, m2, hm2, hd2, he2⟩ := move (u := u') (v := v') hD1 hin1 ⟨m0, hm0, (p1 m0).2 (by rw [det_swap]; omega)⟩
  have hd2 := (p1 m2).1 hd2
  refine ⟨m1, hm1, m2, hm2, hd2, _, _, _, Int.mul_pos hD1 hq', hin2, ?_, he2, ?_⟩
  · unfold OnE
    rw [g_move, z1, Int.mul_zero]
    rcases he1 with h | h
    · left; rw [h]; grind
    · right; rw [h]; grind
  · have n1 := Int.mul_nonneg ht f0
    have n2 := Int.mul_nonneg ht' f1
    have h1 := Int.mul_nonneg (Int.mul_nonneg n1 (Int.le_of_lt hq')) (Int.le_of_lt hD)
    have h2 := Int.mul_nonneg n2 (Int.le_of_lt hD)
    have e : (a * ((X * q + t * u) * q' + t' * u') + b * ((Y * q + t * v) * q' + t' * v')) * D = (a * X + b * Y) * (D * q * q') + t * (a * u + b * v) * q' * D + t' * (a * u' + b * v') * D := by grind
    rw [e]
    omega
/-! the intersection of two lines, as it is computed -/
structure Cr where
  x : Int
  y : Int
  d : Int
/-- of the lines m = c and n = e -/
def crossC (m n : Ms) (c e : Int) : Cr :=
  if detM m n < 0 then ⟨-(c * n.b - e * m.b), -(m.a * e - n.a * c), -detM m n⟩ else ⟨c * n.b - e * m.b, m.a * e - n.a * c, detM m n⟩
theorem cross_pos {m n : Ms} (c e : Int) (h : detM m n ≠ 0) : 0 < (crossC m n c e).d := by
  unfold crossC
  split
  · show 0 < -detM m n
    omega
  · show 0 < detM m n
    omega
def edgeC (m : Ms) (up : Bool) : Int := if up = true then m.z + m.d else m.z - m.d
theorem on_edge {m : Ms} {X Y D : Int} (h : OnE m X Y D) : ∃ up, m.a * X + m.b * Y = edgeC m up * D := by
  rcases h with h | h
  · refine ⟨true, ?_⟩
    unfold gI at h
    show _ = (m.z + m.d) * D
    grind
  · refine ⟨false, ?_⟩
    unfold gI at h
    show _ = (m.z - m.d) * D
    grind
/-- the corner computed is the point on both lines -/
theorem cross_at {m n : Ms} {X Y D c e : Int} (hm : m.a * X + m.b * Y = c * D) (hn : n.a * X + n.b * Y = e * D) :
    (crossC m n c e).d * X = (crossC m n c e).x * D ∧ (crossC m n c e).d * Y = (crossC m n c e).y * D := by
  have h1 : detM m n * X = (c * n.b - e * m.b) * D := by
    unfold detM
    have a1 : (m.a * n.b - n.a * m.b) * X = n.b * (m.a * X + m.b * Y) - m.b * (n.a * X + n.b * Y) := by grind
    rw [a1, hm, hn]; grind
  have h2 : detM m n * Y = (m.a * e - n.a * c) * D := by
    unfold detM
    have a1 : (m.a * n.b - n.a * m.b) * Y = m.a * (n.a * X + n.b * Y) - n.a * (m.a * X + m.b * Y) := by grind
    rw [a1, hm, hn]; grind
  unfold crossC
  split
  · show -detM m n * X = -(c * n.b - e * m.b) * D ∧ -detM m n * Y = -(m.a * e - n.a * c) * D
    rw [Int.neg_mul, Int.neg_mul, Int.neg_mul, Int.neg_mul, h1, h2]
    exact ⟨rfl, rfl⟩
  · exact ⟨h1, h2⟩
theorem le_cancel {p q D : Int} (hD : 0 < D) (h : p * D ≤ q * D) : p ≤ q := Int.le_of_mul_le_mul_right h hD
/-- points on one ray are in the same strips -/
theorem in_same {m : Ms} {X Y D x y d : Int} (hD : 0 < D) (hd : 0 ≤ d) (h1 : d * X = x * D) (h2 : d * Y = y * D) (h : In1 m X Y D) : In1 m x y d := by
  have e : gI m x y d * D = d * gI m X Y D := by
    unfold gI
    have : (m.a * x + m.b * y - m.z * d) * D = m.a * (x * D) + m.b * (y * D) - m.z * d * D := by grind
    rw [this, ← h1, ← h2]; grind
  have a := Int.mul_le_mul_of_nonneg_left h.up hd
  have b := Int.mul_le_mul_of_nonneg_left h.dn hd
  refine ⟨le_cancel hD ?_, le_cancel hD ?_⟩
  · rw [e]
    have : m.d * d * D = d * (m.d * D) := by grind
    omega
  · rw [Int.neg_mul, e]
    have : m.d * d * D = d * (m.d * D) := by grind
    have : d * -gI m X Y D = -(d * gI m X Y D) := by grind
    omega
/-- a corner of the region of R, from the edges of two of its strips -/
structure IsCor (l R : List Ms) (p : Cr) : Prop where
  of : ∃ m ∈ l, ∃ n ∈ l, detM m n ≠ 0 ∧ ∃ s t, p = crossC m n (edgeC m s) (edgeC n t)
  inn : In R p.x p.y p.d
/-- every point of the region has a corner at which a x + b y is not less -/
theorem corner_ge {l : List Ms} {X Y D : Int} (a b : Int) (hD : 0 < D) (hin : In l X Y D) (hf : Full l) : ∃ p, IsCor l l p ∧ (a * X + b * Y) * p.d ≤ (a * p.x + b * p.y) * D := by
  obtain ⟨m, hm, n, hn, hd, X', Y', D', hD', hin', h1, h2, h3⟩ := vertex a b hD hin hf
  obtain ⟨s, e1⟩ := on_edge h1
  obtain ⟨t, e2⟩ := on_edge h2
  obtain ⟨x1, x2⟩ := cross_at e1 e2
  have hp := cross_pos (m := m) (n := n) (edgeC m s) (edgeC n t) hd
  refine ⟨crossC m n (edgeC m s) (edgeC n t), ⟨⟨m, hm, n, hn, hd, s, t, rfl⟩, fun k hk => in_same hD' (Int.le_of_lt hp) x1 x2 (hin' k hk)⟩, ?_⟩
  generalize crossC m n (edgeC m s) (edgeC n t) = p at *
  apply le_cancel hD'
  have h4 := Int.mul_le_mul_of_nonneg_right h3 (Int.le_of_lt hp)
  have e3 : (a * p.x + b * p.y) * D * D' = (a * (p.x * D') + b * (p.y * D')) * D := by grind
  rw [e3, ← x1, ← x2]
  have e4 : (a * (p.d * X') + b * (p.d * Y')) * D = (a * X' + b * Y') * D * p.d := by grind
  have e5 : (a * X + b * Y) * p.d * D' = (a * X + b * Y) * D' * p.d := by grind
  omega
theorem corner_ex {l : List Ms} {X Y D : Int} (hD : 0 < D) (hin : In l X Y D) (hf : Full l) : ∃ p, IsCor l l p :=
  let ⟨p, hp, _⟩ := corner_ge 0 0 hD hin hf
  ⟨p, hp⟩
end Go.Proofs.YtidelghgjibndaaGreat
namespace Go.Proofs.YtidelghgjibndaaGreat
set_option linter.unusedVariables false
open Go.RowKit
theorem ret_int {k : IntKind} {a b : Int} (h : a = b) : Ending.returned (.int k a) = .returned (.int k b) := by rw [h]
theorem ret_b {a b : Bool} (h : a = b) : Ending.returned (.bool a) = .returned (.bool b) := by rw [h]
theorem below_drewN {B : Nat} {a w : World} (h : Below B a w) (n : Nat) : Below B a (w.drewN n) := ⟨h.os, h.tape, h.output, h.size, h.block⟩
theorem quiet_left {P : Program} {f : FuncId} {args : Array Value} {w : World} {n : Nat} {v : Value}
    (h : Calls P f args (w.drewN n) fun e w' => e = .returned v ∧ w.drewN n = w') : Calls P f args (w.drewN n) fun e w'' => e = .returned v ∧ ∃ m, w'' = w.drewN m :=
  h.mono fun _ _ ⟨he, hm⟩ => ⟨he, n, hm.symm⟩
theorem quiet_add_left {P : Program} {f : FuncId} {args : Array Value} {w : World} {a n : Nat} {v : Value}
    (h : Calls P f args (w.drewN (a + n)) fun e w' => e = .returned v ∧ w.drewN (a + n) = w') :
    Calls P f args (w.drewN (a + n)) fun e w'' => e = .returned v ∧ ∃ m, w'' = w.drewN (a + m) :=
  h.mono fun _ _ ⟨he, hm⟩ => ⟨he, n, hm.symm⟩
def ms0 : Ms := ⟨0, 0, 0, 0, 0, 0⟩
def nth (l : List Ms) (i : Nat) : Ms := l.getD i ms0
theorem nth_mem {l : List Ms} {i : Nat} (h : i < l.length) : nth l i ∈ l := by
  unfold nth
  rw [List.getD_eq_getElem?_getD, List.getElem?_eq_getElem h]
  exact List.getElem_mem h
theorem nth_eq {l : List Ms} {i : Nat} (h : i < l.length) : nth l i = l[i] := by
  unfold nth
  rw [List.getD_eq_getElem?_getD, List.getElem?_eq_getElem h]
  rfl
theorem take_nth {l : List Ms} {i : Nat} (h : i < l.length) : l.take (i + 1) = l.take i ++ [nth l i] := by
  rw [List.take_succ_eq_append_getElem h, nth_eq h]
/-- measurements lie in block b from cell o on -/
structure MsAt (l : List Ms) (b o : Nat) (w : World) : Prop where
  lt : b < w.heap.size
  c0 : ∀ i, i < l.length → w.cell? ⟨b, o + i * 6, none⟩ = some (.int .i64 (nth l i).s)
  c1 : ∀ i, i < l.length → w.cell? ⟨b, o + i * 6 + 1, none⟩ = some (.int .i64 (nth l i).a)
  c2 : ∀ i, i < l.length → w.cell? ⟨b, o + i * 6 + 2, none⟩ = some (.int .i64 (nth l i).b)
  c3 : ∀ i, i < l.length → w.cell? ⟨b, o + i * 6 + 3, none⟩ = some (.int .i64 (nth l i).z)
  c4 : ∀ i, i < l.length → w.cell? ⟨b, o + i * 6 + 4, none⟩ = some (.int .i64 (nth l i).d)
  c5 : ∀ i, i < l.length → w.cell? ⟨b, o + i * 6 + 5, none⟩ = some (.int .i64 (nth l i).w)
theorem MsAt.keep {l : List Ms} {b o B : Nat} {w w' : World} (h : MsAt l b o w) (hb : Below B w w') (hB : b < B) : MsAt l b o w' :=
  ⟨Nat.lt_of_lt_of_le h.lt hb.size, fun i hi => (hb.cell (p := ⟨b, o + i * 6, none⟩) hB).trans (h.c0 i hi), fun i hi => (hb.cell (p := ⟨b, o + i * 6 + 1, none⟩) hB).trans (h.c1 i hi), fun i hi => (hb.cell (p := ⟨b, o + i * 6 + 2, none⟩) hB).trans (h.c2 i hi), fun i hi => (hb.cell (p := ⟨b, o + i * 6 + 3, none⟩) hB).trans (h.c3 i hi), fun i hi => (hb.cell (p := ⟨b, o + i * 6 + 4, none⟩) hB).trans (h.c4 i hi), fun i hi => (hb.cell (p := ⟨b, o + i * 6 + 5, none⟩) hB).trans (h.c5 i hi)⟩
theorem MsAt.below {l : List Ms} {b o : Nat} {w w' : World} (h : MsAt l b o w) (hb : Below w.heap.size w w') : MsAt l b o w' := h.keep hb h.lt
theorem MsAt.take {l : List Ms} {b o : Nat} {w : World} (h : MsAt l b o w) (k : Nat) : MsAt (l.take k) b o w := by
  have e : ∀ i, i < (l.take k).length → i < l.length ∧ nth (l.take k) i = nth l i := fun i hi => by
    rw [List.length_take] at hi
    refine ⟨by omega, ?_⟩
    unfold nth
    rw [List.getD_eq_getElem?_getD, List.getD_eq_getElem?_getD, List.getElem?_take, if_pos (by omega)]
  exact ⟨h.lt, fun i hi => by rw [(e i hi).2]; exact h.c0 i (e i hi).1, fun i hi => by rw [(e i hi).2]; exact h.c1 i (e i hi).1, fun i hi => by rw [(e i hi).2]; exact h.c2 i (e i hi).1, fun i hi => by rw [(e i hi).2]; exact h.c3 i (e i hi).1, fun i hi => by rw [(e i hi).2]; exact h.c4 i (e i hi).1, fun i hi => by rw [(e i hi).2]; exact h.c5 i (e i hi).1⟩
/-- a slice that holds measurements -/
def LstAt (l : List Ms) (v : Value) (w : World) : Prop := (v = .slice none 0 0 ∧ l = []) ∨ ∃ b o cap, v = .slice (some ⟨b, o, none⟩) l.length cap ∧ l.length ≤ cap ∧ cap ≤ 9223372036854775807 ∧ MsAt l b o w
theorem LstAt.below {l : List Ms} {v : Value} {w w' : World} (h : LstAt l v w) (hb : Below w.heap.size w w') : LstAt l v w' := by
  rcases h with h | ⟨b, o, cap, h1, h2, h3, h4⟩
  · exact .inl h
  · exact .inr ⟨b, o, cap, h1, h2, h3, h4.below hb⟩
def okF (s a b z d t : Int) : Bool := decide (1 ≤ s ∧ s ≤ 8 ∧ -256 ≤ a ∧ a ≤ 256 ∧ -256 ≤ b ∧ b ≤ 256 ∧ (a ≠ 0 ∨ b ≠ 0) ∧ -4294967296 ≤ z ∧ z ≤ 4294967296 ∧ 0 ≤ d ∧ d ≤ 4294967296 ∧ 1 ≤ t ∧ t ≤ 16)
def okM (m : Ms) : Bool := okF m.s m.a m.b m.z m.d m.w
structure OkM (m : Ms) : Prop where
  s0 : 1 ≤ m.s
  s1 : m.s ≤ 8
  a0 : -256 ≤ m.a
  a1 : m.a ≤ 256
  b0 : -256 ≤ m.b
  b1 : m.b ≤ 256
  nz : m.a ≠ 0 ∨ m.b ≠ 0
  z0 : -4294967296 ≤ m.z
  z1 : m.z ≤ 4294967296
  d0 : 0 ≤ m.d
  d1 : m.d ≤ 4294967296
  w0 : 1 ≤ m.w
  w1 : m.w ≤ 16
theorem okM_iff {m : Ms} : okM m = true ↔ OkM m := by
  unfold okM okF
  rw [decide_eq_true_iff]
  constructor
  · rintro ⟨h0, h1, h2, h3, h4, h5, h6, h7, h8, h9, h10, h11, h12⟩
    exact ⟨h0, h1, h2, h3, h4, h5, h6, h7, h8, h9, h10, h11, h12⟩
  · rintro ⟨h0, h1, h2, h3, h4, h5, h6, h7, h8, h9, h10, h11, h12⟩
    exact ⟨h0, h1, h2, h3, h4, h5, h6, h7, h8, h9, h10, h11, h12⟩
def chkL (l : List Ms) : Int := if 16 < l.length then 3 else if l.all okM = true then 0 else 1
theorem chkL_ok {l : List Ms} (h : chkL l = 0) : l.length ≤ 16 ∧ ∀ m ∈ l, OkM m := by
  unfold chkL at h
  split at h
  · cases h
  · split at h
    · rename_i h1 h2
      exact ⟨by omega, fun m hm => okM_iff.1 (List.all_eq_true.1 h2 m hm)⟩
    · cases h
theorem chkL_of {l : List Ms} (h : l.length ≤ 16) (g : ∀ m ∈ l, OkM m) : chkL l = 0 := by
  unfold chkL
  rw [if_neg (by omega), if_pos (List.all_eq_true.2 fun m hm => okM_iff.2 (g m hm))]
set_option maxHeartbeats 20000000 in
theorem valid_any (s a b z d t : Int) (w : World) : Calls Tryz.prog 64 #[.agg #[.int .i64 s, .int .i64 a, .int .i64 b, .int .i64 z, .int .i64 d, .int .i64 t]] w fun e w' => e = .returned (.bool (okF s a b z d t)) ∧ Below w.heap.size w w' := by
  by_cases q0 : 1 ≤ s
  · have g0 : decide (1 ≤ s) = true := by simpa using q0
    by_cases q1 : s ≤ 8
    · have g1 : decide (s ≤ 8) = true := by simpa using q1
      by_cases q2 : -256 ≤ a
      · have g2 : decide (-256 ≤ a) = true := by simpa using q2
        by_cases q3 : a ≤ 256
        · have g3 : decide (a ≤ 256) = true := by simpa using q3
          by_cases q4 : -256 ≤ b
          · have g4 : decide (-256 ≤ b) = true := by simpa using q4
            by_cases q5 : b ≤ 256
            · have g5 : decide (b ≤ 256) = true := by simpa using q5
              by_cases ha : a = 0
              · have ga : (a != 0) = false := by simpa using ha
                by_cases hb : b = 0
                · have gb : (b != 0) = false := by simpa using hb
                  have E := Lib.hid (show okF s a b z d t = false from decide_eq_false (fun h => by omega))
                  clear q0 q1 q2 q3 q4 q5 ha hb
                  go_enter Tryz.func64, Tryz.ntmps64
                  go_upto_region 1 with (fail)
                  simp only [List.append_eq, List.cons_append, List.nil_append]
                  go_wp2
                  go_ret
                  exact ⟨ret_b E.out.symm, (Below.refl _ _).alloc (Nat.le_refl _) _⟩
                · have gb : (b != 0) = true := by simpa using hb
                  by_cases qp0 : -4294967296 ≤ z
                  · have gp0 : decide (-4294967296 ≤ z) = true := by simpa using qp0
                    by_cases qp1 : z ≤ 4294967296
                    · have gp1 : decide (z ≤ 4294967296) = true := by simpa using qp1
                      by_cases qp2 : 0 ≤ d
                      · have gp2 : decide (0 ≤ d) = true := by simpa using qp2
                        by_cases qp3 : d ≤ 4294967296
                        · have gp3 : decide (d ≤ 4294967296) = true := by simpa using qp3
                          by_cases qp4 : 1 ≤ t
                          · have gp4 : decide (1 ≤ t) = true := by simpa using qp4
                            by_cases qp5 : t ≤ 16
                            · have gp5 : decide (t ≤ 16) = true := by simpa using qp5
                              have E := Lib.hid (show okF s a b z d t = true from decide_eq_true (by omega))
                              clear q0 q1 q2 q3 q4 q5 qp0 qp1 qp2 qp3 qp4 qp5 ha hb
                              go_enter Tryz.func64, Tryz.ntmps64
                              go_upto_region 1 with (fail)
                              simp only [List.append_eq, List.cons_append, List.nil_append]
                              go_wp2
                              go_ret
                              exact ⟨ret_b E.out.symm, (Below.refl _ _).alloc (Nat.le_refl _) _⟩
                            · have gp5 : decide (t ≤ 16) = false := by simpa using qp5
                              have E := Lib.hid (show okF s a b z d t = false from decide_eq_false (fun h => by omega))
                              clear q0 q1 q2 q3 q4 q5 qp0 qp1 qp2 qp3 qp4 qp5 ha hb
                              go_enter Tryz.func64, Tryz.ntmps64
                              go_upto_region 1 with (fail)
                              simp only [List.append_eq, List.cons_append, List.nil_append]
                              go_wp2
                              go_ret
                              exact ⟨ret_b E.out.symm, (Below.refl _ _).alloc (Nat.le_refl _) _⟩
                          · have gp4 : decide (1 ≤ t) = false := by simpa using qp4
                            have E := Lib.hid (show okF s a b z d t = false from decide_eq_false (fun h => by omega))
                            clear q0 q1 q2 q3 q4 q5 qp0 qp1 qp2 qp3 qp4 ha hb
                            go_enter Tryz.func64, Tryz.ntmps64
                            go_upto_region 1 with (fail)
                            simp only [List.append_eq, List.cons_append, List.nil_append]
                            go_wp2
                            go_ret
                            exact ⟨ret_b E.out.symm, (Below.refl _ _).alloc (Nat.le_refl _) _⟩
                        · have gp3 : decide (d ≤ 4294967296) = false := by simpa using qp3
                          have E := Lib.hid (show okF s a b z d t = false from decide_eq_false (fun h => by omega))
                          clear q0 q1 q2 q3 q4 q5 qp0 qp1 qp2 qp3 ha hb
                          go_enter Tryz.func64, Tryz.ntmps64
                          go_upto_region 1 with (fail)
                          simp only [List.append_eq, List.cons_append, List.nil_append]
                          go_wp2
                          go_ret
                          exact ⟨ret_b E.out.symm, (Below.refl _ _).alloc (Nat.le_refl _) _⟩
                      · have gp2 : decide (0 ≤ d) = false := by simpa using qp2
                        have E := Lib.hid (show okF s a b z d t = false from decide_eq_false (fun h => by omega))
                        clear q0 q1 q2 q3 q4 q5 qp0 qp1 qp2 ha hb
                        go_enter Tryz.func64, Tryz.ntmps64
                        go_upto_region 1 with (fail)
                        simp only [List.append_eq, List.cons_append, List.nil_append]
                        go_wp2
                        go_ret
                        exact ⟨ret_b E.out.symm, (Below.refl _ _).alloc (Nat.le_refl _) _⟩
                    · have gp1 : decide (z ≤ 4294967296) = false := by simpa using qp1
                      have E := Lib.hid (show okF s a b z d t = false from decide_eq_false (fun h => by omega))
                      clear q0 q1 q2 q3 q4 q5 qp0 qp1 ha hb
                      go_enter Tryz.func64, Tryz.ntmps64
                      go_upto_region 1 with (fail)
                      simp only [List.append_eq, List.cons_append, List.nil_append]
                      go_wp2
                      go_ret
                      exact ⟨ret_b E.out.symm, (Below.refl _ _).alloc (Nat.le_refl _) _⟩
                  · have gp0 : decide (-4294967296 ≤ z) = false := by simpa using qp0
                    have E := Lib.hid (show okF s a b z d t = false from decide_eq_false (fun h => by omega))
                    clear q0 q1 q2 q3 q4 q5 qp0 ha hb
                    go_enter Tryz.func64, Tryz.ntmps64
                    go_upto_region 1 with (fail)
                    simp only [List.append_eq, List.cons_append, List.nil_append]
                    go_wp2
                    go_ret
                    exact ⟨ret_b E.out.symm, (Below.refl _ _).alloc (Nat.le_refl _) _⟩
              · have ga : (a != 0) = true := by simpa using ha
                by_cases qp0 : -4294967296 ≤ z
                · have gp0 : decide (-4294967296 ≤ z) = true := by simpa using qp0
                  by_cases qp1 : z ≤ 4294967296
                  · have gp1 : decide (z ≤ 4294967296) = true := by simpa using qp1
                    by_cases qp2 : 0 ≤ d
                    · have gp2 : decide (0 ≤ d) = true := by simpa using qp2
                      by_cases qp3 : d ≤ 4294967296
                      · have gp3 : decide (d ≤ 4294967296) = true := by simpa using qp3
                        by_cases qp4 : 1 ≤ t
                        · have gp4 : decide (1 ≤ t) = true := by simpa using qp4
                          by_cases qp5 : t ≤ 16
                          · have gp5 : decide (t ≤ 16) = true := by simpa using qp5
                            have E := Lib.hid (show okF s a b z d t = true from decide_eq_true (by omega))
                            clear q0 q1 q2 q3 q4 q5 qp0 qp1 qp2 qp3 qp4 qp5 ha
                            go_enter Tryz.func64, Tryz.ntmps64
                            go_upto_region 1 with (fail)
                            simp only [List.append_eq, List.cons_append, List.nil_append]
                            go_wp2
                            go_ret
                            exact ⟨ret_b E.out.symm, (Below.refl _ _).alloc (Nat.le_refl _) _⟩
                          · have gp5 : decide (t ≤ 16) = false := by simpa using qp5
                            have E := Lib.hid (show okF s a b z d t = false from decide_eq_false (fun h => by omega))
                            clear q0 q1 q2 q3 q4 q5 qp0 qp1 qp2 qp3 qp4 qp5 ha
                            go_enter Tryz.func64, Tryz.ntmps64
                            go_upto_region 1 with (fail)
                            simp only [List.append_eq, List.cons_append, List.nil_append]
                            go_wp2
                            go_ret
                            exact ⟨ret_b E.out.symm, (Below.refl _ _).alloc (Nat.le_refl _) _⟩
                        · have gp4 : decide (1 ≤ t) = false := by simpa using qp4
                          have E := Lib.hid (show okF s a b z d t = false from decide_eq_false (fun h => by omega))
                          clear q0 q1 q2 q3 q4 q5 qp0 qp1 qp2 qp3 qp4 ha
                          go_enter Tryz.func64, Tryz.ntmps64
                          go_upto_region 1 with (fail)
                          simp only [List.append_eq, List.cons_append, List.nil_append]
                          go_wp2
                          go_ret
                          exact ⟨ret_b E.out.symm, (Below.refl _ _).alloc (Nat.le_refl _) _⟩
                      · have gp3 : decide (d ≤ 4294967296) = false := by simpa using qp3
                        have E := Lib.hid (show okF s a b z d t = false from decide_eq_false (fun h => by omega))
                        clear q0 q1 q2 q3 q4 q5 qp0 qp1 qp2 qp3 ha
                        go_enter Tryz.func64, Tryz.ntmps64
                        go_upto_region 1 with (fail)
                        simp only [List.append_eq, List.cons_append, List.nil_append]
                        go_wp2
                        go_ret
                        exact ⟨ret_b E.out.symm, (Below.refl _ _).alloc (Nat.le_refl _) _⟩
                    · have gp2 : decide (0 ≤ d) = false := by simpa using qp2
                      have E := Lib.hid (show okF s a b z d t = false from decide_eq_false (fun h => by omega))
                      clear q0 q1 q2 q3 q4 q5 qp0 qp1 qp2 ha
                      go_enter Tryz.func64, Tryz.ntmps64
                      go_upto_region 1 with (fail)
                      simp only [List.append_eq, List.cons_append, List.nil_append]
                      go_wp2
                      go_ret
                      exact ⟨ret_b E.out.symm, (Below.refl _ _).alloc (Nat.le_refl _) _⟩
                  · have gp1 : decide (z ≤ 4294967296) = false := by simpa using qp1
                    have E := Lib.hid (show okF s a b z d t = false from decide_eq_false (fun h => by omega))
                    clear q0 q1 q2 q3 q4 q5 qp0 qp1 ha
                    go_enter Tryz.func64, Tryz.ntmps64
                    go_upto_region 1 with (fail)
                    simp only [List.append_eq, List.cons_append, List.nil_append]
                    go_wp2
                    go_ret
                    exact ⟨ret_b E.out.symm, (Below.refl _ _).alloc (Nat.le_refl _) _⟩
                · have gp0 : decide (-4294967296 ≤ z) = false := by simpa using qp0
                  have E := Lib.hid (show okF s a b z d t = false from decide_eq_false (fun h => by omega))
                  clear q0 q1 q2 q3 q4 q5 qp0 ha
                  go_enter Tryz.func64, Tryz.ntmps64
                  go_upto_region 1 with (fail)
                  simp only [List.append_eq, List.cons_append, List.nil_append]
                  go_wp2
                  go_ret
                  exact ⟨ret_b E.out.symm, (Below.refl _ _).alloc (Nat.le_refl _) _⟩
            · have g5 : decide (b ≤ 256) = false := by simpa using q5
              have E := Lib.hid (show okF s a b z d t = false from decide_eq_false (fun h => by omega))
              clear q0 q1 q2 q3 q4 q5
              go_enter Tryz.func64, Tryz.ntmps64
              go_upto_region 1 with (fail)
              simp only [List.append_eq, List.cons_append, List.nil_append]
              go_wp2
              go_ret
              exact ⟨ret_b E.out.symm, (Below.refl _ _).alloc (Nat.le_refl _) _⟩
          · have g4 : decide (-256 ≤ b) = false := by simpa using q4
            have E := Lib.hid (show okF s a b z d t = false from decide_eq_false (fun h => by omega))
            clear q0 q1 q2 q3 q4
            go_enter Tryz.func64, Tryz.ntmps64
            go_upto_region 1 with (fail)
            simp only [List.append_eq, List.cons_append, List.nil_append]
            go_wp2
            go_ret
            exact ⟨ret_b E.out.symm, (Below.refl _ _).alloc (Nat.le_refl _) _⟩
        · have g3 : decide (a ≤ 256) = false := by simpa using q3
          have E := Lib.hid (show okF s a b z d t = false from decide_eq_false (fun h => by omega))
          clear q0 q1 q2 q3
          go_enter Tryz.func64, Tryz.ntmps64
          go_upto_region 1 with (fail)
          simp only [List.append_eq, List.cons_append, List.nil_append]
          go_wp2
          go_ret
          exact ⟨ret_b E.out.symm, (Below.refl _ _).alloc (Nat.le_refl _) _⟩
      · have g2 : decide (-256 ≤ a) = false := by simpa using q2
        have E := Lib.hid (show okF s a b z d t = false from decide_eq_false (fun h => by omega))
        clear q0 q1 q2
        go_enter Tryz.func64, Tryz.ntmps64
        go_upto_region 1 with (fail)
        simp only [List.append_eq, List.cons_append, List.nil_append]
        go_wp2
        go_ret
        exact ⟨ret_b E.out.symm, (Below.refl _ _).alloc (Nat.le_refl _) _⟩
    · have g1 : decide (s ≤ 8) = false := by simpa using q1
      have E := Lib.hid (show okF s a b z d t = false from decide_eq_false (fun h => by omega))
      clear q0 q1
      go_enter Tryz.func64, Tryz.ntmps64
      go_upto_region 1 with (fail)
      simp only [List.append_eq, List.cons_append, List.nil_append]
      go_wp2
      go_ret
      exact ⟨ret_b E.out.symm, (Below.refl _ _).alloc (Nat.le_refl _) _⟩
  · have g0 : decide (1 ≤ s) = false := by simpa using q0
    have E := Lib.hid (show okF s a b z d t = false from decide_eq_false (fun h => by omega))
    clear q0
    go_enter Tryz.func64, Tryz.ntmps64
    go_upto_region 1 with (fail)
    simp only [List.append_eq, List.cons_append, List.nil_append]
    go_wp2
    go_ret
    exact ⟨ret_b E.out.symm, (Below.refl _ _).alloc (Nat.le_refl _) _⟩
def ChkRcheck (l : List Ms) (w : World) (v : Value) (wr : World) : Prop := ∃ k : Nat, v = .int .i64 k ∧ k ≤ l.length ∧ Hid (∀ i, i < k → okM (nth l i) = true) ∧ Below w.heap.size w wr
set_option maxHeartbeats 1000000 in
theorem check_some (l : List Ms) (b o cap : Nat) (w : World) (h : MsAt l b o w) (hc : l.length ≤ cap) (hm : cap ≤ 9223372036854775807) :
    Calls Tryz.prog 38 #[.slice (some ⟨b, o, none⟩) l.length cap] w fun e w' => e = .returned (.int .i64 (chkL l)) ∧ Below w.heap.size w w' := by
  have H := Lib.hid h
  have hlt := h.lt
  clear h
  by_cases h16 : 16 < l.length
  · have g : decide (16 < l.length) = true := by simpa using h16
    have g' : decide (16 < (l.length : Int)) = true := by simp; omega
    have E := Lib.hid (show chkL l = 3 by unfold chkL; rw [if_pos h16])
    clear h16
    go_enter Tryz.func38, Tryz.ntmps38
    go_wp2
    go_ret
    exact ⟨ret_int E.out.symm, Below.refl _ _⟩
  · have g : decide (16 < l.length) = false := by simpa using h16
    have g' : decide (16 < (l.length : Int)) = false := by simp; omega
    have E0 := Lib.hid (show chkL l = if l.all okM = true then 0 else 1 by unfold chkL; rw [if_neg h16])
    go_enter Tryz.func38, Tryz.ntmps38
    go_wp2
    go_loopw [10] (ChkRcheck l w) (fun i _ => l.length - (intOf i).toNat)
    case atStart => exact ⟨0, rfl, Nat.zero_le _, Lib.hid fun i hi => absurd hi (by omega), Below.refl _ _⟩
    case round =>
      obtain ⟨k, rfl, hk, hok, hbr⟩ := hrel
      have HB := Lib.hid hbr
      by_cases q : k < l.length
      · have q' : decide (k < l.length) = true := by simpa using q
        have M := H.out.keep hbr hlt
        have c0 := M.c0 k q
        have c1 := M.c1 k q
        have c2 := M.c2 k q
        have c3 := M.c3 k q
        have c4 := M.c4 k q
        have c5 := M.c5 k q
        have V := Lib.hid fun w => valid_any (nth l k).s (nth l k).a (nth l k).b (nth l k).z (nth l k).d (nth l k).w w
        have EV := Lib.hid (show okM (nth l k) = okF (nth l k).s (nth l k).a (nth l k).b (nth l k).z (nth l k).d (nth l k).w from rfl)
        have MEM := Lib.hid (nth_mem q)
        clear M hbr
        generalize okF (nth l k).s (nth l k).a (nth l k).b (nth l k).z (nth l k).d (nth l k).w = v at *
        cases v with
        | true =>
          go_wp2_with (go_at_call 64; refine (V.out _).mono ?_; rintro e w2 ⟨rfl, hb2⟩)
          go_roundw
          case rel =>
            refine ⟨k + 1, by go_num, by omega, Lib.hid fun i hi => ?_, HB.out.trans (((Below.refl _ _).alloc (Nat.le_refl _) _).trans (hb2.mono (by simp)) |>.mono HB.out.size)⟩
            by_cases e : i = k
            · rw [e]; exact EV.out
            · exact hok.out i (by omega)
          case measure => simp [intOf]; omega
        | false =>
          have EE := Lib.hid (show chkL l = 1 by rw [E0.out, if_neg]; intro h; have := List.all_eq_true.1 h _ MEM.out; rw [EV.out] at this; cases this)
          go_wp2_with (go_at_call 64; refine (V.out _).mono ?_; rintro e w2 ⟨rfl, hb2⟩)
          go_ret
          exact ⟨ret_int EE.out.symm, HB.out.trans (((Below.refl _ _).alloc (Nat.le_refl _) _).trans (hb2.mono (by simp)) |>.mono HB.out.size)⟩
      · have EE := Lib.hid (show chkL l = 0 by
          rw [E0.out, if_pos]
          refine List.all_eq_true.2 fun m hm => ?_
          obtain ⟨i, hi, rfl⟩ := List.getElem_of_mem hm
          rw [← nth_eq hi]
          exact hok.out i (by omega))
        go_wp2
        go_ret
        exact ⟨ret_int EE.out.symm, HB.out⟩
theorem check_nil (w : World) :
    Calls Tryz.prog 38 #[.slice none 0 0] w fun e w' => e = .returned (.int .i64 0) ∧ Below w.heap.size w w' := by
  go_enter Tryz.func38, Tryz.ntmps38
  go_wp2
  go_loop [10] (fun v => v = .int .i64 0) (fun _ => 0)
  case atStart => rfl
  case round =>
    subst hrel
    go_wp2
    go_ret
    exact ⟨rfl, Below.refl _ _⟩
theorem check_any (l : List Ms) (v : Value) (w : World) (h : LstAt l v w) :
    Calls Tryz.prog 38 #[v] w fun e w' => e = .returned (.int .i64 (chkL l)) ∧ Below w.heap.size w w' := by
  rcases h with ⟨rfl, rfl⟩ | ⟨b, o, cap, rfl, h2, h3, h4⟩
  · exact check_nil w
  · exact check_some l b o cap w h4 h2 h3
end Go.Proofs.YtidelghgjibndaaGreat
namespace Go.Proofs.YtidelghgjibndaaGreat
set_option linter.unusedVariables false
def sumL (f : Ms → Int) : List Ms → Int
  | [] => 0
  | m :: r => f m + sumL f r
theorem sum_app (f : Ms → Int) (l k : List Ms) : sumL f (l ++ k) = sumL f l + sumL f k := by
  induction l with
  | nil => simp [sumL]
  | cons m r ih => simp only [List.cons_append, sumL, ih]; omega
theorem sum_take (f : Ms → Int) {l : List Ms} {k : Nat} (h : k < l.length) : sumL f (l.take (k + 1)) = sumL f (l.take k) + f (nth l k) := by
  rw [take_nth h, sum_app]
  simp [sumL]
theorem sum_bd (f : Ms → Int) (B : Int) (l : List Ms) (h : ∀ m ∈ l, -B ≤ f m ∧ f m ≤ B) : -(l.length * B) ≤ sumL f l ∧ sumL f l ≤ l.length * B := by
  induction l with
  | nil => simp [sumL]
  | cons m r ih =>
    have h1 := h m List.mem_cons_self
    have h2 := ih fun x hx => h x (List.mem_cons_of_mem _ hx)
    simp only [sumL, List.length_cons]
    have e : ((r.length + 1 : Nat) : Int) * B = r.length * B + B := by rw [Int.natCast_add, Int.add_mul]; simp
    omega
theorem sum_le (f g : Ms → Int) (l : List Ms) (h : ∀ m ∈ l, f m ≤ g m) : sumL f l ≤ sumL g l := by
  induction l with
  | nil => exact Int.le_refl _
  | cons m r ih =>
    have h1 := h m List.mem_cons_self
    have h2 := ih fun x hx => h x (List.mem_cons_of_mem _ hx)
    simp only [sumL]
    omega
theorem sum_nonneg (f : Ms → Int) (l : List Ms) (h : ∀ m ∈ l, 0 ≤ f m) : 0 ≤ sumL f l := by
  induction l with
  | nil => exact Int.le_refl _
  | cons m r ih =>
    have h1 := h m List.mem_cons_self
    have h2 := ih fun x hx => h x (List.mem_cons_of_mem _ hx)
    simp only [sumL]
    omega
/-- the coefficients of the normal equations -/
def nXX (l : List Ms) : Int := sumL (fun m => m.w * m.a * m.a) l
def nXY (l : List Ms) : Int := sumL (fun m => m.w * m.a * m.b) l
def nYY (l : List Ms) : Int := sumL (fun m => m.w * m.b * m.b) l
def nXZ (l : List Ms) : Int := sumL (fun m => m.w * m.a * m.z) l
def nYZ (l : List Ms) : Int := sumL (fun m => m.w * m.b * m.z) l
def detN (l : List Ms) : Int := nXX l * nYY l - nXY l * nXY l
def solX (l : List Ms) : Int := nYY l * nXZ l - nXY l * nYZ l
def solY (l : List Ms) : Int := nXX l * nYZ l - nXY l * nXZ l
def absZ (x : Int) : Int := if x < 0 then -x else x
/-- how far the errors within the bounds move the solution, times the determinant -/
def noiX (l : List Ms) : Int := sumL (fun m => m.w * absZ (nYY l * m.a - nXY l * m.b) * m.d) l
def noiY (l : List Ms) : Int := sumL (fun m => m.w * absZ (nXX l * m.b - nXY l * m.a) * m.d) l
theorem quad (l : List Ms) (a b : Int) (h : ∀ m ∈ l, 0 ≤ m.w) : 0 ≤ a * a * nYY l - 2 * (a * b) * nXY l + b * b * nXX l := by
  have e : a * a * nYY l - 2 * (a * b) * nXY l + b * b * nXX l = sumL (fun m => m.w * ((a * m.b - b * m.a) * (a * m.b - b * m.a))) l := by
    unfold nXX nXY nYY
    induction l with
    | nil => simp [sumL]
    | cons m r ih =>
      have ih := ih fun x hx => h x (List.mem_cons_of_mem _ hx)
      simp only [sumL]
      rw [← ih]
      grind
  rw [e]
  refine sum_nonneg _ _ fun m hm => Int.mul_nonneg (h m hm) ?_
  rcases Int.le_total 0 (a * m.b - b * m.a) with g | g
  · exact Int.mul_nonneg g g
  · have := Int.mul_nonneg (show 0 ≤ -(a * m.b - b * m.a) by omega) (show 0 ≤ -(a * m.b - b * m.a) by omega)
    have e : -(a * m.b - b * m.a) * -(a * m.b - b * m.a) = (a * m.b - b * m.a) * (a * m.b - b * m.a) := by grind
    omega
/-- the determinant is not negative -/
theorem det_nonneg : ∀ (l : List Ms), (∀ m ∈ l, 0 ≤ m.w) → 0 ≤ detN l
  | [], _ => by simp [detN, nXX, nXY, nYY, sumL]
  | m :: r, h => by
    have ih := det_nonneg r fun x hx => h x (List.mem_cons_of_mem _ hx)
    have q := quad r m.a m.b fun x hx => h x (List.mem_cons_of_mem _ hx)
    have w := h m List.mem_cons_self
    have p := Int.mul_nonneg w q
    have e : detN (m :: r) = m.w * (m.a * m.a * nYY r - 2 * (m.a * m.b) * nXY r + m.b * m.b * nXX r) + detN r := by
      unfold detN nXX nXY nYY
      simp only [sumL]
      grind
    omega
/-- how far the exact solution lies from a point: the errors there, weighted -/
theorem sol_err (l : List Ms) (px py : Int) :
    detN l * px - solX l = sumL (fun m => m.w * (nYY l * m.a - nXY l * m.b) * (m.a * px + m.b * py - m.z)) l ∧
    detN l * py - solY l = sumL (fun m => m.w * (nXX l * m.b - nXY l * m.a) * (m.a * px + m.b * py - m.z)) l := by
  have h : ∀ (u v : Int) (k : List Ms), sumL (fun m => m.w * (u * m.a - v * m.b) * (m.a * px + m.b * py - m.z)) k = u * (nXX k * px + nXY k * py - nXZ k) - v * (nXY k * px + nYY k * py - nYZ k) := by
    intro u v k
    unfold nXX nXY nYY nXZ nYZ
    induction k with
    | nil => simp [sumL]
    | cons m r ih =>
      simp only [sumL]
      rw [ih]
      grind
  have h2 : ∀ (u v : Int) (k : List Ms), sumL (fun m => m.w * (u * m.b - v * m.a) * (m.a * px + m.b * py - m.z)) k = u * (nXY k * px + nYY k * py - nYZ k) - v * (nXX k * px + nXY k * py - nXZ k) := by
    intro u v k
    unfold nXX nXY nYY nXZ nYZ
    induction k with
    | nil => simp [sumL]
    | cons m r ih =>
      simp only [sumL]
      rw [ih]
      grind
  refine ⟨?_, ?_⟩
  · rw [h]
    unfold detN solX
    grind
  · rw [h2]
    unfold detN solY
    grind
theorem abs_mul_le {w c e d : Int} (hw : 0 ≤ w) (h0 : -d ≤ e) (h1 : e ≤ d) : w * c * e ≤ w * absZ c * d ∧ -(w * c * e) ≤ w * absZ c * d := by
  have key : c * e ≤ absZ c * d ∧ -(c * e) ≤ absZ c * d := by
    unfold absZ
    split
    · have a := Int.mul_le_mul_of_nonneg_left h0 (show 0 ≤ -c by omega)
      have b := Int.mul_le_mul_of_nonneg_left h1 (show 0 ≤ -c by omega)
      have e1 : -c * -d = c * d := by grind
      have e2 : -c * e = -(c * e) := by grind
      have e3 : -c * d = -(c * d) := by grind
      omega
    · have a := Int.mul_le_mul_of_nonneg_left h0 (show 0 ≤ c by omega)
      have b := Int.mul_le_mul_of_nonneg_left h1 (show 0 ≤ c by omega)
      have e1 : c * -d = -(c * d) := by grind
      omega
  have a := Int.mul_le_mul_of_nonneg_left key.1 hw
  have b := Int.mul_le_mul_of_nonneg_left key.2 hw
  have e1 : w * (c * e) = w * c * e := by grind
  have e2 : w * (absZ c * d) = w * absZ c * d := by grind
  have e3 : w * -(c * e) = -(w * c * e) := by grind
  omega
theorem sum_neg (f : Ms → Int) (l : List Ms) : sumL (fun m => -f m) l = -sumL f l := by
  induction l with
  | nil => simp [sumL]
  | cons m r ih => simp only [sumL, ih]; omega
/-- a point that meets all measurements lies within the noise of the exact solution -/
theorem near_sol {l : List Ms} {px py : Int} (hw : ∀ m ∈ l, 0 ≤ m.w) (h : ∀ m ∈ l, -m.d ≤ m.a * px + m.b * py - m.z ∧ m.a * px + m.b * py - m.z ≤ m.d) :
    absZ (detN l * px - solX l) ≤ noiX l ∧ absZ (detN l * py - solY l) ≤ noiY l := by
  obtain ⟨e1, e2⟩ := sol_err l px py
  have a1 := sum_le (fun m => m.w * (nYY l * m.a - nXY l * m.b) * (m.a * px + m.b * py - m.z)) (fun m => m.w * absZ (nYY l * m.a - nXY l * m.b) * m.d) l fun m hm => (abs_mul_le (hw m hm) (h m hm).1 (h m hm).2).1
  have a2 := sum_le (fun m => -(m.w * (nYY l * m.a - nXY l * m.b) * (m.a * px + m.b * py - m.z))) (fun m => m.w * absZ (nYY l * m.a - nXY l * m.b) * m.d) l fun m hm => (abs_mul_le (hw m hm) (h m hm).1 (h m hm).2).2
  have b1 := sum_le (fun m => m.w * (nXX l * m.b - nXY l * m.a) * (m.a * px + m.b * py - m.z)) (fun m => m.w * absZ (nXX l * m.b - nXY l * m.a) * m.d) l fun m hm => (abs_mul_le (hw m hm) (h m hm).1 (h m hm).2).1
  have b2 := sum_le (fun m => -(m.w * (nXX l * m.b - nXY l * m.a) * (m.a * px + m.b * py - m.z))) (fun m => m.w * absZ (nXX l * m.b - nXY l * m.a) * m.d) l fun m hm => (abs_mul_le (hw m hm) (h m hm).1 (h m hm).2).2
  rw [sum_neg] at a2 b2
  rw [← e1] at a1 a2
  rw [← e2] at b1 b2
  unfold noiX noiY
  refine ⟨?_, ?_⟩ <;> (unfold absZ; split) <;> (unfold absZ at *; omega)
end Go.Proofs.YtidelghgjibndaaGreat
namespace Go.Proofs.YtidelghgjibndaaGreat
set_option linter.unusedVariables false
open Go.RowKit
theorem grown_of_below {W w' : World} (hb : Below W.heap.size W w') : W.grownBy w' none := ⟨hb.os, hb.tape, hb.output, hb.size, fun k hk _ => hb.block k hk⟩
def Halt (p : Prop) : Prop := p
theorem Halt.mk {p : Prop} (h : Halt p) : p := h
end Go.Proofs.YtidelghgjibndaaGreat
namespace Go.Proofs.YtidelghgjibndaaGreat
set_option linter.unusedVariables false
open Go.RowKit
def msC (l : List Ms) : List Value := l.flatMap fun m => [Value.int .i64 m.s, Value.int .i64 m.a, Value.int .i64 m.b, Value.int .i64 m.z, Value.int .i64 m.d, Value.int .i64 m.w]
theorem msC_append (l k : List Ms) : msC (l ++ k) = msC l ++ msC k := by unfold msC; rw [List.flatMap_append]
theorem msC_len (l : List Ms) : (msC l).length = l.length * 6 := by
  unfold msC
  induction l with
  | nil => rfl
  | cons p r ih => simp only [List.flatMap_cons, List.length_append, List.length_cons, List.length_nil, ih]; omega
theorem msC_get : ∀ (l : List Ms) (i : Nat) (h : i < l.length), (msC l)[i * 6]? = some (.int .i64 l[i].s) ∧ (msC l)[i * 6 + 1]? = some (.int .i64 l[i].a) ∧ (msC l)[i * 6 + 2]? = some (.int .i64 l[i].b) ∧ (msC l)[i * 6 + 3]? = some (.int .i64 l[i].z) ∧ (msC l)[i * 6 + 4]? = some (.int .i64 l[i].d) ∧ (msC l)[i * 6 + 5]? = some (.int .i64 l[i].w)
  | [], i, h => absurd h (by simp)
  | p :: l, 0, h => ⟨rfl, rfl, rfl, rfl, rfl, rfl⟩
  | p :: l, i + 1, h => by
    obtain ⟨a, b, c, d, e, f⟩ := msC_get l i (by simpa using h)
    unfold msC at *
    rw [List.flatMap_cons, show (i + 1) * 6 = i * 6 + 6 by omega]
    exact ⟨a, b, c, d, e, f⟩
/-- a slice of the call's own that holds these measurements -/
def OM (B : Nat) (w : World) (v : Value) (l : List Ms) : Prop := w.ownsRow B 59 6 v l.length (msC l)
theorem infoMeas : (Tryz.prog.info? 59).map (fun i => (i.zero, i.size, i.bytes)) = some (some (.agg #[.int .i64 0, .int .i64 0, .int .i64 0, .int .i64 0, .int .i64 0, .int .i64 0]), 6, 48) := by kernel_rfl
theorem wpList_om {ops : Array Oper} {rest : List Oper} {o : Oper} {a : Act} {Q : Exit → Act → World → Prop} (hgd : o.guard = none) (s x : Operand)
    (ho : o.op = .call { callee := .builtin .append, args := #[s, x], argTypes := #[33, 33] })
    (B : Nat) (v : Value) (l : List Ms) (hs : a.eval s = v) (w0 : World) (h : OM B w0 v l) (T : TypeId) (p : Ms) (c : Nat)
    (hx : a.eval x = .slice (some ⟨w0.heap.size, 0, none⟩) 1 c) (hl : l.length ≤ 100000) (hB : B ≤ w0.heap.size)
    (H : ∀ v' w', OM B w' v' (l ++ [p]) → (w0.alloc (.cells #[.int .i64 p.s, .int .i64 p.a, .int .i64 p.b, .int .i64 p.z, .int .i64 p.d, .int .i64 p.w] T)).grownBy w' v.ownBlock → (v'.ownBlock = v.ownBlock ∨ v'.ownBlock = some (w0.heap.size + 1)) → wpList Tryz.prog ops Q rest (a.put o.dst v') w') :
    wpList Tryz.prog ops Q (o :: rest) a (w0.alloc (.cells #[.int .i64 p.s, .int .i64 p.a, .int .i64 p.b, .int .i64 p.z, .int .i64 p.d, .int .i64 p.w] T)) := by
  obtain ⟨i0, hi, hz0, hz1, hz2⟩ := info_parts infoMeas
  refine wpList_append_own_at _ hgd s x 33 ho B 59 i0 (.agg #[.int .i64 0, .int .i64 0, .int .i64 0, .int .i64 0, .int .i64 0, .int .i64 0]) 6 48 Tryz.underlying33 hi hz0 hz1 hz2 rfl (by decide) v l.length (msC l) hs (World.ownsRow.alloc h _) ⟨w0.heap.size, 0, none⟩ 1 c (msC [p]) hx (by rw [msC_len]; rfl) ?_ ?_ (by unfold maxLen; omega) (by omega) (by simp; omega) ?_
  · intro j u hu
    have hadd : (⟨w0.heap.size, 0, none⟩ : Addr).add j = ⟨w0.heap.size, j, none⟩ := by unfold Addr.add; split <;> simp_all
    rw [hadd, World.cell?_alloc_at _ _ _ _ (by rfl)]
    unfold msC at hu
    simpa using hu
  · intro u hu
    unfold msC at hu
    simp only [List.flatMap_cons, List.flatMap_nil, List.append_nil, List.mem_cons, List.not_mem_nil, or_false] at hu
    rcases hu with rfl | rfl | rfl | rfl | rfl | rfl <;> rfl
  · intro v' w' ho' hg _ hat
    refine H v' w' (by unfold OM; rw [List.length_append, msC_append]; exact ho') hg ?_
    simpa using hat
/-- what a slice of measurements of the call's own is -/
theorem om_cases {B : Nat} {w : World} {v : Value} {l : List Ms} (h : OM B w v l) : (v = .slice none 0 0 ∧ l = []) ∨ ∃ g cap, v = .slice (some ⟨g, 0, none⟩) l.length cap ∧ l.length ≤ cap ∧ cap ≤ 9223372036854775807 ∧ B ≤ g ∧ MsAt l g 0 w ∧ ∀ j, w.frozen? ⟨g, j, none⟩ = false := by
  obtain ⟨h1, h2⟩ := h
  rcases h2 with ⟨rfl, hn⟩ | ⟨g, cap, cur, rfl, hb, hg, hc, hm, hs, ht⟩
  · exact .inl ⟨rfl, List.eq_nil_of_length_eq_zero hn⟩
  · have hlt : g < w.heap.size := (Array.getElem?_eq_some_iff.1 hg).1
    have hget : ∀ j, j < l.length * 6 → w.cell? ⟨g, j, none⟩ = (msC l)[j]? := fun j hj => by
      rw [← ht, List.getElem?_take, if_pos hj]
      unfold World.cell?
      rw [hg]
      simp
    unfold maxLen at hm
    refine .inr ⟨g, cap, rfl, hc, hm, hb, ⟨hlt, fun i hi => ?_, fun i hi => ?_, fun i hi => ?_, fun i hi => ?_, fun i hi => ?_, fun i hi => ?_⟩, fun j => by simp [World.frozen?, hg]⟩
    · rw [Nat.zero_add, hget _ (by omega), nth_eq hi]; exact (msC_get l i hi).1
    · rw [Nat.zero_add, hget _ (by omega), nth_eq hi]; exact (msC_get l i hi).2.1
    · rw [Nat.zero_add, hget _ (by omega), nth_eq hi]; exact (msC_get l i hi).2.2.1
    · rw [Nat.zero_add, hget _ (by omega), nth_eq hi]; exact (msC_get l i hi).2.2.2.1
    · rw [Nat.zero_add, hget _ (by omega), nth_eq hi]; exact (msC_get l i hi).2.2.2.2.1
    · rw [Nat.zero_add, hget _ (by omega), nth_eq hi]; exact (msC_get l i hi).2.2.2.2.2
theorem OM.lst {B : Nat} {w : World} {v : Value} {l : List Ms} (h : OM B w v l) : LstAt l v w := by
  rcases om_cases h with ⟨rfl, rfl⟩ | ⟨g, cap, rfl, h2, h3, _, h4, _⟩
  · exact .inl ⟨rfl, rfl⟩
  · exact .inr ⟨g, 0, cap, rfl, h2, h3, h4⟩
theorem OM.below {B : Nat} {w w' : World} {v : Value} {l : List Ms} (h : OM B w v l) (hb : Below w.heap.size w w') : OM B w' v l := by
  refine World.ownsRow.kept h (grown_of_below hb) ?_
  cases v.ownBlock <;> simp
theorem below_grown {B : Nat} {a b c : World} {r : Option Nat} (h : Below B a b) (g : b.grownBy c r) (hB : B ≤ b.heap.size) (hr : ∀ k, r = some k → B ≤ k) : Below B a c :=
  h.trans ⟨g.os, g.tape, g.output, g.size, fun k hk => g.block k (by omega) (fun e => by have := hr k e.symm; omega)⟩
def notS (s : Int) (m : Ms) : Bool := decide (m.s ≠ s)
def woL (l : List Ms) (s : Int) : List Ms := l.filter (notS s)
theorem woL_succ {l : List Ms} {s : Int} {k : Nat} (h : k < l.length) : woL (l.take (k + 1)) s = if (nth l k).s = s then woL (l.take k) s else woL (l.take k) s ++ [nth l k] := by
  unfold woL
  rw [take_nth h, List.filter_append]
  unfold notS
  by_cases q : (nth l k).s = s
  · rw [if_pos q]
    simp [q]
  · rw [if_neg q]
    simp [q]
theorem woL_len (l : List Ms) (s : Int) : (woL l s).length ≤ l.length := List.length_filter_le _ _
def WoR (l : List Ms) (s : Int) (w : World) (v u : Value) (wr : World) : Prop := ∃ k : Nat, u = .int .i64 k ∧ k ≤ l.length ∧ Hid (Below w.heap.size w wr) ∧ Hid (OM w.heap.size wr v (woL (l.take k) s))
set_option maxHeartbeats 4000000 in
set_option maxRecDepth 100000 in
theorem wo_some (l : List Ms) (s : Int) (b o cap : Nat) (w : World) (h : MsAt l b o w) (hc : l.length ≤ cap) (hm : cap ≤ 9223372036854775807) (hl : l.length ≤ 18) :
    Calls Tryz.prog 19 #[.slice (some ⟨b, o, none⟩) l.length cap, .int .i64 s] w fun e w' => (∃ u, e = .returned u ∧ OM w.heap.size w' u (woL l s)) ∧ Below w.heap.size w w' := by
  have H := Lib.hid h
  have hlt := h.lt
  clear h
  go_enter Tryz.func19, Tryz.ntmps19
  go_wp2
  go_loopw [5, 10] (WoR l s w) (fun _ i _ => l.length - (intOf i).toNat)
  case atStart => exact ⟨0, rfl, Nat.zero_le _, Lib.hid (Below.refl _ _), Lib.hid (World.ownsRow_nil _ _ _ _)⟩
  case round =>
    obtain ⟨k, rfl, hk, HB, HO⟩ := hrel
    by_cases q : k < l.length
    · have q' : decide (k < l.length) = true := by simpa using q
      have M := H.out.keep HB.out hlt
      have c0 := M.c0 k q
      have c1 := M.c1 k q
      have c2 := M.c2 k q
      have c3 := M.c3 k q
      have c4 := M.c4 k q
      have c5 := M.c5 k q
      have WS := Lib.hid (woL_succ (s := s) q)
      have SZ := Lib.hid (show (woL (l.take k) s).length ≤ 100000 by have := woL_len (l.take k) s; rw [List.length_take] at this; omega)
      have HS := Lib.hid HB.out.size
      clear M
      generalize hp : nth l k = p at *
      clear hp
      by_cases e : p.s = s
      · have g : (p.s != s) = false := by simpa using e
        have E := Lib.hid e
        clear e
        go_wp2
        go_roundw
        case rel =>
          have hb := (Below.refl wr.heap.size wr).alloc (Nat.le_refl _) (.cells #[.int .i64 p.s, .int .i64 p.a, .int .i64 p.b, .int .i64 p.z, .int .i64 p.d, .int .i64 p.w] 59)
          exact ⟨k + 1, by go_num, by omega, HB.out.trans (hb.mono HS.out), by rw [WS.out, if_pos E.out]; exact HO.out.below hb⟩
        case measure => simp [intOf]; omega
      · have g : (p.s != s) = true := by simpa using e
        have HA := Lib.hid ((Below.refl wr.heap.size wr).alloc (Nat.le_refl _) (.cells #[.int .i64 p.s, .int .i64 p.a, .int .i64 p.b, .int .i64 p.z, .int .i64 p.d, .int .i64 p.w] 59))
        go_wp2_with (at_builtin; refine Halt.mk ?_)
        unfold Halt
        refine wpList_om rfl (.tmp 18) (.tmp 20) rfl w.heap.size u5 (woL (l.take k) s) rfl (wr.alloc (.cells #[.int .i64 p.s, .int .i64 p.a, .int .i64 p.b, .int .i64 p.z, .int .i64 p.d, .int .i64 p.w] 59)) (HO.out.below HA.out) _ p 1 (by rw [World.size_alloc]; rfl) SZ.out (by have := HS.out; simp; omega) ?_
        intro u2 w5 ho5 hg5 hat5
        have HO5 : Hid (OM w.heap.size w5 u2 (woL (l.take (k + 1)) s)) := Lib.hid (by rw [WS.out, if_neg e]; exact ho5)
        have HB5 : Hid (Below w.heap.size w w5) := Lib.hid (below_grown ((HB.out.trans (HA.out.mono HS.out)).alloc (by simp; have := HS.out; omega) _) hg5 (by simp; have := HS.out; omega) (fun k hk => (World.ownsRow.lt HO.out k hk).1))
        clear hg5 hat5 c0 c1 c2 c3 c4 c5
        obtain ⟨g5, cap5, hu2⟩ := Go.Joins.ownsRow_form ho5 (show 0 < (woL (l.take k) s ++ [p]).length by rw [List.length_append, List.length_singleton]; omega)
        obtain ⟨N5, hN5⟩ : ∃ N, (woL (l.take k) s ++ [p]).length = N := ⟨_, rfl⟩
        rw [hN5] at hu2
        clear ho5 hN5
        subst hu2
        go_wp2
        go_roundw
        case rel => exact ⟨k + 1, by go_num, by omega, HB5, HO5⟩
        case measure => simp [intOf]; omega
    · obtain rfl : k = l.length := by omega
      rw [List.take_length] at HO
      rcases om_cases HO.out with ⟨rfl, hz⟩ | ⟨g, cap', rfl, _⟩
      · go_wp2
        go_ret
        exact ⟨⟨_, rfl, HO.out⟩, HB.out⟩
      · go_wp2
        go_ret
        exact ⟨⟨_, rfl, HO.out⟩, HB.out⟩
theorem wo_nil (s : Int) (w : World) :
    Calls Tryz.prog 19 #[.slice none 0 0, .int .i64 s] w fun e w' => (∃ u, e = .returned u ∧ OM w.heap.size w' u (woL [] s)) ∧ Below w.heap.size w w' := by
  go_enter Tryz.func19, Tryz.ntmps19
  go_wp2
  go_loop [5, 10] (fun u v => u = .slice none 0 0 ∧ v = .int .i64 0) (fun _ _ => 0)
  case atStart => exact ⟨rfl, rfl⟩
  case round =>
    obtain ⟨rfl, rfl⟩ := hrel
    go_wp2
    go_ret
    exact ⟨⟨_, rfl, World.ownsRow_nil _ _ _ _⟩, Below.refl _ _⟩
theorem wo_any (l : List Ms) (s : Int) (v : Value) (w : World) (h : LstAt l v w) (hl : l.length ≤ 18) :
    Calls Tryz.prog 19 #[v, .int .i64 s] w fun e w' => (∃ u, e = .returned u ∧ OM w.heap.size w' u (woL l s)) ∧ Below w.heap.size w w' := by
  rcases h with ⟨rfl, rfl⟩ | ⟨b, o, cap, rfl, h2, h3, h4⟩
  · exact wo_nil s w
  · exact wo_some l s b o cap w h4 h2 h3 hl
end Go.Proofs.YtidelghgjibndaaGreat
namespace Go.Proofs.YtidelghgjibndaaGreat
set_option linter.unusedVariables false
def srtL (l : List Ms) : List Int := (l.map Ms.s).mergeSort fun x y => decide (x ≤ y)
def srcL (l : List Ms) : List Int := Lib.compact (srtL l)
theorem toArr (zs : List Int) {i : Nat} (h : i < zs.length) : zs.toArray[i]! = zs[i] := by
  rw [getElem!_pos zs.toArray i (by simpa using h)]
  rfl
theorem mem_compact {zs : List Int} {x : Int} : x ∈ Lib.compact zs ↔ x ∈ zs := by
  unfold Lib.compact Lib.compactUpTo
  rw [List.mem_map]
  constructor
  · rintro ⟨j, hj, rfl⟩
    have h := List.mem_range.1 (List.mem_filter.1 hj).1
    rw [toArr zs h]
    exact List.getElem_mem h
  · intro hx
    obtain ⟨i, hi, rfl⟩ := List.getElem_of_mem hx
    have key : ∀ n : Nat, n < zs.length → ∃ j, j < zs.length ∧ Lib.keeps zs.toArray j = true ∧ zs.toArray[j]! = zs.toArray[n]! := by
      intro n
      induction n with
      | zero => exact fun h => ⟨0, h, Lib.keeps_lt_one _ 0 (by omega), rfl⟩
      | succ n ih =>
        intro h
        by_cases e : zs.toArray[n + 1]! = zs.toArray[n]!
        · obtain ⟨j, h1, h2, h3⟩ := ih (by omega)
          exact ⟨j, h1, h2, h3.trans e.symm⟩
        · exact ⟨n + 1, h, Lib.keeps_pos (by simpa using e), rfl⟩
    obtain ⟨j, h1, h2, h3⟩ := key i hi
    exact ⟨j, List.mem_filter.2 ⟨List.mem_range.2 h1, h2⟩, by rw [h3, toArr zs hi]⟩
theorem compact_lt {zs : List Int} (h : zs.Pairwise (· ≤ ·)) : (Lib.compact zs).Pairwise (· < ·) := by
  unfold Lib.compact Lib.compactUpTo
  rw [List.pairwise_map, List.pairwise_filter]
  refine List.pairwise_lt_range.imp_of_mem ?_
  intro i j hi hj hij ki kj
  have hi' := List.mem_range.1 hi
  have hj' := List.mem_range.1 hj
  have hk : zs.toArray[j]! ≠ zs.toArray[j - 1]! := by
    unfold Lib.keeps at kj
    rcases of_decide_eq_true kj with h | h
    · omega
    · exact h
  rw [toArr zs hj', toArr zs (show j - 1 < zs.length by omega)] at hk
  rw [toArr zs hi', toArr zs hj']
  rw [List.pairwise_iff_getElem] at h
  have h1 : zs[j - 1] ≤ zs[j] := h (j - 1) j (by omega) hj' (by omega)
  have h2 : zs[i] ≤ zs[j - 1] := by
    by_cases e : i = j - 1
    · subst e; exact Int.le_refl _
    · exact h i (j - 1) hi' (by omega) (by omega)
  omega
theorem srt_le (l : List Ms) : (srtL l).Pairwise (· ≤ ·) := by
  have := List.pairwise_mergeSort (le := fun x y : Int => decide (x ≤ y)) (fun a b c h1 h2 => by simp at *; omega) (fun a b => by simp; omega) (l.map Ms.s)
  exact this.imp fun h => by simpa using h
theorem srt_len (l : List Ms) : (srtL l).length = l.length := by
  unfold srtL
  rw [List.length_mergeSort, List.length_map]
theorem src_len (l : List Ms) : (srcL l).length ≤ l.length := by
  have := Lib.compact_length_le (srtL l)
  rw [srt_len] at this
  exact this
theorem mem_srcL {l : List Ms} {x : Int} : x ∈ srcL l ↔ ∃ m ∈ l, m.s = x := by
  unfold srcL
  rw [mem_compact]
  unfold srtL
  rw [List.mem_mergeSort, List.mem_map]
theorem srcL_lt (l : List Ms) : (srcL l).Pairwise (· < ·) := compact_lt (srt_le l)
/-- a strictly ascending list is known by its members -/
theorem asc_uniq : ∀ (a b : List Int), a.Pairwise (· < ·) → b.Pairwise (· < ·) → (∀ x, x ∈ a ↔ x ∈ b) → a = b
  | [], [], _, _, _ => rfl
  | [], y :: b, _, _, h => absurd ((h y).2 List.mem_cons_self) (by simp)
  | x :: a, [], _, _, h => absurd ((h x).1 List.mem_cons_self) (by simp)
  | x :: a, y :: b, ha, hb, h => by
    rw [List.pairwise_cons] at ha hb
    have e : x = y := by
      have h1 := (h x).1 List.mem_cons_self
      have h2 := (h y).2 List.mem_cons_self
      rw [List.mem_cons] at h1 h2
      rcases h1 with h1 | h1
      · exact h1
      · rcases h2 with h2 | h2
        · exact h2.symm
        · have := hb.1 x h1
          have := ha.1 y h2
          omega
    subst e
    congr 1
    refine asc_uniq a b ha.2 hb.2 fun z => ⟨fun hz => ?_, fun hz => ?_⟩
    · have := (h z).1 (List.mem_cons_of_mem _ hz)
      rw [List.mem_cons] at this
      rcases this with rfl | g
      · exact absurd (ha.1 z hz) (by omega)
      · exact g
    · have := (h z).2 (List.mem_cons_of_mem _ hz)
      rw [List.mem_cons] at this
      rcases this with rfl | g
      · exact absurd (hb.1 z hz) (by omega)
      · exact g
end Go.Proofs.YtidelghgjibndaaGreat
namespace Go.Proofs.YtidelghgjibndaaGreat
set_option linter.unusedVariables false
/-- the integer nearest to x / d, upwards at a tie -/
def nearW (x d : Int) : Int := (2 * x + d) / (2 * d)
def pOk (v : Int) : Bool := decide (-2000000 ≤ v ∧ v ≤ 2000000)
def cenX (l : List Ms) : Int := nearW (solX l) (detN l)
def cenY (l : List Ms) : Int := nearW (solY l) (detN l)
/-- the error of the solution -/
def solE (l : List Ms) : Int := if chkL l = 0 then (if detN l = 0 then 14 else if (pOk (cenX l) && pOk (cenY l)) = true then 0 else 2) else chkL l
/-- how far an integer lies from x / d, times d -/
def apartI (p x d : Int) : Int := absZ (p * d - x)
/-- two fractions rounded up, if they are not too great -/
def pairF (x y d : Int) : (Int × Int) × Int := if ceilI x d ≤ 8000000 ∧ ceilI y d ≤ 8000000 then ((ceilI x d, ceilI y d), 0) else ((0, 0), 2)
def reachF (cx cy : Int) (l : List Ms) : (Int × Int) × Int := pairF (apartI cx (solX l) (detN l) + noiX l) (apartI cy (solY l) (detN l) + noiY l) (detN l)
structure BoxI where
  cx : Int
  cy : Int
  x : Int
  y : Int
def box0 : BoxI := ⟨0, 0, 0, 0⟩
def maxF (f : Int → Int) : List Int → Int
  | [] => 0
  | k :: r => max (f k) (maxF f r)
theorem max_ge (f : Int → Int) {zs : List Int} {k : Int} (h : k ∈ zs) : f k ≤ maxF f zs := by
  induction zs with
  | nil => cases h
  | cons z r ih =>
    simp only [maxF]
    rcases List.mem_cons.1 h with rfl | h
    · omega
    · have := ih h
      omega
def rankB (l : List Ms) (k : Int) : Bool := decide (detN (woL l k) = 0)
def wideB (l : List Ms) (k : Int) : Bool := decide ((reachF (cenX l) (cenY l) (woL l k)).2 ≠ 0)
def levF (l : List Ms) : BoxI × Int :=
  if solE l = 0 then (if (srcL l).any (rankB l) = true then (box0, 14) else if (srcL l).any (wideB l) = true then (box0, 2) else
    (⟨cenX l, cenY l, maxF (fun k => (reachF (cenX l) (cenY l) (woL l k)).1.1) (srcL l), maxF (fun k => (reachF (cenX l) (cenY l) (woL l k)).1.2) (srcL l)⟩, 0)) else (box0, solE l)
theorem le_ceilI {v d u : Int} (hd : 0 < d) (h : u * d ≤ v) : u ≤ ceilI v d := by
  have e : ceilI v d = -(-v / d) := by unfold ceilI; rfl
  rw [e]
  have h2 : -v / d ≤ -u := by
    have : -v ≤ -u * d := by rw [Int.neg_mul]; omega
    exact Int.ediv_le_of_le_mul hd this
  omega
theorem pair_ok {x y d : Int} (h : (pairF x y d).2 = 0) : (pairF x y d).1 = (ceilI x d, ceilI y d) := by
  unfold pairF at h ⊢
  split
  · rfl
  · rename_i g
    rw [if_neg g] at h
    cases h
/-- the box of the reach holds every point that meets the measurements -/
theorem reach_in {l : List Ms} {cx cy px py : Int} (hd : 0 < detN l) (hw : ∀ m ∈ l, 0 ≤ m.w) (h : ∀ m ∈ l, -m.d ≤ m.a * px + m.b * py - m.z ∧ m.a * px + m.b * py - m.z ≤ m.d) (hr : (reachF cx cy l).2 = 0) :
    px - cx ≤ (reachF cx cy l).1.1 ∧ cx - px ≤ (reachF cx cy l).1.1 ∧ py - cy ≤ (reachF cx cy l).1.2 ∧ cy - py ≤ (reachF cx cy l).1.2 := by
  obtain ⟨n1, n2⟩ := near_sol hw h
  have e := pair_ok (x := apartI cx (solX l) (detN l) + noiX l) (y := apartI cy (solY l) (detN l) + noiY l) (d := detN l) hr
  have e' : (reachF cx cy l).1 = (ceilI (apartI cx (solX l) (detN l) + noiX l) (detN l), ceilI (apartI cy (solY l) (detN l) + noiY l) (detN l)) := e
  rw [e']
  have tri : ∀ (p c X N : Int), absZ (detN l * p - X) ≤ N → (p - c) * detN l ≤ apartI c X (detN l) + N ∧ (c - p) * detN l ≤ apartI c X (detN l) + N := by
    intro p c X N hN
    have e1 : (p - c) * detN l = (detN l * p - X) - (c * detN l - X) := by grind
    have e2 : (c - p) * detN l = (c * detN l - X) - (detN l * p - X) := by grind
    rw [e1, e2]
    unfold apartI
    generalize detN l * p - X = s at *
    generalize c * detN l - X = t at *
    unfold absZ at *
    constructor <;> (split at hN <;> split <;> omega)
  obtain ⟨t1, t2⟩ := tri px cx (solX l) (noiX l) n1
  obtain ⟨t3, t4⟩ := tri py cy (solY l) (noiY l) n2
  exact ⟨le_ceilI hd t1, le_ceilI hd t2, le_ceilI hd t3, le_ceilI hd t4⟩
end Go.Proofs.YtidelghgjibndaaGreat
namespace Go.Proofs.YtidelghgjibndaaGreat
set_option linter.unusedVariables false
structure LevOk (l : List Ms) : Prop where
  sol : solE l = 0
  rank : ∀ k ∈ srcL l, detN (woL l k) ≠ 0
  fit : ∀ k ∈ srcL l, (reachF (cenX l) (cenY l) (woL l k)).2 = 0
theorem lev_ok {l : List Ms} (h : (levF l).2 = 0) : LevOk l := by
  unfold levF at h
  split at h
  · rename_i h0
    split at h
    · cases h
    · rename_i h1
      split at h
      · cases h
      · rename_i h2
        refine ⟨h0, fun k hk q => h1 (List.any_eq_true.2 ⟨k, hk, decide_eq_true q⟩), fun k hk => ?_⟩
        by_cases q : (reachF (cenX l) (cenY l) (woL l k)).2 = 0
        · exact q
        · exact absurd (List.any_eq_true.2 ⟨k, hk, decide_eq_true q⟩) h2
  · rename_i h0
    exact absurd h h0
theorem lev_val {l : List Ms} (h : LevOk l) : levF l = (⟨cenX l, cenY l, maxF (fun k => (reachF (cenX l) (cenY l) (woL l k)).1.1) (srcL l), maxF (fun k => (reachF (cenX l) (cenY l) (woL l k)).1.2) (srcL l)⟩, 0) := by
  unfold levF
  rw [if_pos h.sol, if_neg, if_neg]
  · intro q
    obtain ⟨k, hk, e⟩ := List.any_eq_true.1 q
    exact of_decide_eq_true e (h.fit k hk)
  · intro q
    obtain ⟨k, hk, e⟩ := List.any_eq_true.1 q
    exact h.rank k hk (of_decide_eq_true e)
theorem sol_chk {l : List Ms} (h : solE l = 0) : chkL l = 0 ∧ detN l ≠ 0 ∧ pOk (cenX l) = true ∧ pOk (cenY l) = true := by
  unfold solE at h
  by_cases hc : chkL l = 0
  · rw [if_pos hc] at h
    by_cases hd : detN l = 0
    · rw [if_pos hd] at h; cases h
    · rw [if_neg hd] at h
      by_cases hp : (pOk (cenX l) && pOk (cenY l)) = true
      · rw [Bool.and_eq_true] at hp
        exact ⟨hc, hd, hp.1, hp.2⟩
      · rw [if_neg hp] at h; cases h
  · rw [if_neg hc] at h
    exact absurd h hc
theorem chk_w {l : List Ms} (h : chkL l = 0) : ∀ m ∈ l, 0 ≤ m.w := fun m hm => by
  have := ((chkL_ok h).2 m hm).w0
  omega
/-- a point that meets a measurement -/
def HoldP (m : Ms) (px py : Int) : Prop := -m.d ≤ m.a * px + m.b * py - m.z ∧ m.a * px + m.b * py - m.z ≤ m.d
structure InBox (b : BoxI) (px py : Int) : Prop where
  x0 : px - b.cx ≤ b.x
  x1 : b.cx - px ≤ b.x
  y0 : py - b.cy ≤ b.y
  y1 : b.cy - py ≤ b.y
/-- with at most one faulty source the true point lies in the box of the levels -/
theorem protects {l : List Ms} {px py faulty : Int} (h : LevOk l) (ht : ∀ m ∈ l, m.s ≠ faulty → HoldP m px py) : InBox (levF l).1 px py := by
  obtain ⟨hc, hd, _, _⟩ := sol_chk h.sol
  have hne : ∃ k ∈ srcL l, ∀ m ∈ woL l k, HoldP m px py := by
    by_cases hf : faulty ∈ srcL l
    · exact ⟨faulty, hf, fun m hm => ht m (List.mem_filter.1 hm).1 (by simpa [notS] using (List.mem_filter.1 hm).2)⟩
    · cases l with
      | nil => exact absurd rfl hd
      | cons m r =>
        refine ⟨m.s, mem_srcL.2 ⟨m, List.mem_cons_self, rfl⟩, fun x hx => ht x (List.mem_filter.1 hx).1 (fun e => hf (mem_srcL.2 ⟨x, (List.mem_filter.1 hx).1, e⟩))⟩
  obtain ⟨k, hk, hh⟩ := hne
  have hw : ∀ m ∈ woL l k, 0 ≤ m.w := fun m hm => chk_w hc m (List.mem_filter.1 hm).1
  have hdk : 0 < detN (woL l k) := by
    have := det_nonneg _ hw
    have := h.rank k hk
    omega
  obtain ⟨r1, r2, r3, r4⟩ := reach_in (cx := cenX l) (cy := cenY l) hdk hw hh (h.fit k hk)
  have m1 := max_ge (fun k => (reachF (cenX l) (cenY l) (woL l k)).1.1) hk
  have m2 := max_ge (fun k => (reachF (cenX l) (cenY l) (woL l k)).1.2) hk
  rw [lev_val h]
  exact ⟨by simp only; omega, by simp only; omega, by simp only; omega, by simp only; omega⟩
end Go.Proofs.YtidelghgjibndaaGreat
namespace Go.Proofs.YtidelghgjibndaaGreat
set_option linter.unusedVariables false
open Go.ChangeShapes Go.WideShapes Go.ChangeAt Go.RowKit Go.Joins

theorem own : ownKnob Tryz.prog.godebug = none := by kernel_rfl
theorem laidOut : laidOutB Tryz.prog = true := by kernel_rfl
section
variable {H : Type} {enc : TypeId × Value → H} {P : Program}
theorem post_of_below {f : Func} {s : ChangeSpec} {apart fresh handsOn again : Bool} {W W' : World} {args : Array Value} {v : Value} {ds gs : List (DataW H)} {before pa pv : List MemPlace}
    (hW : DataW.Whole enc P f.params.toList s.vars apart W args.toList ds gs before)
    (hres : ∀ (b : Nat) (sp : Nat → Bool) (hd : Bool), DataW.TrodAll enc P W' b sp hd f.resultTypes.toList (v.resultList f.resultTypes.size) (s.fn H (ds ++ gs)).results [])
    (hargs : ∀ sp : Nat → Bool, (∀ p ∈ before, sp p.block = true) → DataW.TrodAll enc P W' 0 sp true f.params.toList args.toList (s.fn H (ds ++ gs)).args pa)
    (hvars : ∀ sp : Nat → Bool, (∀ p ∈ before, sp p.block = true) → DataW.TrodVars enc P W' sp s.vars (s.fn H (ds ++ gs)).vars pv)
    (hps : before = pa ++ pv) (hb : Below W.heap.size W W')
    (hok : ∀ (j : Nat) (t : TypeId) (r : Value), f.resultTypes[j]? = some t → (v.resultList f.resultTypes.size)[j]? = some r → Value.okWide P W' .any 0 t r) :
    s.post enc P f apart fresh handsOn again W args v W' := by
  have hlt : ∀ p ∈ before, p.block < W.heap.size := fun p hp => hW.lt p hp
  have hold : ∀ p ∈ before, (fun b => decide (b < W.heap.size)) p.block = true := fun p hp => by simpa using hlt p hp
  refine ⟨ds, gs, before, [], pa, pv, hW, hres _ _ _, hargs _ hold, hvars _ hold, World.keptBut_mono (fun p hp => ⟨hp, ?_⟩) (hb.frame (· ∈ before)), fun _ => ?_⟩
  · rw [hps, List.mem_append] at hp
    exact Or.inr hp
  · obtain ⟨_, _, _, _, _, hz, hn⟩ := hW
    refine ⟨hok, _, _, ([] ++ pa) ++ pv, ⟨[] ++ pa, pv, trodAll_append (hargs _ (fun _ _ => rfl)) (hres _ _ _), hvars _ (fun _ _ => rfl), rfl, ?_, ?_⟩, ?_⟩
    · intro b off hp
      have hin : MemPlace.cell b off ∈ before := by rw [hps]; simpa using hp
      rw [hb.frozen (hlt _ hin)]
      exact hz b off hin
    · intro ha
      have := hn ha
      rw [hps] at this
      simpa using this
    · intro p hp _
      rw [hps]
      simpa using hp
end

/-- the bounds of an int64 -/
theorem bd64 {x : Int} (h : (Lit.int .i64 x).wf = true) : -9223372036854775808 ≤ x ∧ x ≤ 9223372036854775807 := by
  simp [Lit.wf, IntKind.min, IntKind.max, IntKind.signed, IntKind.bits] at h
  exact ⟨by omega, by omega⟩

end Go.Proofs.YtidelghgjibndaaGreat
namespace Go.Proofs.YtidelghgjibndaaGreat
set_option linter.unusedVariables false
open Go.ChangeShapes Go.WideShapes Go.ChangeAt Go.RowKit Go.Joins

theorem cells_of_int : Tryz.prog.cellsOf 3 = 1 := by kernel_rfl
theorem cells_of_int64 : Tryz.prog.cellsOf 2 = 1 := by kernel_rfl
theorem cells_of_meas : Tryz.prog.cellsOf 59 = 6 := by kernel_rfl
theorem cells_of_point : Tryz.prog.cellsOf 24 = 2 := by kernel_rfl

section
variable {H : Type} {enc : TypeId × Value → H} {W : World} {base : Nat} {spare : Nat → Bool} {held : Bool} {b0 : Nat}

set_option maxRecDepth 100000 in
theorem trod_meas {n : Nat} {c0 c1 c2 c3 c4 c5 : Value} {y : DataW H × List MemPlace} (h : DataW.trod enc Tryz.prog W base spare held n 59 [c0, c1, c2, c3, c4, c5] = some y) :
    ∃ a0 a1 a2 a3 a4 a5 : Int, c0 = .int .i64 a0 ∧ c1 = .int .i64 a1 ∧ c2 = .int .i64 a2 ∧ c3 = .int .i64 a3 ∧ c4 = .int .i64 a4 ∧ c5 = .int .i64 a5 ∧ y = (.agg [.lit (.int .i64 a0), .lit (.int .i64 a1), .lit (.int .i64 a2), .lit (.int .i64 a3), .lit (.int .i64 a4), .lit (.int .i64 a5)], []) ∧ (Lit.int .i64 a0).wf = true ∧ (Lit.int .i64 a1).wf = true ∧ (Lit.int .i64 a2).wf = true ∧ (Lit.int .i64 a3).wf = true ∧ (Lit.int .i64 a4).wf = true ∧ (Lit.int .i64 a5).wf = true := by
  obtain ⟨xs, m, _, hx, _, hlen, hg⟩ := DataW.trod_struct Tryz.underlying59 h
  match xs, hlen with
  | [y0, y1, y2, y3, y4, y5], _ =>
    have h0 : DataW.trod enc Tryz.prog W base spare held m 3 (([c0, c1, c2, c3, c4, c5].drop 0).take (Tryz.prog.cellsOf 3)) = some y0 := hg 0 _ rfl
    rw [cells_of_int] at h0
    have g0 : DataW.trod enc Tryz.prog W base spare held m 3 [c0] = some y0 := h0
    have h1 : DataW.trod enc Tryz.prog W base spare held m 2 (([c0, c1, c2, c3, c4, c5].drop 1).take (Tryz.prog.cellsOf 2)) = some y1 := hg 1 _ rfl
    rw [cells_of_int64] at h1
    have g1 : DataW.trod enc Tryz.prog W base spare held m 2 [c1] = some y1 := h1
    have h2 : DataW.trod enc Tryz.prog W base spare held m 2 (([c0, c1, c2, c3, c4, c5].drop 2).take (Tryz.prog.cellsOf 2)) = some y2 := hg 2 _ rfl
    rw [cells_of_int64] at h2
    have g2 : DataW.trod enc Tryz.prog W base spare held m 2 [c2] = some y2 := h2
    have h3 : DataW.trod enc Tryz.prog W base spare held m 2 (([c0, c1, c2, c3, c4, c5].drop 3).take (Tryz.prog.cellsOf 2)) = some y3 := hg 3 _ rfl
    rw [cells_of_int64] at h3
    have g3 : DataW.trod enc Tryz.prog W base spare held m 2 [c3] = some y3 := h3
    have h4 : DataW.trod enc Tryz.prog W base spare held m 2 (([c0, c1, c2, c3, c4, c5].drop 4).take (Tryz.prog.cellsOf 2)) = some y4 := hg 4 _ rfl
    rw [cells_of_int64] at h4
    have g4 : DataW.trod enc Tryz.prog W base spare held m 2 [c4] = some y4 := h4
    have h5 : DataW.trod enc Tryz.prog W base spare held m 2 (([c0, c1, c2, c3, c4, c5].drop 5).take (Tryz.prog.cellsOf 2)) = some y5 := hg 5 _ rfl
    rw [cells_of_int64] at h5
    have g5 : DataW.trod enc Tryz.prog W base spare held m 2 [c5] = some y5 := h5
    obtain ⟨a0, e0, r0, w0⟩ := DataW.trod_int Tryz.underlying3 g0
    obtain rfl : c0 = .int .i64 a0 := by simpa using e0
    obtain ⟨a1, e1, r1, w1⟩ := DataW.trod_int Tryz.underlying2 g1
    obtain rfl : c1 = .int .i64 a1 := by simpa using e1
    obtain ⟨a2, e2, r2, w2⟩ := DataW.trod_int Tryz.underlying2 g2
    obtain rfl : c2 = .int .i64 a2 := by simpa using e2
    obtain ⟨a3, e3, r3, w3⟩ := DataW.trod_int Tryz.underlying2 g3
    obtain rfl : c3 = .int .i64 a3 := by simpa using e3
    obtain ⟨a4, e4, r4, w4⟩ := DataW.trod_int Tryz.underlying2 g4
    obtain rfl : c4 = .int .i64 a4 := by simpa using e4
    obtain ⟨a5, e5, r5, w5⟩ := DataW.trod_int Tryz.underlying2 g5
    obtain rfl : c5 = .int .i64 a5 := by simpa using e5
    subst r0 r1 r2 r3 r4 r5
    exact ⟨a0, a1, a2, a3, a4, a5, rfl, rfl, rfl, rfl, rfl, rfl, hx, w0, w1, w2, w3, w4, w5⟩
set_option maxRecDepth 100000 in
theorem trod_meas_mk {a0 a1 a2 a3 a4 a5 : Int} (m : Nat) (w0 : (Lit.int .i64 a0).wf = true) (w1 : (Lit.int .i64 a1).wf = true) (w2 : (Lit.int .i64 a2).wf = true) (w3 : (Lit.int .i64 a3).wf = true) (w4 : (Lit.int .i64 a4).wf = true) (w5 : (Lit.int .i64 a5).wf = true) :
    DataW.trod enc Tryz.prog W base spare held (m + 2) 59 [.int .i64 a0, .int .i64 a1, .int .i64 a2, .int .i64 a3, .int .i64 a4, .int .i64 a5] = some (.agg [.lit (.int .i64 a0), .lit (.int .i64 a1), .lit (.int .i64 a2), .lit (.int .i64 a3), .lit (.int .i64 a4), .lit (.int .i64 a5)], []) := by
  have i0 := trod_int_mk (enc := enc) (w := W) (base := base) (spare := spare) (held := held) m Tryz.underlying3 w0
  have i1 := trod_int_mk (enc := enc) (w := W) (base := base) (spare := spare) (held := held) m Tryz.underlying2 w1
  have i2 := trod_int_mk (enc := enc) (w := W) (base := base) (spare := spare) (held := held) m Tryz.underlying2 w2
  have i3 := trod_int_mk (enc := enc) (w := W) (base := base) (spare := spare) (held := held) m Tryz.underlying2 w3
  have i4 := trod_int_mk (enc := enc) (w := W) (base := base) (spare := spare) (held := held) m Tryz.underlying2 w4
  have i5 := trod_int_mk (enc := enc) (w := W) (base := base) (spare := spare) (held := held) m Tryz.underlying2 w5
  have := trod_struct_mk (enc := enc) (w := W) (base := base) (spare := spare) (held := held) (n := m + 1) (cs := [.int .i64 a0, .int .i64 a1, .int .i64 a2, .int .i64 a3, .int .i64 a4, .int .i64 a5])
    (xs := [(.lit (.int .i64 a0), []), (.lit (.int .i64 a1), []), (.lit (.int .i64 a2), []), (.lit (.int .i64 a3), []), (.lit (.int .i64 a4), []), (.lit (.int .i64 a5), [])]) Tryz.underlying59 (by rw [cells_of_meas]; rfl)
    (by simp [cells_of_int, cells_of_int64, i0, i1, i2, i3, i4, i5])
  simpa using this
set_option maxRecDepth 100000 in
theorem open_meas {v : Value} {d : DataW H} {p : List MemPlace} (hv : Value.okWide Tryz.prog W .any b0 59 v) (h : DataW.Trod enc Tryz.prog W base spare held 59 v d p) :
    ∃ a0 a1 a2 a3 a4 a5 : Int, v = .agg #[.int .i64 a0, .int .i64 a1, .int .i64 a2, .int .i64 a3, .int .i64 a4, .int .i64 a5] ∧ d = .agg [.lit (.int .i64 a0), .lit (.int .i64 a1), .lit (.int .i64 a2), .lit (.int .i64 a3), .lit (.int .i64 a4), .lit (.int .i64 a5)] ∧ p = [] ∧ (Lit.int .i64 a0).wf = true ∧ (Lit.int .i64 a1).wf = true ∧ (Lit.int .i64 a2).wf = true ∧ (Lit.int .i64 a3).wf = true ∧ (Lit.int .i64 a4).wf = true ∧ (Lit.int .i64 a5).wf = true := by
  obtain ⟨cs, rfl, hsz⟩ := okWide_struct Tryz.underlying59 hv
  obtain ⟨l⟩ := cs
  match l, hsz.trans cells_of_meas with
  | [c0, c1, c2, c3, c4, c5], _ =>
    obtain ⟨fuel, hf⟩ := h
    have hf' : DataW.trod enc Tryz.prog W base spare held fuel 59 [c0, c1, c2, c3, c4, c5] = some (d, p) := hf
    obtain ⟨a0, a1, a2, a3, a4, a5, rfl, rfl, rfl, rfl, rfl, rfl, hy, w0, w1, w2, w3, w4, w5⟩ := trod_meas hf'
    simp only [Prod.mk.injEq] at hy
    exact ⟨a0, a1, a2, a3, a4, a5, rfl, hy.1, hy.2, w0, w1, w2, w3, w4, w5⟩
set_option maxRecDepth 100000 in
theorem shut_meas {a0 a1 a2 a3 a4 a5 : Int} (w0 : (Lit.int .i64 a0).wf = true) (w1 : (Lit.int .i64 a1).wf = true) (w2 : (Lit.int .i64 a2).wf = true) (w3 : (Lit.int .i64 a3).wf = true) (w4 : (Lit.int .i64 a4).wf = true) (w5 : (Lit.int .i64 a5).wf = true) :
    DataW.Trod enc Tryz.prog W base spare held 59 (.agg #[.int .i64 a0, .int .i64 a1, .int .i64 a2, .int .i64 a3, .int .i64 a4, .int .i64 a5]) (.agg [.lit (.int .i64 a0), .lit (.int .i64 a1), .lit (.int .i64 a2), .lit (.int .i64 a3), .lit (.int .i64 a4), .lit (.int .i64 a5)]) [] :=
  ⟨2, trod_meas_mk (enc := enc) (W := W) (base := base) (spare := spare) (held := held) 0 w0 w1 w2 w3 w4 w5⟩
set_option maxRecDepth 100000 in
theorem trod_point {n : Nat} {c0 c1 : Value} {y : DataW H × List MemPlace} (h : DataW.trod enc Tryz.prog W base spare held n 24 [c0, c1] = some y) :
    ∃ a0 a1 : Int, c0 = .int .i64 a0 ∧ c1 = .int .i64 a1 ∧ y = (.agg [.lit (.int .i64 a0), .lit (.int .i64 a1)], []) ∧ (Lit.int .i64 a0).wf = true ∧ (Lit.int .i64 a1).wf = true := by
  obtain ⟨xs, m, _, hx, _, hlen, hg⟩ := DataW.trod_struct Tryz.underlying24 h
  match xs, hlen with
  | [y0, y1], _ =>
    have h0 : DataW.trod enc Tryz.prog W base spare held m 2 (([c0, c1].drop 0).take (Tryz.prog.cellsOf 2)) = some y0 := hg 0 _ rfl
    rw [cells_of_int64] at h0
    have g0 : DataW.trod enc Tryz.prog W base spare held m 2 [c0] = some y0 := h0
    have h1 : DataW.trod enc Tryz.prog W base spare held m 2 (([c0, c1].drop 1).take (Tryz.prog.cellsOf 2)) = some y1 := hg 1 _ rfl
    rw [cells_of_int64] at h1
    have g1 : DataW.trod enc Tryz.prog W base spare held m 2 [c1] = some y1 := h1
    obtain ⟨a0, e0, r0, w0⟩ := DataW.trod_int Tryz.underlying2 g0
    obtain rfl : c0 = .int .i64 a0 := by simpa using e0
    obtain ⟨a1, e1, r1, w1⟩ := DataW.trod_int Tryz.underlying2 g1
    obtain rfl : c1 = .int .i64 a1 := by simpa using e1
    subst r0 r1
    exact ⟨a0, a1, rfl, rfl, hx, w0, w1⟩
set_option maxRecDepth 100000 in
theorem trod_point_mk {a0 a1 : Int} (m : Nat) (w0 : (Lit.int .i64 a0).wf = true) (w1 : (Lit.int .i64 a1).wf = true) :
    DataW.trod enc Tryz.prog W base spare held (m + 2) 24 [.int .i64 a0, .int .i64 a1] = some (.agg [.lit (.int .i64 a0), .lit (.int .i64 a1)], []) := by
  have i0 := trod_int_mk (enc := enc) (w := W) (base := base) (spare := spare) (held := held) m Tryz.underlying2 w0
  have i1 := trod_int_mk (enc := enc) (w := W) (base := base) (spare := spare) (held := held) m Tryz.underlying2 w1
  have := trod_struct_mk (enc := enc) (w := W) (base := base) (spare := spare) (held := held) (n := m + 1) (cs := [.int .i64 a0, .int .i64 a1])
    (xs := [(.lit (.int .i64 a0), []), (.lit (.int .i64 a1), [])]) Tryz.underlying24 (by rw [cells_of_point]; rfl)
    (by simp [cells_of_int64, i0, i1])
  simpa using this
set_option maxRecDepth 100000 in
theorem open_point {v : Value} {d : DataW H} {p : List MemPlace} (hv : Value.okWide Tryz.prog W .any b0 24 v) (h : DataW.Trod enc Tryz.prog W base spare held 24 v d p) :
    ∃ a0 a1 : Int, v = .agg #[.int .i64 a0, .int .i64 a1] ∧ d = .agg [.lit (.int .i64 a0), .lit (.int .i64 a1)] ∧ p = [] ∧ (Lit.int .i64 a0).wf = true ∧ (Lit.int .i64 a1).wf = true := by
  obtain ⟨cs, rfl, hsz⟩ := okWide_struct Tryz.underlying24 hv
  obtain ⟨l⟩ := cs
  match l, hsz.trans cells_of_point with
  | [c0, c1], _ =>
    obtain ⟨fuel, hf⟩ := h
    have hf' : DataW.trod enc Tryz.prog W base spare held fuel 24 [c0, c1] = some (d, p) := hf
    obtain ⟨a0, a1, rfl, rfl, hy, w0, w1⟩ := trod_point hf'
    simp only [Prod.mk.injEq] at hy
    exact ⟨a0, a1, rfl, hy.1, hy.2, w0, w1⟩
set_option maxRecDepth 100000 in
theorem shut_point {a0 a1 : Int} (w0 : (Lit.int .i64 a0).wf = true) (w1 : (Lit.int .i64 a1).wf = true) :
    DataW.Trod enc Tryz.prog W base spare held 24 (.agg #[.int .i64 a0, .int .i64 a1]) (.agg [.lit (.int .i64 a0), .lit (.int .i64 a1)]) [] :=
  ⟨2, trod_point_mk (enc := enc) (W := W) (base := base) (spare := spare) (held := held) 0 w0 w1⟩
instance : Inhabited Ms := ⟨ms0⟩
set_option maxRecDepth 100000 in
/-- a parameter that is a slice of measurements -/
theorem open_list {v : Value} {d : DataW H} {p : List MemPlace} (hv : Value.okWide Tryz.prog W .any b0 33 v) (h : DataW.Trod enc Tryz.prog W 0 (fun _ => true) true 33 v d p) :
    ∃ l : List Ms, LstAt l v W := by
  have hok := hv
  simp only [Value.okWide, Tryz.underlying33, Cell.okWide] at hok
  obtain ⟨fuel, hf⟩ := h
  obtain ⟨ao, len, cap, rfl⟩ := okWide_slice Tryz.underlying33 hv
  rcases Go.Deep.open_slice Tryz.underlying33 hf with ⟨hc, _⟩ | ⟨a, len', cap', m, n, D, Pl, hc, _, hlc, _, hm, _, hi⟩
  · have hc' : [Value.slice ao len cap] = [Value.slice none 0 0] := hc
    exact ⟨[], .inl ⟨List.cons.inj hc' |>.1, rfl⟩⟩
  · have hc0 : [Value.slice ao len cap] = [Value.slice (some a) len' cap'] := hc
    have hc' := (List.cons.inj hc0).1
    clear hc0
    cases hc'
    simp only [if_true] at hm
    subst hm
    have hhas : len ≤ m ∧ (m : Int) ≤ IntKind.i64.max ∧ W.has Tryz.prog .any b0 a 59 m := by simpa [Cell.ok, Tryz.underlying33] using hok
    obtain ⟨_, hmax, _, hsp, row, cells, hsh, _⟩ := hhas
    have hlt : a.block < W.heap.size := by
      unfold World.shape? at hsh
      split at hsh
      · rename_i q
        exact (Array.getElem?_eq_some_iff.1 q).1
      · cases hsh
    have key : ∀ i, i < len → ∃ x : Ms, W.cell? ⟨a.block, a.off + i * 6, none⟩ = some (.int .i64 x.s) ∧ W.cell? ⟨a.block, a.off + i * 6 + 1, none⟩ = some (.int .i64 x.a) ∧ W.cell? ⟨a.block, a.off + i * 6 + 2, none⟩ = some (.int .i64 x.b) ∧ W.cell? ⟨a.block, a.off + i * 6 + 3, none⟩ = some (.int .i64 x.z) ∧ W.cell? ⟨a.block, a.off + i * 6 + 4, none⟩ = some (.int .i64 x.d) ∧ W.cell? ⟨a.block, a.off + i * 6 + 5, none⟩ = some (.int .i64 x.w) := by
      intro i hil
      obtain ⟨cs, hcs, ht⟩ := hi i (by omega)
      rw [cells_of_meas] at hcs
      obtain ⟨_, hl, hat⟩ := World.cells?_some hcs
      match cs, hl with
      | [c0, c1, c2, c3, c4, c5], _ =>
        obtain ⟨a0, a1, a2, a3, a4, a5, rfl, rfl, rfl, rfl, rfl, rfl, _⟩ := trod_meas ht
        have ad : ∀ j, (a.add (i * 6)).add j = ⟨a.block, a.off + i * 6 + j, none⟩ := fun j => by
          rw [Go.Deep.add_add]
          unfold Addr.add
          obtain ⟨ab, af, asp⟩ := a
          simp only at hsp
          subst hsp
          split
          · rename_i e
            simp only [Addr.mk.injEq, and_true, true_and]
            omega
          · simp only [Addr.mk.injEq, and_true, true_and]
            omega
        refine ⟨⟨a0, a1, a2, a3, a4, a5⟩, ?_, ?_, ?_, ?_, ?_, ?_⟩
        · have := hat 0 (by omega); rw [ad] at this; exact this
        · have := hat 1 (by omega); rw [ad] at this; exact this
        · have := hat 2 (by omega); rw [ad] at this; exact this
        · have := hat 3 (by omega); rw [ad] at this; exact this
        · have := hat 4 (by omega); rw [ad] at this; exact this
        · have := hat 5 (by omega); rw [ad] at this; exact this
    obtain ⟨f, hf⟩ := Go.Deep.choose_lt key
    have hlen : ((List.range len).map f).length = len := by simp
    have hn : ∀ i, i < len → nth ((List.range len).map f) i = f i := fun i hil => by
      unfold nth
      rw [List.getD_eq_getElem?_getD, List.getElem?_map, List.getElem?_range hil]
      rfl
    obtain ⟨ab, af, asp⟩ := a
    simp only at hsp
    subst hsp
    refine ⟨(List.range len).map f, .inr ⟨ab, af, m, by rw [hlen], by rw [hlen]; exact hlc, by simp [IntKind.max, IntKind.signed, IntKind.bits] at hmax; omega, hlt, ?_, ?_, ?_, ?_, ?_, ?_⟩⟩
    all_goals
      intro i hil
      rw [hlen] at hil
      rw [hn i hil]
    · exact (hf i hil).1
    · exact (hf i hil).2.1
    · exact (hf i hil).2.2.1
    · exact (hf i hil).2.2.2.1
    · exact (hf i hil).2.2.2.2.1
    · exact (hf i hil).2.2.2.2.2
end
end Go.Proofs.YtidelghgjibndaaGreat
namespace Go.Proofs.YtidelghgjibndaaGreat
set_option linter.unusedVariables false
open Go.ChangeShapes Go.WideShapes Go.ChangeAt Go.RowKit Go.Joins

/-- a report -/
structure Rp where
  s : Int
  k : Int
  x : Int
  y : Int
  v : Int
  b : Int
  wt : Int
  t : Int
def rp0 : Rp := ⟨0, 0, 0, 0, 0, 0, 0, 0⟩
def nthR (l : List Rp) (i : Nat) : Rp := l.getD i rp0
structure RpAt (l : List Rp) (b o : Nat) (w : World) : Prop where
  lt : b < w.heap.size
  c0 : ∀ i, i < l.length → w.cell? ⟨b, o + i * 8, none⟩ = some (.int .i64 (nthR l i).s)
  c1 : ∀ i, i < l.length → w.cell? ⟨b, o + i * 8 + 1, none⟩ = some (.int .u8 (nthR l i).k)
  c2 : ∀ i, i < l.length → w.cell? ⟨b, o + i * 8 + 2, none⟩ = some (.int .i64 (nthR l i).x)
  c3 : ∀ i, i < l.length → w.cell? ⟨b, o + i * 8 + 3, none⟩ = some (.int .i64 (nthR l i).y)
  c4 : ∀ i, i < l.length → w.cell? ⟨b, o + i * 8 + 4, none⟩ = some (.int .i64 (nthR l i).v)
  c5 : ∀ i, i < l.length → w.cell? ⟨b, o + i * 8 + 5, none⟩ = some (.int .i64 (nthR l i).b)
  c6 : ∀ i, i < l.length → w.cell? ⟨b, o + i * 8 + 6, none⟩ = some (.int .i64 (nthR l i).wt)
  c7 : ∀ i, i < l.length → w.cell? ⟨b, o + i * 8 + 7, none⟩ = some (.int .i64 (nthR l i).t)
theorem RpAt.below {l : List Rp} {b o : Nat} {w w' : World} (h : RpAt l b o w) (hb : Below w.heap.size w w') : RpAt l b o w' :=
  ⟨Nat.lt_of_lt_of_le h.lt hb.size, fun i hi => (hb.cell (p := ⟨b, o + i * 8, none⟩) h.lt).trans (h.c0 i hi), fun i hi => (hb.cell (p := ⟨b, o + i * 8 + 1, none⟩) h.lt).trans (h.c1 i hi), fun i hi => (hb.cell (p := ⟨b, o + i * 8 + 2, none⟩) h.lt).trans (h.c2 i hi), fun i hi => (hb.cell (p := ⟨b, o + i * 8 + 3, none⟩) h.lt).trans (h.c3 i hi), fun i hi => (hb.cell (p := ⟨b, o + i * 8 + 4, none⟩) h.lt).trans (h.c4 i hi), fun i hi => (hb.cell (p := ⟨b, o + i * 8 + 5, none⟩) h.lt).trans (h.c5 i hi), fun i hi => (hb.cell (p := ⟨b, o + i * 8 + 6, none⟩) h.lt).trans (h.c6 i hi), fun i hi => (hb.cell (p := ⟨b, o + i * 8 + 7, none⟩) h.lt).trans (h.c7 i hi)⟩
/-- a value is a slice that holds these reports -/
def RlAt (l : List Rp) (v : Value) (w : World) : Prop := (v = .slice none 0 0 ∧ l = []) ∨ ∃ b o cap, v = .slice (some ⟨b, o, none⟩) l.length cap ∧ l.length ≤ cap ∧ cap ≤ 9223372036854775807 ∧ RpAt l b o w
theorem RlAt.below {l : List Rp} {v : Value} {w w' : World} (h : RlAt l v w) (hb : Below w.heap.size w w') : RlAt l v w' := by
  rcases h with h | ⟨b, o, cap, h1, h2, h3, h4⟩
  · exact .inl h
  · exact .inr ⟨b, o, cap, h1, h2, h3, h4.below hb⟩
theorem rl_form {l : List Rp} {v : Value} {w : World} (h : RlAt l v w) : ∃ p cap, v = .slice p l.length cap := by
  rcases h with ⟨rfl, rfl⟩ | ⟨b, o, cap, rfl, _⟩
  · exact ⟨none, 0, rfl⟩
  · exact ⟨_, _, rfl⟩
theorem rl_at {l : List Rp} {p : Option Addr} {cap : Nat} {w : World} (h : RlAt l (.slice p l.length cap) w) {k : Nat} (q : k < l.length) : ∃ b o, p = some ⟨b, o, none⟩ ∧ l.length ≤ cap ∧ cap ≤ 9223372036854775807 ∧ RpAt l b o w := by
  rcases h with ⟨_, rfl⟩ | ⟨b, o, cap', e, h2, h3, h4⟩
  · exact absurd q (by simp)
  · injection e with e1 e2 e3
    subst e3
    exact ⟨b, o, e1, h2, h3, h4⟩
theorem cells_of_api_ReportKind : Tryz.prog.cellsOf 66 = 1 := by kernel_rfl
theorem cells_of_report : Tryz.prog.cellsOf 68 = 8 := by kernel_rfl
theorem cells_of_box : Tryz.prog.cellsOf 26 = 4 := by kernel_rfl

section
variable {H : Type} {enc : TypeId × Value → H} {W : World} {base : Nat} {spare : Nat → Bool} {held : Bool} {b0 : Nat}

set_option maxRecDepth 100000 in
theorem trod_report {n : Nat} {c0 c1 c2 c3 c4 c5 c6 c7 : Value} {y : DataW H × List MemPlace} (h : DataW.trod enc Tryz.prog W base spare held n 68 [c0, c1, c2, c3, c4, c5, c6, c7] = some y) :
    ∃ a0 a1 a2 a3 a4 a5 a6 a7 : Int, c0 = .int .i64 a0 ∧ c1 = .int .u8 a1 ∧ c2 = .int .i64 a2 ∧ c3 = .int .i64 a3 ∧ c4 = .int .i64 a4 ∧ c5 = .int .i64 a5 ∧ c6 = .int .i64 a6 ∧ c7 = .int .i64 a7 ∧ y = (.agg [.lit (.int .i64 a0), .lit (.int .u8 a1), .agg [.lit (.int .i64 a2), .lit (.int .i64 a3)], .lit (.int .i64 a4), .lit (.int .i64 a5), .lit (.int .i64 a6), .lit (.int .i64 a7)], []) ∧ (Lit.int .i64 a0).wf = true ∧ (Lit.int .u8 a1).wf = true ∧ (Lit.int .i64 a2).wf = true ∧ (Lit.int .i64 a3).wf = true ∧ (Lit.int .i64 a4).wf = true ∧ (Lit.int .i64 a5).wf = true ∧ (Lit.int .i64 a6).wf = true ∧ (Lit.int .i64 a7).wf = true := by
  obtain ⟨xs, m, _, hx, _, hlen, hg⟩ := DataW.trod_struct Tryz.underlying68 h
  match xs, hlen with
  | [y0, y1, y2, y3, y4, y5, y6], _ =>
    have h0 : DataW.trod enc Tryz.prog W base spare held m 3 (([c0, c1, c2, c3, c4, c5, c6, c7].drop 0).take (Tryz.prog.cellsOf 3)) = some y0 := hg 0 _ rfl
    rw [cells_of_int] at h0
    have g0 : DataW.trod enc Tryz.prog W base spare held m 3 [c0] = some y0 := h0
    have h1 : DataW.trod enc Tryz.prog W base spare held m 66 (([c0, c1, c2, c3, c4, c5, c6, c7].drop 1).take (Tryz.prog.cellsOf 66)) = some y1 := hg 1 _ rfl
    rw [cells_of_api_ReportKind] at h1
    have g1 : DataW.trod enc Tryz.prog W base spare held m 66 [c1] = some y1 := h1
    have h2 : DataW.trod enc Tryz.prog W base spare held m 24 (([c0, c1, c2, c3, c4, c5, c6, c7].drop 2).take (Tryz.prog.cellsOf 24)) = some y2 := hg 2 _ rfl
    rw [cells_of_point] at h2
    have g2 : DataW.trod enc Tryz.prog W base spare held m 24 [c2, c3] = some y2 := h2
    have h3 : DataW.trod enc Tryz.prog W base spare held m 2 (([c0, c1, c2, c3, c4, c5, c6, c7].drop 4).take (Tryz.prog.cellsOf 2)) = some y3 := hg 3 _ rfl
    rw [cells_of_int64] at h3
    have g3 : DataW.trod enc Tryz.prog W base spare held m 2 [c4] = some y3 := h3
    have h4 : DataW.trod enc Tryz.prog W base spare held m 2 (([c0, c1, c2, c3, c4, c5, c6, c7].drop 5).take (Tryz.prog.cellsOf 2)) = some y4 := hg 4 _ rfl
    rw [cells_of_int64] at h4
    have g4 : DataW.trod enc Tryz.prog W base spare held m 2 [c5] = some y4 := h4
    have h5 : DataW.trod enc Tryz.prog W base spare held m 2 (([c0, c1, c2, c3, c4, c5, c6, c7].drop 6).take (Tryz.prog.cellsOf 2)) = some y5 := hg 5 _ rfl
    rw [cells_of_int64] at h5
    have g5 : DataW.trod enc Tryz.prog W base spare held m 2 [c6] = some y5 := h5
    have h6 : DataW.trod enc Tryz.prog W base spare held m 2 (([c0, c1, c2, c3, c4, c5, c6, c7].drop 7).take (Tryz.prog.cellsOf 2)) = some y6 := hg 6 _ rfl
    rw [cells_of_int64] at h6
    have g6 : DataW.trod enc Tryz.prog W base spare held m 2 [c7] = some y6 := h6
    obtain ⟨a0, e0, r0, w0⟩ := DataW.trod_int Tryz.underlying3 g0
    obtain rfl : c0 = .int .i64 a0 := by simpa using e0
    obtain ⟨a1, e1, r1, w1⟩ := DataW.trod_int Tryz.underlying66 g1
    obtain rfl : c1 = .int .u8 a1 := by simpa using e1
    obtain ⟨a2, a3, rfl, rfl, r2, w2, w3⟩ := trod_point g2
    obtain ⟨a4, e4, r3, w4⟩ := DataW.trod_int Tryz.underlying2 g3
    obtain rfl : c4 = .int .i64 a4 := by simpa using e4
    obtain ⟨a5, e5, r4, w5⟩ := DataW.trod_int Tryz.underlying2 g4
    obtain rfl : c5 = .int .i64 a5 := by simpa using e5
    obtain ⟨a6, e6, r5, w6⟩ := DataW.trod_int Tryz.underlying2 g5
    obtain rfl : c6 = .int .i64 a6 := by simpa using e6
    obtain ⟨a7, e7, r6, w7⟩ := DataW.trod_int Tryz.underlying2 g6
    obtain rfl : c7 = .int .i64 a7 := by simpa using e7
    subst r0 r1 r2 r3 r4 r5 r6
    exact ⟨a0, a1, a2, a3, a4, a5, a6, a7, rfl, rfl, rfl, rfl, rfl, rfl, rfl, rfl, hx, w0, w1, w2, w3, w4, w5, w6, w7⟩
set_option maxRecDepth 100000 in
theorem trod_box {n : Nat} {c0 c1 c2 c3 : Value} {y : DataW H × List MemPlace} (h : DataW.trod enc Tryz.prog W base spare held n 26 [c0, c1, c2, c3] = some y) :
    ∃ a0 a1 a2 a3 : Int, c0 = .int .i64 a0 ∧ c1 = .int .i64 a1 ∧ c2 = .int .i64 a2 ∧ c3 = .int .i64 a3 ∧ y = (.agg [.agg [.lit (.int .i64 a0), .lit (.int .i64 a1)], .lit (.int .i64 a2), .lit (.int .i64 a3)], []) ∧ (Lit.int .i64 a0).wf = true ∧ (Lit.int .i64 a1).wf = true ∧ (Lit.int .i64 a2).wf = true ∧ (Lit.int .i64 a3).wf = true := by
  obtain ⟨xs, m, _, hx, _, hlen, hg⟩ := DataW.trod_struct Tryz.underlying26 h
  match xs, hlen with
  | [y0, y1, y2], _ =>
    have h0 : DataW.trod enc Tryz.prog W base spare held m 24 (([c0, c1, c2, c3].drop 0).take (Tryz.prog.cellsOf 24)) = some y0 := hg 0 _ rfl
    rw [cells_of_point] at h0
    have g0 : DataW.trod enc Tryz.prog W base spare held m 24 [c0, c1] = some y0 := h0
    have h1 : DataW.trod enc Tryz.prog W base spare held m 2 (([c0, c1, c2, c3].drop 2).take (Tryz.prog.cellsOf 2)) = some y1 := hg 1 _ rfl
    rw [cells_of_int64] at h1
    have g1 : DataW.trod enc Tryz.prog W base spare held m 2 [c2] = some y1 := h1
    have h2 : DataW.trod enc Tryz.prog W base spare held m 2 (([c0, c1, c2, c3].drop 3).take (Tryz.prog.cellsOf 2)) = some y2 := hg 2 _ rfl
    rw [cells_of_int64] at h2
    have g2 : DataW.trod enc Tryz.prog W base spare held m 2 [c3] = some y2 := h2
    obtain ⟨a0, a1, rfl, rfl, r0, w0, w1⟩ := trod_point g0
    obtain ⟨a2, e2, r1, w2⟩ := DataW.trod_int Tryz.underlying2 g1
    obtain rfl : c2 = .int .i64 a2 := by simpa using e2
    obtain ⟨a3, e3, r2, w3⟩ := DataW.trod_int Tryz.underlying2 g2
    obtain rfl : c3 = .int .i64 a3 := by simpa using e3
    subst r0 r1 r2
    exact ⟨a0, a1, a2, a3, rfl, rfl, rfl, rfl, hx, w0, w1, w2, w3⟩
set_option maxRecDepth 100000 in
theorem trod_box_mk {a0 a1 a2 a3 : Int} (m : Nat) (w0 : (Lit.int .i64 a0).wf = true) (w1 : (Lit.int .i64 a1).wf = true) (w2 : (Lit.int .i64 a2).wf = true) (w3 : (Lit.int .i64 a3).wf = true) :
    DataW.trod enc Tryz.prog W base spare held (m + 3) 26 [.int .i64 a0, .int .i64 a1, .int .i64 a2, .int .i64 a3] = some (.agg [.agg [.lit (.int .i64 a0), .lit (.int .i64 a1)], .lit (.int .i64 a2), .lit (.int .i64 a3)], []) := by
  have i0 := trod_point_mk (enc := enc) (W := W) (base := base) (spare := spare) (held := held) m w0 w1
  have i1 := trod_int_mk (enc := enc) (w := W) (base := base) (spare := spare) (held := held) (m + 1) Tryz.underlying2 w2
  have i2 := trod_int_mk (enc := enc) (w := W) (base := base) (spare := spare) (held := held) (m + 1) Tryz.underlying2 w3
  have := trod_struct_mk (enc := enc) (w := W) (base := base) (spare := spare) (held := held) (n := m + 2) (cs := [.int .i64 a0, .int .i64 a1, .int .i64 a2, .int .i64 a3])
    (xs := [(.agg [.lit (.int .i64 a0), .lit (.int .i64 a1)], []), (.lit (.int .i64 a2), []), (.lit (.int .i64 a3), [])]) Tryz.underlying26 (by rw [cells_of_box]; rfl)
    (by simp [cells_of_int64, cells_of_point, i0, i1, i2])
  simpa using this
set_option maxRecDepth 100000 in
theorem open_box {v : Value} {d : DataW H} {p : List MemPlace} (hv : Value.okWide Tryz.prog W .any b0 26 v) (h : DataW.Trod enc Tryz.prog W base spare held 26 v d p) :
    ∃ a0 a1 a2 a3 : Int, v = .agg #[.int .i64 a0, .int .i64 a1, .int .i64 a2, .int .i64 a3] ∧ d = .agg [.agg [.lit (.int .i64 a0), .lit (.int .i64 a1)], .lit (.int .i64 a2), .lit (.int .i64 a3)] ∧ p = [] ∧ (Lit.int .i64 a0).wf = true ∧ (Lit.int .i64 a1).wf = true ∧ (Lit.int .i64 a2).wf = true ∧ (Lit.int .i64 a3).wf = true := by
  obtain ⟨cs, rfl, hsz⟩ := okWide_struct Tryz.underlying26 hv
  obtain ⟨l⟩ := cs
  match l, hsz.trans cells_of_box with
  | [c0, c1, c2, c3], _ =>
    obtain ⟨fuel, hf⟩ := h
    have hf' : DataW.trod enc Tryz.prog W base spare held fuel 26 [c0, c1, c2, c3] = some (d, p) := hf
    obtain ⟨a0, a1, a2, a3, rfl, rfl, rfl, rfl, hy, w0, w1, w2, w3⟩ := trod_box hf'
    simp only [Prod.mk.injEq] at hy
    exact ⟨a0, a1, a2, a3, rfl, hy.1, hy.2, w0, w1, w2, w3⟩
set_option maxRecDepth 100000 in
theorem shut_box {a0 a1 a2 a3 : Int} (w0 : (Lit.int .i64 a0).wf = true) (w1 : (Lit.int .i64 a1).wf = true) (w2 : (Lit.int .i64 a2).wf = true) (w3 : (Lit.int .i64 a3).wf = true) :
    DataW.Trod enc Tryz.prog W base spare held 26 (.agg #[.int .i64 a0, .int .i64 a1, .int .i64 a2, .int .i64 a3]) (.agg [.agg [.lit (.int .i64 a0), .lit (.int .i64 a1)], .lit (.int .i64 a2), .lit (.int .i64 a3)]) [] :=
  ⟨3, trod_box_mk (enc := enc) (W := W) (base := base) (spare := spare) (held := held) 0 w0 w1 w2 w3⟩
instance : Inhabited Rp := ⟨rp0⟩
set_option maxRecDepth 100000 in
/-- a parameter that is a slice of reports -/
theorem open_reports {v : Value} {d : DataW H} {p : List MemPlace} (hv : Value.okWide Tryz.prog W .any b0 22 v) (h : DataW.Trod enc Tryz.prog W 0 (fun _ => true) true 22 v d p) :
    ∃ l : List Rp, RlAt l v W ∧ ∀ i, i < l.length → 0 ≤ (nthR l i).k ∧ (nthR l i).k ≤ 255 := by
  have hok := hv
  simp only [Value.okWide, Tryz.underlying22, Cell.okWide] at hok
  obtain ⟨fuel, hf⟩ := h
  obtain ⟨ao, len, cap, rfl⟩ := okWide_slice Tryz.underlying22 hv
  rcases Go.Deep.open_slice Tryz.underlying22 hf with ⟨hc, _⟩ | ⟨a, len', cap', m, n, D, Pl, hc, _, hlc, _, hm, _, hi⟩
  · have hc' : [Value.slice ao len cap] = [Value.slice none 0 0] := hc
    exact ⟨[], .inl ⟨List.cons.inj hc' |>.1, rfl⟩, fun i hi => absurd hi (by simp)⟩
  · have hc0 : [Value.slice ao len cap] = [Value.slice (some a) len' cap'] := hc
    have hc' := (List.cons.inj hc0).1
    clear hc0
    cases hc'
    simp only [if_true] at hm
    subst hm
    have hhas : len ≤ m ∧ (m : Int) ≤ IntKind.i64.max ∧ W.has Tryz.prog .any b0 a 68 m := by simpa [Cell.ok, Tryz.underlying22] using hok
    obtain ⟨_, hmax, _, hsp, row, cells, hsh, _⟩ := hhas
    have hlt : a.block < W.heap.size := by
      unfold World.shape? at hsh
      split at hsh
      · rename_i q
        exact (Array.getElem?_eq_some_iff.1 q).1
      · cases hsh
    have key : ∀ i, i < len → ∃ x : Rp, (0 ≤ x.k ∧ x.k ≤ 255) ∧ W.cell? ⟨a.block, a.off + i * 8, none⟩ = some (.int .i64 x.s) ∧ W.cell? ⟨a.block, a.off + i * 8 + 1, none⟩ = some (.int .u8 x.k) ∧ W.cell? ⟨a.block, a.off + i * 8 + 2, none⟩ = some (.int .i64 x.x) ∧ W.cell? ⟨a.block, a.off + i * 8 + 3, none⟩ = some (.int .i64 x.y) ∧ W.cell? ⟨a.block, a.off + i * 8 + 4, none⟩ = some (.int .i64 x.v) ∧ W.cell? ⟨a.block, a.off + i * 8 + 5, none⟩ = some (.int .i64 x.b) ∧ W.cell? ⟨a.block, a.off + i * 8 + 6, none⟩ = some (.int .i64 x.wt) ∧ W.cell? ⟨a.block, a.off + i * 8 + 7, none⟩ = some (.int .i64 x.t) := by
      intro i hil
      obtain ⟨cs, hcs, ht⟩ := hi i (by omega)
      rw [cells_of_report] at hcs
      obtain ⟨_, hl, hat⟩ := World.cells?_some hcs
      match cs, hl with
      | [c0, c1, c2, c3, c4, c5, c6, c7], _ =>
        obtain ⟨a0, a1, a2, a3, a4, a5, a6, a7, rfl, rfl, rfl, rfl, rfl, rfl, rfl, rfl, _, _, hk, _⟩ := trod_report ht
        have ad : ∀ j, (a.add (i * 8)).add j = ⟨a.block, a.off + i * 8 + j, none⟩ := fun j => by
          rw [Go.Deep.add_add]
          unfold Addr.add
          obtain ⟨ab, af, asp⟩ := a
          simp only at hsp
          subst hsp
          split
          · rename_i e
            simp only [Addr.mk.injEq, and_true, true_and]
            omega
          · simp only [Addr.mk.injEq, and_true, true_and]
            omega
        have hk' : 0 ≤ a1 ∧ a1 ≤ 255 := by simp [Lit.wf, IntKind.min, IntKind.max, IntKind.signed, IntKind.bits] at hk; omega
        refine ⟨⟨a0, a1, a2, a3, a4, a5, a6, a7⟩, hk', ?_, ?_, ?_, ?_, ?_, ?_, ?_, ?_⟩
        · have := hat 0 (by omega); rw [ad] at this; exact this
        · have := hat 1 (by omega); rw [ad] at this; exact this
        · have := hat 2 (by omega); rw [ad] at this; exact this
        · have := hat 3 (by omega); rw [ad] at this; exact this
        · have := hat 4 (by omega); rw [ad] at this; exact this
        · have := hat 5 (by omega); rw [ad] at this; exact this
        · have := hat 6 (by omega); rw [ad] at this; exact this
        · have := hat 7 (by omega); rw [ad] at this; exact this
    obtain ⟨f, hf⟩ := Go.Deep.choose_lt key
    have hlen : ((List.range len).map f).length = len := by simp
    have hn : ∀ i, i < len → nthR ((List.range len).map f) i = f i := fun i hil => by
      unfold nthR
      rw [List.getD_eq_getElem?_getD, List.getElem?_map, List.getElem?_range hil]
      rfl
    obtain ⟨ab, af, asp⟩ := a
    simp only at hsp
    subst hsp
    refine ⟨(List.range len).map f, .inr ⟨ab, af, m, by rw [hlen], by rw [hlen]; exact hlc, by simp [IntKind.max, IntKind.signed, IntKind.bits] at hmax; omega, hlt, ?_, ?_, ?_, ?_, ?_, ?_, ?_, ?_⟩, fun i hil => ?_⟩
    rotate_left 8
    · rw [hlen] at hil
      rw [hn i hil]
      exact (hf i hil).1
    all_goals
      intro i hil
      rw [hlen] at hil
      rw [hn i hil]
    · exact (hf i hil).2.1
    · exact (hf i hil).2.2.1
    · exact (hf i hil).2.2.2.1
    · exact (hf i hil).2.2.2.2.1
    · exact (hf i hil).2.2.2.2.2.1
    · exact (hf i hil).2.2.2.2.2.2.1
    · exact (hf i hil).2.2.2.2.2.2.2.1
    · exact (hf i hil).2.2.2.2.2.2.2.2
end
end Go.Proofs.YtidelghgjibndaaGreat
namespace Go.Proofs.YtidelghgjibndaaGreat
set_option linter.unusedVariables false
open Go.RowKit
def cvM (m : S41.Ms) : Ms := ⟨m.s, m.a, m.b, m.z, m.d, m.w⟩
def rowsN (r : Rp) (cx cy bx b2 : Int) : List Ms × Int := ((S41.rowsF r.s r.k r.x r.y r.v r.b r.wt r.t cx cy bx b2).1.map cvM, (S41.rowsF r.s r.k r.x r.y r.v r.b r.wt r.t cx cy bx b2).2)
def agN (r : Rp) (px py : Int) : Bool := S41.agrB r.s r.k r.x r.y r.v r.b r.wt r.t px py
def inN (cx cy bx b2 px py : Int) : Bool := S41.insB cx cy bx b2 px py
theorem msC_cv (l : List S41.Ms) : l.flatMap S41.msV = msC (l.map cvM) := by
  unfold msC
  rw [List.flatMap_map]
  rfl
/-- the slice that Rows answers: in a block of its own -/
def RowN (w : World) (l : List Ms) (u : Value) (w' : World) : Prop :=
  (l = [] ∧ u = .slice none 0 0) ∨ ∃ k : Nat, l ≠ [] ∧ u = .slice (some ⟨k, 0, none⟩) l.length l.length ∧ w.heap.size ≤ k ∧ w'.heap[k]? = some (.cells (msC l).toArray 59)
theorem rowsN_any (r : Rp) (cx cy bx b2 : Int) (w : World) (k0 : 0 ≤ r.k) (k1 : r.k ≤ 255) :
    Calls Tryz.prog 24 #[.agg #[.int .i64 r.s, .int .u8 r.k, .int .i64 r.x, .int .i64 r.y, .int .i64 r.v, .int .i64 r.b, .int .i64 r.wt, .int .i64 r.t], .agg #[.int .i64 cx, .int .i64 cy, .int .i64 bx, .int .i64 b2]] w fun e w' => ∃ u, e = .returned (.tuple #[u, .int .i64 (rowsN r cx cy bx b2).2]) ∧ RowN w (rowsN r cx cy bx b2).1 u w' ∧ Below w.heap.size w w' :=
  (S41.rows_any r.s r.k r.x r.y r.v r.b r.wt r.t cx cy bx b2 w k0 k1).mono fun e w' ⟨u, h1, h2, h3⟩ => by
    refine ⟨u, h1, ?_, h3⟩
    unfold rowsN RowN
    rcases h2 with ⟨a, b⟩ | ⟨k, a, b, c, d⟩
    · exact .inl ⟨by simp only [a, List.map_nil], b⟩
    · exact .inr ⟨k, by simpa using a, by simpa using b, c, by rw [d, msC_cv]⟩
theorem rowsN_len (r : Rp) (cx cy bx b2 : Int) : (rowsN r cx cy bx b2).1.length ≤ 2 := by
  unfold rowsN
  rw [List.length_map]
  rcases S41.rows_small (s := r.s) (k := r.k) (x := r.x) (y := r.y) (v := r.v) (b := r.b) (wt := r.wt) (t := r.t) (cx := cx) (cy := cy) (bx := bx) (b2 := b2) with ⟨_, h⟩ | ⟨_, ⟨m, h, _⟩ | ⟨_, m, n, h, _⟩⟩ <;> rw [h] <;> simp
theorem rowsN_bad {r : Rp} {cx cy bx b2 : Int} (h0 : (rowsN r cx cy bx b2).2 ≠ 0) : (rowsN r cx cy bx b2).1 = [] := by
  unfold rowsN at *
  simp only at *
  rcases S41.rows_small (s := r.s) (k := r.k) (x := r.x) (y := r.y) (v := r.v) (b := r.b) (wt := r.wt) (t := r.t) (cx := cx) (cy := cy) (bx := bx) (b2 := b2) with ⟨_, h⟩ | ⟨h, _⟩
  · rw [h]; rfl
  · exact absurd h h0
theorem rowsN_good {r : Rp} {cx cy bx b2 : Int} (h0 : (rowsN r cx cy bx b2).2 = 0) : (rowsN r cx cy bx b2).1 ≠ [] := by
  unfold rowsN at *
  simp only at *
  rcases S41.rows_small (s := r.s) (k := r.k) (x := r.x) (y := r.y) (v := r.v) (b := r.b) (wt := r.wt) (t := r.t) (cx := cx) (cy := cy) (bx := bx) (b2 := b2) with ⟨h, _⟩ | ⟨_, ⟨m, h, _⟩ | ⟨_, m, n, h, _⟩⟩
  · exact absurd h0 h
  · rw [h]; simp
  · rw [h]; simp
theorem rowsN_src {r : Rp} {cx cy bx b2 : Int} (h0 : (rowsN r cx cy bx b2).2 = 0) : 1 ≤ r.s ∧ ∀ m ∈ (rowsN r cx cy bx b2).1, m.s = r.s := by
  unfold rowsN S41.rowsF at *
  simp only at *
  split at h0
  · rename_i h
    refine ⟨(S41.check_bd h).1.1, ?_⟩
    rw [if_pos h]
    split at h0
    · rename_i h1
      rw [if_pos h1]
      split at h0
      · rename_i h2
        rw [if_pos h2]
        intro m hm
        simp only [List.map_cons, List.map_nil, List.mem_cons, List.not_mem_nil, or_false] at hm
        rcases hm with rfl | rfl <;> rfl
      · rename_i h2
        rw [if_neg h2]
        split at h0
        · rename_i h3
          rw [if_pos h3]
          split at h0
          · cases h0
          · rename_i h4
            rw [if_neg h4]
            intro m hm
            simp only [List.map_cons, List.map_nil, List.mem_cons, List.not_mem_nil, or_false] at hm
            rcases hm with rfl
            rfl
        · rename_i h3
          rw [if_neg h3]
          intro m hm
          simp only [List.map_cons, List.map_nil, List.mem_cons, List.not_mem_nil, or_false] at hm
          rcases hm with rfl
          rfl
    · cases h0
  · rename_i h
    exact absurd h0 h
theorem rowsN_cert {r : Rp} {cx cy bx b2 px py : Int} (h0 : (rowsN r cx cy bx b2).2 = 0) (ha : agN r px py = true) (hi : inN cx cy bx b2 px py = true) : ∀ m ∈ (rowsN r cx cy bx b2).1, HoldP m px py := by
  unfold rowsN at *
  simp only at *
  have key : ∀ n : S41.Ms, S41.CertM r.s r.wt px py n → HoldP (cvM n) px py := fun n hn => hn.1
  rcases S41.rows_cert h0 ha hi with ⟨m, h, h1⟩ | ⟨m, n, h, h1, h2⟩
  · rw [h]
    intro x hx
    simp only [List.map_cons, List.map_nil, List.mem_cons, List.not_mem_nil, or_false] at hx
    rw [hx]; exact key m h1
  · rw [h]
    intro x hx
    simp only [List.map_cons, List.map_nil, List.mem_cons, List.not_mem_nil, or_false] at hx
    rcases hx with rfl | rfl
    · exact key m h1
    · exact key n h2
theorem msC_one : ∀ (l : List Ms), ∀ u ∈ msC l, u.oneCell' = true := by
  intro l u hu
  unfold msC at hu
  obtain ⟨m, _, hm⟩ := List.mem_flatMap.1 hu
  simp only [List.mem_cons, List.not_mem_nil, or_false] at hm
  rcases hm with rfl | rfl | rfl | rfl | rfl | rfl <;> rfl
theorem wpList_oml {ops : Array Oper} {rest : List Oper} {o : Oper} {a : Act} {Q : Exit → Act → World → Prop} (hgd : o.guard = none) (s x : Operand)
    (ho : o.op = .call { callee := .builtin .append, args := #[s, x], argTypes := #[33, 33] })
    (B : Nat) (v : Value) (l : List Ms) (hs : a.eval s = v) (W : World) (h : OM B W v l) (k : Nat) (p : List Ms)
    (hx : a.eval x = .slice (some ⟨k, 0, none⟩) p.length p.length) (hk : W.heap[k]? = some (.cells (msC p).toArray 59)) (hl : l.length + p.length ≤ 100000) (hB : B ≤ W.heap.size)
    (H : ∀ v' w', OM B w' v' (l ++ p) → W.grownBy w' v.ownBlock → (v'.ownBlock = v.ownBlock ∨ v'.ownBlock = some W.heap.size) → wpList Tryz.prog ops Q rest (a.put o.dst v') w') :
    wpList Tryz.prog ops Q (o :: rest) a W := by
  obtain ⟨i0, hi, hz0, hz1, hz2⟩ := info_parts infoMeas
  refine wpList_append_own_at _ hgd s x 33 ho B 59 i0 (.agg #[.int .i64 0, .int .i64 0, .int .i64 0, .int .i64 0, .int .i64 0, .int .i64 0]) 6 48 Tryz.underlying33 hi hz0 hz1 hz2 rfl (by decide) v l.length (msC l) hs h ⟨k, 0, none⟩ p.length p.length (msC p) hx (by rw [msC_len]) ?_ (msC_one p) (by unfold maxLen; omega) (by omega) hB ?_
  · intro j u hu
    have hadd : (⟨k, 0, none⟩ : Addr).add j = ⟨k, j, none⟩ := by unfold Addr.add; split <;> simp_all
    rw [hadd]
    unfold World.cell?
    rw [hk]
    simpa using hu
  · intro v' w' ho' hg _ hat
    exact H v' w' (by unfold OM; rw [List.length_append, msC_append]; exact ho') hg hat
end Go.Proofs.YtidelghgjibndaaGreat
namespace Go.Proofs.YtidelghgjibndaaGreat
set_option linter.unusedVariables false
structure Bx4 where
  cx : Int
  cy : Int
  x : Int
  y : Int
def bx0 : Bx4 := ⟨0, 0, 0, 0⟩
def bxV (b : Bx4) : Bool := decide ((-2000000 ≤ b.cx ∧ b.cx ≤ 2000000 ∧ -2000000 ≤ b.cy ∧ b.cy ≤ 2000000) ∧ (0 ≤ b.x ∧ b.x ≤ 2000000) ∧ 0 ≤ b.y ∧ b.y ≤ 2000000)
theorem bxV_iff {b : Bx4} : bxV b = true ↔ ((-2000000 ≤ b.cx ∧ b.cx ≤ 2000000 ∧ -2000000 ≤ b.cy ∧ b.cy ≤ 2000000) ∧ (0 ≤ b.x ∧ b.x ≤ 2000000) ∧ 0 ≤ b.y ∧ b.y ≤ 2000000) := by unfold bxV; rw [decide_eq_true_iff]
def rngC (ve vn dr tk : Int) : Bool := decide ((-2000 ≤ ve ∧ ve ≤ 2000) ∧ (-2000 ≤ vn ∧ vn ≤ 2000) ∧ (0 ≤ dr ∧ dr ≤ 1000) ∧ 0 ≤ tk ∧ tk ≤ 144000)
theorem rngC_iff {ve vn dr tk : Int} : rngC ve vn dr tk = true ↔ ((-2000 ≤ ve ∧ ve ≤ 2000) ∧ (-2000 ≤ vn ∧ vn ≤ 2000) ∧ (0 ≤ dr ∧ dr ≤ 1000) ∧ 0 ≤ tk ∧ tk ≤ 144000) := by unfold rngC; rw [decide_eq_true_iff]
def movB (b : Bx4) (ve vn dr tk : Int) : Bx4 := ⟨b.cx + ve * tk, b.cy + vn * tk, b.x + dr * tk, b.y + dr * tk⟩
/-- the box after some ticks, and the error -/
def cstF (b : Bx4) (ve vn dr tk : Int) : Bx4 × Int :=
  if bxV b = true then (if rngC ve vn dr tk = true then (if bxV (movB b ve vn dr tk) = true then (movB b ve vn dr tk, 0) else (bx0, 2)) else (bx0, 2)) else (bx0, 1)
theorem cst_val {b : Bx4} {ve vn dr tk : Int} (h : (cstF b ve vn dr tk).2 = 0) : bxV b = true ∧ rngC ve vn dr tk = true ∧ bxV (movB b ve vn dr tk) = true ∧ cstF b ve vn dr tk = (movB b ve vn dr tk, 0) := by
  unfold cstF at *
  split at h
  · rename_i h1
    split at h
    · rename_i h2
      split at h
      · rename_i h3
        exact ⟨h1, h2, h3, by rw [if_pos h1, if_pos h2, if_pos h3]⟩
      · cases h
    · cases h
  · cases h
theorem cst_ok {b : Bx4} {ve vn dr tk : Int} (h1 : bxV b = true) (h2 : rngC ve vn dr tk = true) (h3 : bxV (movB b ve vn dr tk) = true) : cstF b ve vn dr tk = (movB b ve vn dr tk, 0) := by
  unfold cstF; rw [if_pos h1, if_pos h2, if_pos h3]
theorem cst_bad {b : Bx4} {ve vn dr tk : Int} (h : (cstF b ve vn dr tk).2 ≠ 0) : (cstF b ve vn dr tk).1 = bx0 := by
  unfold cstF at *
  split
  · rename_i h1
    rw [if_pos h1] at h
    split
    · rename_i h2
      rw [if_pos h2] at h
      split
      · rename_i h3
        rw [if_pos h3] at h
        exact absurd rfl h
      · rfl
    · rfl
  · rfl
theorem mov_mov (b : Bx4) (ve vn dr j k : Int) : movB (movB b ve vn dr j) ve vn dr k = movB b ve vn dr (j + k) := by
  unfold movB
  simp only [Int.mul_add, Int.add_assoc]
theorem mov_zero (b : Bx4) (ve vn dr : Int) : movB b ve vn dr 0 = b := by
  unfold movB
  simp only [Int.mul_zero, Int.add_zero]
/-- the error of a state -/
def chkS (b : Bx4) (t m : Int) : Int := if bxV b = true then (if 0 ≤ t ∧ t ≤ 1099511627776 ∧ 0 ≤ m ∧ m ≤ 1000 then 0 else 2) else 1
theorem chkS_ok {b : Bx4} {t m : Int} (h : chkS b t m = 0) : bxV b = true ∧ (0 ≤ t ∧ t ≤ 1099511627776) ∧ 0 ≤ m ∧ m ≤ 1000 := by
  unfold chkS at h
  split at h
  · rename_i h1
    split at h
    · rename_i h2
      exact ⟨h1, ⟨h2.1, h2.2.1⟩, h2.2.2.1, h2.2.2.2⟩
    · cases h
  · cases h
/-- the error of a step, ahead of the reports; 16: not possible in time -/
def stpE (b : Bx4) (t m tick ve vn dr rq : Int) : Int :=
  if chkS b t m ≠ 0 then chkS b t m else if tick ≤ t then 16 else if 1099511627776 < tick ∨ rq < 0 ∨ 2000000 < rq then 2 else (cstF b ve vn dr (tick - t)).2
theorem stp_ok {b : Bx4} {t m tick ve vn dr rq : Int} (h : stpE b t m tick ve vn dr rq = 0) : chkS b t m = 0 ∧ t < tick ∧ (tick ≤ 1099511627776 ∧ 0 ≤ rq ∧ rq ≤ 2000000) ∧ (cstF b ve vn dr (tick - t)).2 = 0 := by
  unfold stpE at h
  split at h
  · rename_i h1; exact absurd h h1
  · rename_i h1
    split at h
    · cases h
    · rename_i h2
      split at h
      · cases h
      · rename_i h3
        exact ⟨Decidable.not_not.1 h1, by omega, by omega, h⟩
/-- a run of steps without reports: the state after k of them -/
structure CoI (b : Bx4) (t m ve vn dr : Int) (k : Nat) (b' : Bx4) (t' m' : Int) : Prop where
  box : b' = movB b ve vn dr k
  tick : t' = t + k
  ms : m' = if k = 0 then m else min (m + k) 1000
  ok : k = 0 ∨ (bxV b = true ∧ rngC ve vn dr 1 = true ∧ 0 ≤ m ∧ m ≤ 1000 ∧ 0 ≤ t)
theorem co_start (b : Bx4) (t m ve vn dr : Int) : CoI b t m ve vn dr 0 b t m := ⟨by rw [show ((0 : Nat) : Int) = 0 from rfl, mov_zero], by simp, rfl, .inl rfl⟩
/-- one step more -/
structure CoS (b : Bx4) (t m ve vn dr : Int) (k : Nat) (b' : Bx4) (t' m' : Int) : Prop where
  next : CoI b t m ve vn dr (k + 1) (movB b' ve vn dr 1) (t' + 1) (min (m' + 1) 1000)
  whole : cstF b ve vn dr (k + 1) = (movB b' ve vn dr 1, 0)
  ms : min (m' + 1) 1000 = min (m + k + 1) 1000
  b0 : bxV b' = true
  b1 : bxV (movB b' ve vn dr 1) = true
  rg : rngC ve vn dr 1 = true
  m0 : 0 ≤ m
  m1 : m ≤ 1000
theorem co_step {b : Bx4} {t m ve vn dr rq : Int} {k : Nat} {b' : Bx4} {t' m' : Int} (h : CoI b t m ve vn dr k b' t' m') (hk : k < 24) (he : stpE b' t' m' (t' + 1) ve vn dr rq = 0) : CoS b t m ve vn dr k b' t' m' := by
  obtain ⟨h1, h2, h3, h4⟩ := h
  obtain ⟨e1, e2, e3, e4⟩ := stp_ok he
  obtain ⟨c1, c2, c3⟩ := chkS_ok e1
  rw [show t' + 1 - t' = 1 by omega] at e4
  obtain ⟨d1, d2, d3, d4⟩ := cst_val e4
  have hm : movB b' ve vn dr 1 = movB b ve vn dr (k + 1) := by rw [h1, mov_mov]
  have hb : bxV b = true := by
    rcases h4 with rfl | ⟨a, _⟩
    · rw [h1, show ((0 : Nat) : Int) = 0 from rfl, mov_zero] at d1; exact d1
    · exact a
  have hmm : (0 ≤ m ∧ m ≤ 1000) ∧ 0 ≤ t := by
    rcases h4 with rfl | ⟨_, _, a, a2, a3⟩
    · rw [if_pos rfl] at h3
      have h2' : t' = t := by simpa using h2
      omega
    · omega
  have r := rngC_iff.1 d2
  have hms : min (m' + 1) 1000 = min (m + k + 1) 1000 := by
    by_cases z : k = 0
    · subst z; rw [if_pos rfl] at h3; simp [h3]
    · rw [if_neg z] at h3; omega
  refine ⟨⟨by rw [hm]; rfl, by rw [h2]; omega, by rw [if_neg (by omega), hms]; congr 1; omega, .inr ⟨hb, d2, hmm.1.1, hmm.1.2, hmm.2⟩⟩, ?_, hms, d1, d3, d2, hmm.1.1, hmm.1.2⟩
  rw [hm]
  exact cst_ok hb (rngC_iff.2 ⟨r.1, r.2.1, r.2.2.1, by omega, by omega⟩) (by rw [← hm]; exact d3)
/-- the point stays in the box -/
def inB (b : Bx4) (px py : Int) : Prop := (px - b.cx ≤ b.x ∧ b.cx - px ≤ b.x) ∧ py - b.cy ≤ b.y ∧ b.cy - py ≤ b.y
theorem in_move {b : Bx4} {ve vn dr px py dx dy : Int} (h : inB b px py) (hx : dx - ve ≤ dr ∧ ve - dx ≤ dr) (hy : dy - vn ≤ dr ∧ vn - dy ≤ dr) : inB (movB b ve vn dr 1) (px + dx) (py + dy) := by
  unfold inB movB at *
  simp only [Int.mul_one]
  omega
end Go.Proofs.YtidelghgjibndaaGreat
namespace Go.Proofs.YtidelghgjibndaaGreat
set_option linter.unusedVariables false
/-- the words of a number -/
def hiW (x : Int) : Int := x / 18446744073709551616
def loW (x : Int) : Int := x % 18446744073709551616
structure FitW (x : Int) : Prop where
  lo : -170141183460469231731687303715884105728 ≤ x
  hi : x < 170141183460469231731687303715884105728
theorem lo_rng (x : Int) : 0 ≤ loW x ∧ loW x < 18446744073709551616 := by unfold loW; omega
theorem hi_rng {x : Int} (h : FitW x) : -9223372036854775808 ≤ hiW x ∧ hiW x < 9223372036854775808 := by
  obtain ⟨a, b⟩ := h
  unfold hiW; omega
theorem hi_neg (x : Int) : (hiW x < 0) ↔ x < 0 := by unfold hiW; omega
def absW (x : Int) : Int := if x < 0 then -x else x
theorem absW_nonneg (x : Int) : 0 ≤ absW x := by unfold absW; split <;> omega
theorem absW_mul (a b : Int) : a * b = if decide (a < 0) != decide (b < 0) then -(absW a * absW b) else absW a * absW b := by
  unfold absW
  by_cases ha : a < 0 <;> by_cases hb : b < 0 <;> simp [ha, hb, Int.neg_mul, Int.mul_neg]
theorem mul_u {x y : Int} (hx0 : 0 ≤ x) (hx : x ≤ 9223372036854775808) (hy0 : 0 ≤ y) (hy : y ≤ 9223372036854775808) : 0 ≤ x * y ∧ x * y ≤ 85070591730234615865843651857942052864 := by
  refine ⟨Int.mul_nonneg hx0 hy0, ?_⟩
  have h1 := Int.mul_le_mul_of_nonneg_right hx hy0
  have h2 := Int.mul_le_mul_of_nonneg_left hy (show (0 : Int) ≤ 9223372036854775808 by omega)
  omega
theorem mul_fit {a b : Int} (ha0 : -9223372036854775808 ≤ a) (ha : a ≤ 9223372036854775807) (hb0 : -9223372036854775808 ≤ b) (hb : b ≤ 9223372036854775807) : FitW (a * b) := by
  have h := mul_u (absW_nonneg a) (show absW a ≤ 9223372036854775808 by unfold absW; split <;> omega) (absW_nonneg b) (show absW b ≤ 9223372036854775808 by unfold absW; split <;> omega)
  rw [absW_mul]
  refine ⟨?_, ?_⟩ <;> split <;> omega
/-- one bit more -/
theorem div_one {M b D : Nat} (hb : b < 2) (hD : 0 < D) (h : D ≤ 2 * (M % D) + b) : (2 * M + b) / D = 2 * (M / D) + 1 ∧ (2 * M + b) % D = 2 * (M % D) + b - D := by
  have hr := Nat.mod_lt M hD
  have hM := Nat.div_add_mod M D
  generalize M / D = q at *
  generalize M % D = r at *
  subst hM
  have e : 2 * (D * q + r) + b = D * (2 * q + 1) + (2 * r + b - D) := by
    rw [Nat.mul_add D, Nat.mul_left_comm D 2 q]; omega
  rw [e, Nat.mul_add_div hD, Nat.div_eq_of_lt (by omega), Nat.mul_add_mod, Nat.mod_eq_of_lt (by omega)]
  exact ⟨rfl, rfl⟩
theorem div_zero {M b D : Nat} (hb : b < 2) (hD : 0 < D) (h : ¬ D ≤ 2 * (M % D) + b) : (2 * M + b) / D = 2 * (M / D) ∧ (2 * M + b) % D = 2 * (M % D) + b := by
  have hM := Nat.div_add_mod M D
  generalize M / D = q at *
  generalize M % D = r at *
  subst hM
  have e : 2 * (D * q + r) + b = D * (2 * q) + (2 * r + b) := by
    rw [Nat.mul_left_comm D 2 q]; omega
  rw [e, Nat.mul_add_div hD, Nat.div_eq_of_lt (by omega), Nat.mul_add_mod, Nat.mod_eq_of_lt (by omega)]
  exact ⟨rfl, rfl⟩
theorem bit_at (N i : Nat) : N / 2 ^ i = 2 * (N / 2 ^ (i + 1)) + N / 2 ^ i % 2 := by
  have e : N / 2 ^ (i + 1) = N / 2 ^ i / 2 := by rw [Nat.pow_succ, Nat.div_div_eq_div_mul]
  rw [e]
  omega
theorem bit_lo {N i : Nat} (h : i < 64) : N % 18446744073709551616 / 2 ^ i % 2 = N / 2 ^ i % 2 := by
  have e : (18446744073709551616 : Nat) = 2 ^ i * 2 ^ (64 - i) := by
    rw [← Nat.pow_add, show i + (64 - i) = 64 by omega]
  rw [e, Nat.mod_mul_right_div_self, Nat.mod_mod_of_dvd]
  exact ⟨2 ^ (63 - i), by rw [Nat.mul_comm, ← Nat.pow_succ, show 64 - i = 63 - i + 1 by omega]⟩
theorem bit_hi {N i : Nat} (h : 64 ≤ i) : N / 18446744073709551616 / 2 ^ (i - 64) % 2 = N / 2 ^ i % 2 := by
  have e : (2 : Nat) ^ i = 18446744073709551616 * 2 ^ (i - 64) := by
    rw [show (18446744073709551616 : Nat) = 2 ^ 64 by decide, ← Nat.pow_add, show 64 + (i - 64) = i by omega]
  rw [e, Nat.div_div_eq_div_mul]
/-- what the bits above i leave -/
theorem top_small {N i : Nat} (h : N < 340282366920938463463374607431768211456) : N / 2 ^ (i + 1) < 170141183460469231731687303715884105728 := by
  have e : N / 2 ^ (i + 1) = N / 2 / 2 ^ i := by rw [Nat.pow_succ, Nat.mul_comm, Nat.div_div_eq_div_mul]
  have := Nat.div_le_self (N / 2) (2 ^ i)
  omega
end Go.Proofs.YtidelghgjibndaaGreat
