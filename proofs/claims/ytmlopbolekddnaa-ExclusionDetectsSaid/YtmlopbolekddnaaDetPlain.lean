/-
  An error above what Detectable says leaves no point that meets all strips: plain laws of layer 44.
-/
import Derived.Test.YtmlopbolekddnaaNestPlain
namespace Go.Proofs.Ytmlopbolekddnaa
set_option linter.unusedVariables false
open Go.RowKit

theorem bad_det (l : List Ms) (i : Int) : (detF l i).2 = 0 ∨ (detF l i).1 = 0 := by
  unfold detF
  by_cases h : chkL l = 0
  · rw [if_pos h]
    by_cases h1 : i < 0 ∨ (l.length : Int) ≤ i
    · rw [if_pos h1]; exact .inr rfl
    · rw [if_neg h1]
      by_cases h2 : fullB (woL l (nth l i.toNat).s) = true
      · rw [if_pos h2]; exact .inl rfl
      · rw [if_neg h2]; exact .inr rfl
  · rw [if_neg h]; exact .inr rfl
theorem le_ceil {v d h : Int} (hd : 0 < d) (e : ceilI v d ≤ h) : v ≤ h * d := by
  unfold ceilI at e
  have q := Int.mul_ediv_add_emod (-v) d
  have r := Int.emod_nonneg (-v) (show d ≠ 0 by omega)
  have h1 : -h * d ≤ ((-v) / d) * d := Int.mul_le_mul_of_nonneg_right (by omega) (by omega)
  have h2 : ((-v) / d) * d = d * ((-v) / d) := Int.mul_comm _ _
  have h3 : -h * d = -(h * d) := Int.neg_mul _ _
  omega
/-- the value of a point of the doubled strips -/
theorem hi_ge {l : List Ms} {X Y D : Int} (a b : Int) (hD : 0 < D) (hin : In l X Y D) (hf : Full l) : a * X + b * Y ≤ (bndF a b (corL l)).2 * D := by
  obtain ⟨p, hp, h⟩ := corner_ge a b hD hin hf
  have hm := mem_corL.2 hp
  have B := bnd_is a b (List.ne_nil_of_mem hm)
  have h1 := le_ceil hp.pos (B.all p hm).2
  have h2 : (a * p.x + b * p.y) * D ≤ (bndF a b (corL l)).2 * p.d * D := Int.mul_le_mul_of_nonneg_right h1 (by omega)
  have h3 : (bndF a b (corL l)).2 * p.d * D = (bndF a b (corL l)).2 * D * p.d := by grind
  exact Int.le_of_mul_le_mul_right (show (a * X + b * Y) * p.d ≤ (bndF a b (corL l)).2 * D * p.d by omega) hp.pos
theorem dbl_in {l : List Ms} {x y X Y D : Int} (hD : 0 < D) (h0 : In l x y 1) (h1 : In l X Y D) : In (dbL l) (X - x * D) (Y - y * D) D ∧ In (dbL l) (-(X - x * D)) (-(Y - y * D)) D := by
  have key : ∀ m ∈ l, (m.a * (X - x * D) + m.b * (Y - y * D) ≤ m.d * 2 * D) ∧ (-(m.a * (X - x * D) + m.b * (Y - y * D)) ≤ m.d * 2 * D) := fun m hm => by
    obtain ⟨u0, u1⟩ := h0 m hm
    obtain ⟨v0, v1⟩ := h1 m hm
    unfold gI at u0 u1 v0 v1
    have w0 : (m.a * x + m.b * y - m.z * 1) * D ≤ m.d * 1 * D := Int.mul_le_mul_of_nonneg_right u0 (by omega)
    have w1 : -(m.a * x + m.b * y - m.z * 1) * D ≤ m.d * 1 * D := Int.mul_le_mul_of_nonneg_right u1 (by omega)
    have e0 : (m.a * x + m.b * y - m.z * 1) * D = m.a * x * D + m.b * y * D - m.z * D := by grind
    have e1 : -(m.a * x + m.b * y - m.z * 1) * D = -(m.a * x * D + m.b * y * D - m.z * D) := by grind
    have e2 : m.a * (X - x * D) + m.b * (Y - y * D) = m.a * X + m.b * Y - (m.a * x * D + m.b * y * D) := by grind
    have e3 : m.d * 2 * D = m.d * D + m.d * D := by grind
    have e4 : m.d * 1 * D = m.d * D := by grind
    omega
  constructor <;>
  · intro n hn
    unfold dbL at hn
    rw [List.mem_map] at hn
    obtain ⟨m, hm, rfl⟩ := hn
    obtain ⟨k0, k1⟩ := key m hm
    have e5 : m.a * -(X - x * D) + m.b * -(Y - y * D) = -(m.a * (X - x * D) + m.b * (Y - y * D)) := by grind
    constructor <;> (unfold gI dbl; simp only; omega)
theorem full_dbl {l : List Ms} (h : Full l) : Full (dbL l) := by
  obtain ⟨m, hm, n, hn, hd⟩ := h
  exact ⟨_, List.mem_map_of_mem hm, _, List.mem_map_of_mem hn, hd⟩
theorem full_wo {l : List Ms} {s : Int} (h : fullB (woL l s) = true) : fullB l = true := by
  rw [fullB_iff] at *
  obtain ⟨m, hm, n, hn, hd⟩ := h
  exact ⟨m, (List.mem_filter.1 hm).1, n, (List.mem_filter.1 hn).1, hd⟩
/-- what the law looks at -/
theorem det_ok {l : List Ms} {x y : Int} {k : Nat} (hk : k < l.length) (he : (detF l k).2 = 0) (ha : allB l x y (nth l k).s = true) :
    (missI (nth l k) x y ≤ (detF l k).1 ∧ -missI (nth l k) x y ≤ (detF l k).1) ∨ conF l = (false, 0) := by
  by_cases hc : chkL l = 0
  · have ed : detF l k = if fullB (woL l (nth l k).s) = true then ((nth l k).d + (bndF (nth l k).a (nth l k).b (corL (dbL (woL l (nth l k).s)))).2, 0) else (0, 14) := by
      unfold detF
      rw [if_pos hc, if_neg (by omega), Int.toNat_natCast]
    by_cases hf : fullB (woL l (nth l k).s) = true
    · rw [if_pos hf] at ed
      rw [ed]
      have hfl := full_wo hf
      have ec : conF l = (decide (0 < (corL l).length), 0) := by unfold conF; rw [if_pos hc, if_pos hfl]
      by_cases h0 : 0 < (corL l).length
      · left
        obtain ⟨q, hq⟩ := List.exists_mem_of_length_pos h0
        have cq := mem_corL.1 hq
        have hm := nth_mem hk
        have hin := all_in ha
        have hwo : In (woL l (nth l k).s) q.x q.y q.d := fun n hn => cq.inn n (List.mem_filter.1 hn).1
        obtain ⟨d0, d1⟩ := dbl_in cq.pos hin hwo
        have f := full_dbl (fullB_iff.1 hf)
        have g0 := hi_ge (nth l k).a (nth l k).b cq.pos d0 f
        have g1 := hi_ge (nth l k).a (nth l k).b cq.pos d1 f
        obtain ⟨m0, m1⟩ := cq.inn _ hm
        have hp := cq.pos
        unfold gI at m0 m1
        unfold missI
        simp only
        generalize (bndF (nth l k).a (nth l k).b (corL (dbL (woL l (nth l k).s)))).2 = H at *
        generalize nth l k = m at *
        have e0 : m.a * (q.x - x * q.d) + m.b * (q.y - y * q.d) = m.a * q.x + m.b * q.y - (m.a * x + m.b * y) * q.d := by grind
        have e1 : m.a * -(q.x - x * q.d) + m.b * -(q.y - y * q.d) = -(m.a * q.x + m.b * q.y - (m.a * x + m.b * y) * q.d) := by grind
        have e2 : (m.a * x + m.b * y - m.z) * q.d = (m.a * x + m.b * y) * q.d - m.z * q.d := by grind
        have e3 : (m.d + H) * q.d = m.d * q.d + H * q.d := by grind
        have e4 : -(m.a * x + m.b * y - m.z) * q.d = -((m.a * x + m.b * y) * q.d - m.z * q.d) := by grind
        constructor
        · exact Int.le_of_mul_le_mul_right (show (m.a * x + m.b * y - m.z) * q.d ≤ (m.d + H) * q.d by omega) hp
        · exact Int.le_of_mul_le_mul_right (show -(m.a * x + m.b * y - m.z) * q.d ≤ (m.d + H) * q.d by omega) hp
      · right
        rw [ec, decide_eq_false h0]
    · rw [if_neg hf] at ed
      rw [ed] at he
      simp at he
  · have ed : detF l k = (0, chkL l) := by unfold detF; rw [if_neg hc]
    rw [ed] at he
    exact absurd he hc
end Go.Proofs.Ytmlopbolekddnaa
