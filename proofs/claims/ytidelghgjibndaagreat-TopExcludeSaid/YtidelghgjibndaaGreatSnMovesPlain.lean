/-
  Of the text MovesPlain: what is wanted here.
-/
import Derived.Test.YtidelghgjibndaaGreatSnAged
namespace Go.Proofs.YtidelghgjibndaaGreat.S41
set_option linter.unusedVariables false
open Tr Sq
theorem dot_le {a b c d H m : Int} (H0 : 0 ≤ H) (m0 : 0 ≤ m) (h1 : a * a + b * b ≤ H * H) (h2 : c * c + d * d ≤ m * m) : a * c + b * d ≤ H * m := by
  have hm : 0 ≤ H * m := Int.mul_nonneg H0 m0
  have e : (a * c + b * d) * (a * c + b * d) = (a * a + b * b) * (c * c + d * d) - (a * d - b * c) * (a * d - b * c) := by grind
  have n1 := Sq.sq_nonneg (a * d - b * c)
  have n2 : 0 ≤ c * c + d * d := by have := Sq.sq_nonneg c; have := Sq.sq_nonneg d; omega
  have n3 : 0 ≤ H * H := Sq.sq_nonneg H
  have k := Int.mul_le_mul h1 h2 n2 n3
  have e2 : H * H * (m * m) = (H * m) * (H * m) := by grind
  exact Sq.le_of_sq hm (by omega)
/-- the triangle's sides, without roots -/
theorem tri_le {a b c d H m : Int} (H0 : 0 ≤ H) (m0 : 0 ≤ m) (h1 : a * a + b * b ≤ H * H) (h2 : c * c + d * d ≤ m * m) : (a + c) * (a + c) + (b + d) * (b + d) ≤ (H + m) * (H + m) := by
  have k := dot_le H0 m0 h1 h2
  have e : (a + c) * (a + c) + (b + d) * (b + d) = (a * a + b * b) + (c * c + d * d) + 2 * (a * c + b * d) := by grind
  have e2 : (H + m) * (H + m) = H * H + m * m + 2 * (H * m) := by grind
  omega
theorem tri_lt {a b c d F m : Int} (F0 : 0 ≤ F) (m0 : 0 ≤ m) (h1 : a * a + b * b < F * F) (h2 : c * c + d * d ≤ m * m) : (a - c) * (a - c) + (b - d) * (b - d) < (F + m) * (F + m) := by
  have k := dot_le (a := a) (b := b) (c := -c) (d := -d) F0 m0 (by omega) (by rw [Int.neg_mul_neg, Int.neg_mul_neg]; exact h2)
  have e : (a - c) * (a - c) + (b - d) * (b - d) = (a * a + b * b) + (c * c + d * d) + 2 * (a * -c + b * -d) := by grind
  have e2 : (F + m) * (F + m) = F * F + m * m + 2 * (F * m) := by grind
  omega
theorem side_le {u m S : Int} (m0 : 0 ≤ m) (h : u * u ≤ m * m) : -m ≤ u ∧ u ≤ m := by
  constructor
  · have := Sq.le_of_sq (a := -u) m0 (by rw [Int.neg_mul_neg]; exact h)
    omega
  · exact Sq.le_of_sq m0 h
theorem absI_iff {x k : Int} : absI x ≤ k ↔ (-k ≤ x ∧ x ≤ k) := by unfold absI; split <;> omega
theorem aged_ok {s k x y v b wt t tick speed : Int} {r : Rp} (h : agedF s k x y v b wt t tick speed = (r, 0)) :
    checkI s k x y v b wt t = 0 ∧ (0 ≤ tick ∧ tick ≤ 1099511627776) ∧ (0 ≤ speed ∧ speed ≤ 1000) ∧ (0 ≤ tick - t ∧ tick - t ≤ 20) ∧ (k = 3 → tick - t = 0) ∧ (k ≠ 3 → b + speed * (tick - t) ≤ 600000) ∧ r = ⟨s, k, x, y, v, b + speed * (tick - t), wt, tick⟩ := by
  unfold agedF at h
  split at h
  · rename_i hc
    split at h
    · rename_i h1
      rw [Bool.and_eq_true, fromB_iff, fromB_iff] at h1
      split at h
      · rename_i h2
        rw [fromB_iff] at h2
        split at h
        · rename_i h3
          split at h
          · rename_i h4
            simp only [Prod.mk.injEq, and_true] at h
            exact ⟨hc, h1.1, h1.2, h2, fun _ => h4, fun g => absurd h3 g, by rw [← h, h4, Int.mul_zero, Int.add_zero]⟩
          · simp at h
        · rename_i h3
          split at h
          · rename_i h4
            simp only [Prod.mk.injEq, and_true] at h
            exact ⟨hc, h1.1, h1.2, h2, fun g => absurd g h3, fun _ => h4, h.symm⟩
          · simp at h
      · simp at h
    · simp at h
  · rename_i hc
    simp only [Prod.mk.injEq] at h
    exact absurd h.2 hc
theorem aged_no {s k x y v b wt t tick speed : Int} (h : (agedF s k x y v b wt t tick speed).2 ≠ 0) : (agedF s k x y v b wt t tick speed).1 = rp0 := by
  unfold agedF at h ⊢
  split
  · rename_i h0
    rw [if_pos h0] at h
    split
    · rename_i h1
      rw [if_pos h1] at h
      split
      · rename_i h2
        rw [if_pos h2] at h
        split
        · rename_i h3
          rw [if_pos h3] at h
          split
          · rename_i h4; rw [if_pos h4] at h; exact absurd rfl h
          · rfl
        · rename_i h3
          rw [if_neg h3] at h
          split
          · rename_i h4; rw [if_pos h4] at h; exact absurd rfl h
          · rfl
      · rfl
    · rfl
  · rfl
/-- the aged report agrees with a point that is near enough -/
theorem moves {s k x y v b wt t tick speed p q p1 q1 : Int} {r : Rp} (h : agedF s k x y v b wt t tick speed = (r, 0)) (ha : agrB s k x y v b wt t p q = true) (hv : pvB p1 q1 = true)
    (hd : d2 p q p1 q1 ≤ (speed * (tick - t)) * (speed * (tick - t))) : agrB r.s r.k r.x r.y r.v r.b r.w r.t p1 q1 = true := by
  obtain ⟨hc, ht, hs, hg, h3, hn3, rfl⟩ := aged_ok h
  obtain ⟨hA, hR⟩ := check_ok.1 hc
  have hm : 0 ≤ speed * (tick - t) := Int.mul_nonneg hs.1 hg.1
  have hbd := check_bd hc
  have hR' := okR_iff.1 hR
  have hc1 : checkI s k x y v (b + speed * (tick - t)) wt tick = 0 := by
    refine check_ok.2 ⟨hA, okR_iff.2 ⟨ht, ⟨by omega, ?_⟩, hR'.2.2⟩⟩
    by_cases e : k = 3
    · rw [h3 e, Int.mul_zero, Int.add_zero]; exact hR'.2.1.2
    · unfold maxBd; rw [if_neg e]; exact hn3 e
  unfold agrB at ha ⊢
  simp only [Bool.and_eq_true, decide_eq_true_iff] at ha ⊢
  obtain ⟨⟨-, hp⟩, hk⟩ := ha
  refine ⟨⟨hc1, hv⟩, ?_⟩
  generalize hM : speed * (tick - t) = m at *
  have sx := Sq.sq_nonneg (p1 - p)
  have sy := Sq.sq_nonneg (q1 - q)
  unfold d2 at hd
  by_cases e1 : k = 1
  · rw [if_pos e1] at hk ⊢
    unfold agrP at hk ⊢
    simp only [Bool.and_eq_true, decide_eq_true_iff, absI_iff] at hk ⊢
    have a := side_le (S := 0) hm (show (p1 - p) * (p1 - p) ≤ m * m by omega)
    have c := side_le (S := 0) hm (show (q1 - q) * (q1 - q) ≤ m * m by omega)
    omega
  · rw [if_neg e1] at hk ⊢
    by_cases e2 : k = 2
    · rw [if_pos e2] at hk ⊢
      unfold agrR d2 at hk ⊢
      simp only [Bool.and_eq_true, Bool.or_eq_true, decide_eq_true_iff] at hk ⊢
      obtain ⟨k1, k2⟩ := hk
      have ex : p1 - x = (p - x) + (p1 - p) := by omega
      have ey : q1 - y = (q - y) + (q1 - q) := by omega
      refine ⟨?_, ?_⟩
      · have := tri_le (show 0 ≤ v + b by omega) hm k1 hd
        rw [← ex, ← ey] at this
        rw [show v + (b + m) = v + b + m by omega]
        exact this
      · by_cases hz : v - (b + m) ≤ 0
        · exact .inl hz
        · right
          have k2' : (v - b) * (v - b) ≤ (p - x) * (p - x) + (q - y) * (q - y) := by rcases k2 with g | g; omega; exact g
          refine Int.not_lt.1 fun hlt => ?_
          have := tri_lt (show 0 ≤ v - (b + m) by omega) hm hlt hd
          rw [show p1 - x - (p1 - p) = p - x by omega, show q1 - y - (q1 - q) = q - y by omega, show v - (b + m) + m = v - b by omega] at this
          omega
    · rw [if_neg e2] at hk ⊢
      have e3 : k = 3 := by omega
      have hz : m = 0 := by rw [← hM, h3 e3, Int.mul_zero]
      rw [hz] at hd ⊢
      have a := side_le (S := 0) (Int.le_refl 0) (show (p1 - p) * (p1 - p) ≤ 0 * 0 by omega)
      have c := side_le (S := 0) (Int.le_refl 0) (show (q1 - q) * (q1 - q) ≤ 0 * 0 by omega)
      obtain rfl : p1 = p := by omega
      obtain rfl : q1 = q := by omega
      rw [Int.add_zero]
      exact hk
end Go.Proofs.YtidelghgjibndaaGreat.S41
