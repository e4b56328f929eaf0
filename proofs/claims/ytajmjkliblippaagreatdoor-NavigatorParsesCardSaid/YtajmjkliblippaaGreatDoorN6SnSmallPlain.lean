/-
  Of the text SnSmallPlain: what is wanted here.
-/
import Derived.Test.YtajmjkliblippaaGreatDoorN6SnRowsJoin
namespace Go.Proofs.YtajmjkliblippaaGreatDoor.S41
set_option linter.unusedVariables false
open Tr Sq
/-- small, and not both 0 -/
def SmallM (m : Ms) : Prop := (-256 ≤ m.a ∧ m.a ≤ 256) ∧ (-256 ≤ m.b ∧ m.b ≤ 256) ∧ ¬(m.a = 0 ∧ m.b = 0) ∧ (-4294967296 ≤ m.z ∧ m.z ≤ 4294967296) ∧ 0 ≤ m.d ∧ m.d ≤ 4294967296
theorem quarter_big {a : Int} (h0 : 16200000 ≤ a) (h1 : a ≤ 32400000) : 759250125 ≤ quarterI a := by
  unfold quarterI
  split
  · obtain rfl : a = 16200000 := by omega
    rw [sineI_E]; omega
  · exact (cosineI_range (by omega) (by omega)).1
theorem sinB_big {b : Int} (h0 : 0 ≤ b) (h1 : b < 129600000) (h : (16200000 ≤ b ∧ b ≤ 48600000) ∨ (81000000 ≤ b ∧ b ≤ 113400000)) : 759250125 ≤ sinB b ∨ sinB b ≤ -759250125 := by
  unfold sinB
  split
  · left; exact quarter_big (by omega) (by omega)
  · split
    · left; exact quarter_big (by omega) (by omega)
    · split
      · right; have := quarter_big (a := b - 64800000) (by omega) (by omega); omega
      · right; have := quarter_big (a := 129600000 - b) (by omega) (by omega); omega
theorem sincos_big (v : Int) : (759250125 ≤ sinI v ∨ sinI v ≤ -759250125) ∨ (759250125 ≤ cosI v ∨ cosI v ≤ -759250125) := by
  have hb := normI_range v
  have hc := normI_range (turnI v 32400000)
  have e : normI (turnI v 32400000) = (if normI v < 97200000 then normI v + 32400000 else normI v - 97200000) := by
    unfold turnI normI; split <;> omega
  unfold cosI sinI
  rw [e] at hc ⊢
  generalize normI v = b at *
  by_cases h : (16200000 ≤ b ∧ b ≤ 48600000) ∨ (81000000 ≤ b ∧ b ≤ 113400000)
  · left; exact sinB_big (by omega) (by omega) h
  · right
    split at hc <;> rename_i h2
    · rw [if_pos h2]; exact sinB_big (by omega) (by omega) (by omega)
    · rw [if_neg h2]; exact sinB_big (by omega) (by omega) (by omega)
theorem near_nz {p c : Int} (hc : 0 < c) (h : c ≤ 2 * p ∨ 2 * p ≤ -(3 * c)) : nearI2 p c ≠ 0 := by
  unfold nearI2
  intro e
  have h1 := Int.ediv_mul_le (2 * p + c) (show 2 * c ≠ 0 by omega)
  have h2 := Int.lt_ediv_add_one_mul_self (2 * p + c) (show 0 < 2 * c by omega)
  rw [e] at h1 h2
  omega
theorem brg_nz (v : Int) : ¬(brgA v = 0 ∧ brgB v = 0) := by
  rintro ⟨h0, h1⟩
  unfold brgA at h0
  unfold brgB at h1
  rcases sincos_big v with h | h
  · exact near_nz (by decide) (by omega) h1
  · exact near_nz (by decide) (by omega) h0
theorem rng_nz {x y cx cy D : Int} (hp : (pvB x y && pvB cx cy) = true) (eD : distI x y cx cy = D) (hD : 0 < D) : ¬(rngA x cx D = 0 ∧ rngA y cy D = 0) := by
  rintro ⟨h0, h1⟩
  unfold rngA at h0 h1
  obtain ⟨d0, dm, -⟩ := d2_bd hp
  have hsq : D * D ≤ d2 x y cx cy := by
    rw [← eD]
    unfold distI
    rw [if_pos hp]
    exact (isq_is d0 (by omega)).le
  have key : ∀ u : Int, nearI2 (256 * u) D = 0 → -D < 2 * u ∧ 2 * u < D := by
    intro u hu
    constructor
    · refine Classical.byContradiction fun h => near_nz hD ?_ hu
      omega
    · refine Classical.byContradiction fun h => near_nz hD ?_ hu
      omega
  obtain ⟨a0, a1⟩ := key _ h0
  obtain ⟨b0, b1⟩ := key _ h1
  have s1 : ∀ u : Int, -D < 2 * u → 2 * u < D → 4 * (u * u) < D * D := by
    intro u h0 h1
    have hu : ∃ t : Int, 0 ≤ t ∧ 2 * t < D ∧ t * t = u * u := by
      rcases Int.le_total 0 u with h | h
      · exact ⟨u, h, h1, rfl⟩
      · exact ⟨-u, by omega, by omega, Int.neg_mul_neg u u⟩
    obtain ⟨t, t0, t1, t2⟩ := hu
    have e1 : (2 * t) * (2 * t) ≤ (D - 1) * (D - 1) := sq_le (by omega) (by omega)
    have e3 : (D - 1) * (D - 1) = D * D - 2 * D + 1 := by grind
    have e2 : (2 * t) * (2 * t) = 4 * (t * t) := by grind
    omega
  have c1 := s1 _ a0 a1
  have c2 := s1 _ b0 b1
  have p1 := Sq.sq_nonneg (cx - x)
  have p2 := Sq.sq_nonneg (cy - y)
  unfold d2 at hsq
  omega
theorem rows_small {s k x y v b wt t cx cy bx b2 : Int} : ((rowsF s k x y v b wt t cx cy bx b2).2 ≠ 0 ∧ (rowsF s k x y v b wt t cx cy bx b2).1 = []) ∨
    ((rowsF s k x y v b wt t cx cy bx b2).2 = 0 ∧ ((∃ m, (rowsF s k x y v b wt t cx cy bx b2).1 = [m] ∧ SmallM m) ∨ (k = 1 ∧ ∃ m n, (rowsF s k x y v b wt t cx cy bx b2).1 = [m, n] ∧ SmallM m ∧ SmallM n))) := by
  by_cases h : checkI s k x y v b wt t = 0
  · cases hv : boxV cx cy bx b2 with
    | false =>
      left
      unfold rowsF; rw [if_pos h, if_neg (by rw [hv]; decide)]
      exact ⟨by decide, rfl⟩
    | true =>
      obtain ⟨-, hk, ⟨x0, x1, y0, y1⟩, -, -, -, -⟩ := check_bd h
      obtain ⟨hA, hR⟩ := check_ok.1 h
      have hR' := okR_iff.1 hR
      have bx' := boxV_iff.1 hv
      have hp : (pvB x y && pvB cx cy) = true := by
        rw [Bool.and_eq_true]; exact ⟨(okA_iff.1 hA).2.2.2.1 |> pvB_iff.2, pvB_iff.2 bx'.1⟩
      obtain ⟨K0, K1⟩ := rad_bd hv
      obtain ⟨D0, D1⟩ := dist_bd x y cx cy
      rcases hk with rfl | rfl | rfl
      · have hb' : 0 ≤ b ∧ b ≤ 600000 := hR'.2.1
        right
        unfold rowsF; rw [if_pos h, if_pos hv, if_pos rfl]
        refine ⟨rfl, .inr ⟨rfl, _, _, rfl, ?_, ?_⟩⟩ <;> (unfold SmallM; simp only; omega)
      · have hb' : 0 ≤ b ∧ b ≤ 600000 := hR'.2.1
        have hv' : 0 ≤ v ∧ v ≤ 8000000 := hR'.2.2
        by_cases hg : distI x y cx cy < 6000 ∨ distI x y cx cy < 4 * radI cx cy bx b2
        · left
          unfold rowsF; rw [if_pos h, if_pos hv, if_neg (by decide), if_pos rfl, if_pos hg]
          exact ⟨by decide, rfl⟩
        · right
          unfold rowsF; rw [if_pos h, if_pos hv, if_neg (by decide), if_pos rfl, if_neg hg]
          refine ⟨rfl, .inl ⟨_, rfl, ?_⟩⟩
          obtain ⟨a, c⟩ := rngAB_bd hp rfl (by omega)
          obtain ⟨f0, f1⟩ := rngF_bd K0 K1 (show 6000 ≤ distI x y cx cy by omega) (by omega)
          have pa := mul_bd a.1 a.2 (show -2000000 ≤ cx by omega) (by omega)
          have pb := mul_bd c.1 c.2 (show -2000000 ≤ cy by omega) (by omega)
          have nz := rng_nz hp rfl (show 0 < distI x y cx cy by omega)
          unfold SmallM rngM
          simp only
          exact ⟨a, c, nz, by omega, by omega⟩
      · have hb' : 0 ≤ b ∧ b ≤ 3600000 := hR'.2.1
        right
        unfold rowsF; rw [if_pos h, if_pos hv, if_neg (by decide), if_neg (by decide)]
        refine ⟨rfl, .inl ⟨_, rfl, ?_⟩⟩
        obtain ⟨a, c⟩ := brgAB_bd v
        obtain ⟨f0, f1⟩ := brgF_bd hb'.1 hb'.2 (show 0 ≤ distI x y cx cy + 1 + radI cx cy bx b2 by omega) (by omega)
        have pa := mul_bd a.1 a.2 (show -2000000 ≤ x by omega) (by omega)
        have pb := mul_bd c.1 c.2 (show -2000000 ≤ y by omega) (by omega)
        unfold SmallM brgM
        simp only
        exact ⟨a, c, brg_nz v, by omega, by omega⟩
  · left
    unfold rowsF; rw [if_neg h]
    exact ⟨h, rfl⟩
end Go.Proofs.YtajmjkliblippaaGreatDoor.S41
