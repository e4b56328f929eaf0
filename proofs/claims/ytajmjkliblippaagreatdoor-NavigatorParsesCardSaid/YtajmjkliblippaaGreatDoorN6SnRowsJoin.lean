/-
  Of the text SnRowsJoin: what is wanted here.
-/
import Derived.Test.YtajmjkliblippaaGreatDoorN6SnRowsPos
import Derived.Test.YtajmjkliblippaaGreatDoorN6SnRowsRng
import Derived.Test.YtajmjkliblippaaGreatDoorN6SnRowsBrg
import Derived.Test.YtajmjkliblippaaGreatDoorN6SnRowsBase
namespace Go.Proofs.YtajmjkliblippaaGreatDoor.S41
set_option linter.unusedVariables false
open Go.RowKit Tr Sq
theorem mul_bd {a x k c : Int} (a0 : -k ≤ a) (a1 : a ≤ k) (x0 : -c ≤ x) (x1 : x ≤ c) : -(k * c) ≤ a * x ∧ a * x ≤ k * c := by
  have hk : 0 ≤ k := by omega
  have hc : 0 ≤ c := by omega
  rcases Int.le_total 0 a with ha | ha
  · have h1 := Int.mul_le_mul_of_nonneg_left x1 ha
    have h2 := Int.mul_le_mul_of_nonneg_left x0 ha
    have h3 := Int.mul_le_mul_of_nonneg_right a1 hc
    rw [Int.mul_neg] at h2
    omega
  · have h1 := Int.mul_le_mul_of_nonneg_left x1 (show 0 ≤ -a by omega)
    have h2 := Int.mul_le_mul_of_nonneg_left x0 (show 0 ≤ -a by omega)
    have h3 := Int.mul_le_mul_of_nonneg_right (show -a ≤ k by omega) hc
    simp only [Int.neg_mul, Int.mul_neg, Int.neg_neg] at h1 h2 h3
    omega
theorem ceil_bd {p c m : Int} (hc : 0 < c) (h0 : 0 ≤ p) (h1 : p ≤ m * c) : 0 ≤ ceilI p c ∧ ceilI p c ≤ m := by
  unfold ceilI
  constructor
  · have : (-p) / c ≤ 0 := by
      have := Int.ediv_le_ediv hc (show -p ≤ 0 by omega)
      rwa [Int.zero_ediv] at this
    omega
  · have : -m ≤ (-p) / c := by
      rw [Int.le_ediv_iff_mul_le hc, Int.neg_mul]
      omega
    omega
theorem K_bd {K : Int} (K0 : 0 ≤ K) (K1 : K ≤ 2828428) : 0 ≤ K * K ∧ K * K ≤ 9000000000000 := by
  obtain ⟨a, b⟩ := sq_bd (x := K) (k := 2828428) (by omega) K1
  omega
theorem rngF_bd {D K : Int} (K0 : 0 ≤ K) (K1 : K ≤ 2828428) (h1 : 6000 ≤ D) (h2 : 4 * K ≤ D) : 0 ≤ rngF D K ∧ rngF D K ≤ 500000 := by
  have hp : K * K ≤ 500000 * (2 * (D - K)) := by
    have h3 : K * K ≤ 2828428 * K := Int.mul_le_mul_of_nonneg_right K1 K0
    omega
  exact ceil_bd (by omega) (Sq.sq_nonneg K) hp
theorem rngAB_bd {x y cx cy D : Int} (hp : (pvB x y && pvB cx cy) = true) (eD : distI x y cx cy = D) (hD : 0 < D) : (-256 ≤ rngA x cx D ∧ rngA x cx D ≤ 256) ∧ (-256 ≤ rngA y cy D ∧ rngA y cy D ≤ 256) := by
  have h := side_dist hp
  rw [eD] at h
  exact ⟨near_bd2 hD (by omega) (by omega), near_bd2 hD (by omega) (by omega)⟩
theorem sin_pos {b : Int} (h0 : 0 ≤ b) (h1 : b ≤ 3600000) : 0 ≤ sinI b ∧ sinI b ≤ 1073741824 := by
  refine ⟨?_, (sinI_range b).2⟩
  rw [sinI_oct h0 (by omega)]
  exact (sineI_range h0 (by omega)).1
theorem brgG_bd {G s : Int} (G0 : 0 ≤ G) (G1 : G ≤ 8485283) (s0 : 0 ≤ s) (s1 : s ≤ 1073741824) : 0 ≤ 256 * G * (s + 2) ∧ 256 * G * (s + 2) ≤ 2172232453 * 1073741824 := by
  have a : 0 ≤ G * (s + 2) := Int.mul_nonneg G0 (by omega)
  have b : G * (s + 2) ≤ 8485283 * (s + 2) := Int.mul_le_mul_of_nonneg_right G1 (by omega)
  have e : 256 * G * (s + 2) = 256 * (G * (s + 2)) := Int.mul_assoc _ _ _
  rw [e]
  omega
theorem brgAB_bd (v : Int) : (-256 ≤ brgA v ∧ brgA v ≤ 256) ∧ (-256 ≤ brgB v ∧ brgB v ≤ 256) := by
  have a := cosI_range v
  have b := sinI_range v
  exact ⟨near_bd2 (by decide) (by omega) (by omega), near_bd2 (by decide) (by omega) (by omega)⟩
theorem brgF_bd {b G : Int} (h0 : 0 ≤ b) (h1 : b ≤ 3600000) (G0 : 0 ≤ G) (G1 : G ≤ 8485283) : 0 ≤ brgF b G ∧ brgF b G ≤ 2172232453 := by
  obtain ⟨a, c⟩ := sin_pos h0 h1
  obtain ⟨d, e⟩ := brgG_bd G0 G1 a c
  exact ceil_bd (by decide) d e
def RowsE (w : World) (r : List Ms × Int) (e : Ending) (w' : World) : Prop := ∃ u, e = .returned (.tuple #[u, .int .i64 r.2]) ∧ RowsIs w r.1 u w' ∧ Below w.heap.size w w'
set_option maxHeartbeats 2000000 in
set_option maxRecDepth 100000 in
theorem rows_err1 (s k x y v b wt t cx cy bx b2 : Int) (w : World) (k0 : 0 ≤ k) (k1 : k ≤ 255) (h : checkI s k x y v b wt t ≠ 0) :
    Calls Tryz.prog 20 #[.agg #[.int .i64 s, .int .u8 k, .int .i64 x, .int .i64 y, .int .i64 v, .int .i64 b, .int .i64 wt, .int .i64 t], .agg #[.int .i64 cx, .int .i64 cy, .int .i64 bx, .int .i64 b2]] w (RowsE w ([], checkI s k x y v b wt t)) := by
  have C0 := fun w => check_any s k x y v b wt t w k0 k1
  have g1 : (checkI s k x y v b wt t == 0) = false := by simpa using h
  have g1' : (checkI s k x y v b wt t != 0) = true := by simpa using h
  clear h
  generalize checkI s k x y v b wt t = en at *
  have C := Lib.hid C0
  clear C0
  go_enter Tryz.func20, Tryz.ntmps20
  go_wp2_with fail
  refine (C.out _).mono ?_
  rintro e w1 ⟨rfl, hb⟩
  go_wp2
  go_ret2
  exact ⟨_, rfl, .inl ⟨rfl, rfl⟩, below_two hb⟩
set_option maxHeartbeats 2000000 in
set_option maxRecDepth 100000 in
theorem rows_err2 (s k x y v b wt t cx cy bx b2 : Int) (w : World) (k0 : 0 ≤ k) (k1 : k ≤ 255) (h : checkI s k x y v b wt t = 0) (hv : boxV cx cy bx b2 = false) :
    Calls Tryz.prog 20 #[.agg #[.int .i64 s, .int .u8 k, .int .i64 x, .int .i64 y, .int .i64 v, .int .i64 b, .int .i64 wt, .int .i64 t], .agg #[.int .i64 cx, .int .i64 cy, .int .i64 bx, .int .i64 b2]] w (RowsE w ([], 1)) := by
  have C0 := fun w => check_any s k x y v b wt t w k0 k1
  have V0 := fun w => boxv_any cx cy bx b2 w
  rw [h] at C0
  rw [hv] at V0
  have C := Lib.hid C0
  have V := Lib.hid V0
  clear C0 V0 h hv
  go_enter Tryz.func20, Tryz.ntmps20
  go_wp2_with fail
  refine (C.out _).mono ?_
  rintro e w1 ⟨rfl, hb⟩
  obtain ⟨hc, hf⟩ := bcell hb
  have hz1 : w.heap.size + 1 < w1.heap.size := by have := hb.size; simp at this; omega
  go_wp2_with fail
  refine (V.out _).mono ?_
  rintro e w2 ⟨rfl, hb2⟩
  have HB := Lib.hid ((below_two hb).trans (hb2.mono (below_two hb).size))
  clear hb hb2 hc hf
  go_wp2
  go_ret2
  exact ⟨_, rfl, .inl ⟨rfl, rfl⟩, HB.out⟩
theorem rows_any (s k x y v b wt t cx cy bx b2 : Int) (w : World) (k0 : 0 ≤ k) (k1 : k ≤ 255) :
    Calls Tryz.prog 20 #[.agg #[.int .i64 s, .int .u8 k, .int .i64 x, .int .i64 y, .int .i64 v, .int .i64 b, .int .i64 wt, .int .i64 t], .agg #[.int .i64 cx, .int .i64 cy, .int .i64 bx, .int .i64 b2]] w (RowsE w (rowsF s k x y v b wt t cx cy bx b2)) := by
  by_cases h : checkI s k x y v b wt t = 0
  · cases hv : boxV cx cy bx b2 with
    | false =>
      have e : rowsF s k x y v b wt t cx cy bx b2 = ([], 1) := by unfold rowsF; rw [if_pos h, if_neg (by rw [hv]; decide)]
      rw [e]
      exact rows_err2 s k x y v b wt t cx cy bx b2 w k0 k1 h hv
    | true =>
      obtain ⟨-, hk, ⟨x0, x1, y0, y1⟩, -, -, -, -⟩ := check_bd h
      obtain ⟨hA, hR⟩ := check_ok.1 h
      have hR' := okR_iff.1 hR
      have bx' := boxV_iff.1 hv
      have hp : (pvB x y && pvB cx cy) = true := by
        rw [Bool.and_eq_true]; exact ⟨(okA_iff.1 hA).2.2.2.1 |> pvB_iff.2, pvB_iff.2 bx'.1⟩
      obtain ⟨K0, K1⟩ := rad_bd hv
      obtain ⟨D0, D1⟩ := dist_bd x y cx cy
      rcases hk with rfl | rfl | rfl
      · have e : rowsF s 1 x y v b wt t cx cy bx b2 = ([⟨s, 256, 0, 256 * x, 256 * b, wt⟩, ⟨s, 0, 256, 256 * y, 256 * b, wt⟩], 0) := by unfold rowsF; rw [if_pos h, if_pos hv, if_pos rfl]
        rw [e]
        have hb' : 0 ≤ b ∧ b ≤ 600000 := hR'.2.1
        exact rows_pos s x y v b wt t cx cy bx b2 w h (by unfold wrap64; omega) (by unfold wrap64; omega) (by unfold wrap64; omega) hv
      · by_cases hg : distI x y cx cy < 6000 ∨ distI x y cx cy < 4 * radI cx cy bx b2
        · have e : rowsF s 2 x y v b wt t cx cy bx b2 = ([], 10) := by unfold rowsF; rw [if_pos h, if_pos hv, if_neg (by decide), if_pos rfl, if_pos hg]
          rw [e]
          exact rows_rng_no s x y v b wt t cx cy bx b2 _ _ w h hv rfl rfl ⟨x0, x1⟩ ⟨y0, y1⟩ (by omega) (by omega) hR'.2.2 hR'.2.1 K0 K1 D0 D1 hg
        · have e : rowsF s 2 x y v b wt t cx cy bx b2 = ([rngM s x y v b wt cx cy (distI x y cx cy) (radI cx cy bx b2)], 0) := by unfold rowsF; rw [if_pos h, if_pos hv, if_neg (by decide), if_pos rfl, if_neg hg]
          rw [e]
          obtain ⟨a, c⟩ := rngAB_bd hp rfl (by omega)
          obtain ⟨f0, f1⟩ := rngF_bd K0 K1 (show 6000 ≤ distI x y cx cy by omega) (by omega)
          have pa := mul_bd a.1 a.2 (show -2000000 ≤ cx by omega) (by omega)
          have pb := mul_bd c.1 c.2 (show -2000000 ≤ cy by omega) (by omega)
          exact rows_rng_ok s x y v b wt t cx cy bx b2 _ _ _ _ _ w h hv rfl rfl ⟨x0, x1⟩ ⟨y0, y1⟩ (by omega) (by omega) hR'.2.2 hR'.2.1 K0 K1 D0 D1 (by omega) (by omega) rfl rfl rfl a c ⟨f0, by omega⟩ (by omega) (by omega) (K_bd K0 K1)
      · have e : rowsF s 3 x y v b wt t cx cy bx b2 = ([brgM s x y v b wt (distI x y cx cy) (radI cx cy bx b2)], 0) := by unfold rowsF; rw [if_pos h, if_pos hv, if_neg (by decide), if_neg (by decide)]
        rw [e]
        obtain ⟨a, c⟩ := brgAB_bd v
        have hb' : 0 ≤ b ∧ b ≤ 3600000 := hR'.2.1
        obtain ⟨f0, f1⟩ := brgF_bd hb'.1 hb'.2 (show 0 ≤ distI x y cx cy + 1 + radI cx cy bx b2 by omega) (by omega)
        have pa := mul_bd a.1 a.2 (show -2000000 ≤ x by omega) (by omega)
        have pb := mul_bd c.1 c.2 (show -2000000 ≤ y by omega) (by omega)
        obtain ⟨g0, g1⟩ := brgG_bd (show 0 ≤ distI x y cx cy + 1 + radI cx cy bx b2 by omega) (by omega) (sin_pos hb'.1 hb'.2).1 (sin_pos hb'.1 hb'.2).2
        exact rows_brg s x y v b wt t cx cy bx b2 _ _ _ _ _ w h hv rfl rfl ⟨x0, x1⟩ ⟨y0, y1⟩ hR'.2.2 hb' K0 K1 D0 D1 rfl rfl rfl a c ⟨f0, by omega⟩ (by omega) (by omega) (cosI_range v) (sinI_range v) (sin_pos hb'.1 hb'.2) ⟨g0, by omega⟩
  · have e : rowsF s k x y v b wt t cx cy bx b2 = ([], checkI s k x y v b wt t) := by unfold rowsF; rw [if_neg h]
    rw [e]
    exact rows_err1 s k x y v b wt t cx cy bx b2 w k0 k1 h
end Go.Proofs.YtajmjkliblippaaGreatDoor.S41
