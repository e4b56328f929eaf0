/-
  The ground speed of each airspeed and each wind of a set lies in the interval of ground speeds. Plain.
-/
import Derived.Test.YtdfpbojlimeccaaDoorWindPlain
namespace Go.Proofs.YtdfpbojlimeccaaDoor
set_option linter.unusedVariables false
open Tr Sq

/-- a multiple of a number between two others -/
theorem mul_between {lo hi e s : Int} (h0 : lo ≤ e) (h1 : e ≤ hi) : (lo * s ≤ e * s ∧ e * s ≤ hi * s) ∨ (hi * s ≤ e * s ∧ e * s ≤ lo * s) := by
  rcases Int.le_total 0 s with h | h
  · exact .inl ⟨Int.mul_le_mul_of_nonneg_right h0 h, Int.mul_le_mul_of_nonneg_right h1 h⟩
  · exact .inr ⟨Int.mul_le_mul_of_nonpos_right h1 h, Int.mul_le_mul_of_nonpos_right h0 h⟩
theorem along_between {c el eh nl nh e n : Int} (h0 : el ≤ e) (h1 : e ≤ eh) (h2 : nl ≤ n) (h3 : n ≤ nh) :
    giA0 c el eh nl nh ≤ alongI c e n ∧ alongI c e n ≤ giA1 c el eh nl nh := by
  have a := mul_between (s := sinI c) h0 h1
  have b := mul_between (s := cosI c) h2 h3
  unfold giA0 giA1 mn4 mx4 alongI shf
  generalize el * sinI c = p1 at *
  generalize eh * sinI c = p2 at *
  generalize e * sinI c = p3 at *
  generalize nl * cosI c = q1 at *
  generalize nh * cosI c = q2 at *
  generalize n * cosI c = q3 at *
  omega
theorem across_between {c el eh nl nh e n : Int} (h0 : el ≤ e) (h1 : e ≤ eh) (h2 : nl ≤ n) (h3 : n ≤ nh) :
    giC0 c el eh nl nh ≤ acrossI c e n ∧ acrossI c e n ≤ giC1 c el eh nl nh := by
  have a := mul_between (s := cosI c) h0 h1
  have b := mul_between (s := sinI c) h2 h3
  unfold giC0 giC1 mn4 mx4 acrossI shf
  generalize el * cosI c = p1 at *
  generalize eh * cosI c = p2 at *
  generalize e * cosI c = p3 at *
  generalize nl * sinI c = q1 at *
  generalize nh * sinI c = q2 at *
  generalize n * sinI c = q3 at *
  omega
theorem sq_abs_le {x y : Int} (h0 : -y ≤ x) (h1 : x ≤ y) : x * x ≤ y * y := by
  rcases Int.le_total 0 x with h | h
  · exact sq_le h h1
  · have := sq_le (a := -x) (b := y) (by omega) (by omega)
    rwa [Int.neg_mul_neg] at this
theorem far_near {c0 c1 x : Int} (h0 : c0 ≤ x) (h1 : x ≤ c1) : -farI c0 c1 ≤ x ∧ x ≤ farI c0 c1 ∧ 0 ≤ nearI c0 c1 ∧ (nearI c0 c1 ≤ x ∨ nearI c0 c1 ≤ -x) := by
  unfold farI nearI absI
  split <;> split <;> split <;> omega

theorem encloses {c tl th el eh nl nh t e n lo hi : Int} (hg : groundInF c tl th el eh nl nh = (lo, hi, 0)) (t0 : tl ≤ t) (t1 : t ≤ th) (hw : withinB el eh nl nh e n = true) :
    ∃ g d, groundF c t e n = (g, d, 0) ∧ 1024 ≤ g ∧ g ≤ 8192000 ∧ 1 ≤ lo ∧ lo ≤ g / 1024 ∧ (g + 1023) / 1024 ≤ hi := by
  obtain ⟨hb, e0, e1, n0, n1⟩ := withinB_iff.1 hw
  have hbb := boxB_iff.1 hb
  unfold groundInF at hg
  split at hg
  case isFalse => simp at hg
  case isTrue hok =>
  obtain ⟨_, k1, k2, k3⟩ := hok
  have hv : vldW e n = true := vldW_iff.2 (by omega)
  obtain ⟨⟨b1, b2⟩, ⟨b3, b4⟩, ⟨b5, b6⟩, b7, b8⟩ := gi_bd (c := c) hb
  obtain ⟨a1, a2⟩ := along_between (c := c) e0 e1 n0 n1
  obtain ⟨a3, a4⟩ := across_between (c := c) e0 e1 n0 n1
  generalize giA0 c el eh nl nh = A0 at *
  generalize giA1 c el eh nl nh = A1 at *
  generalize giC0 c el eh nl nh = C0 at *
  generalize giC1 c el eh nl nh = C1 at *
  obtain ⟨f1, f2, f3, f4⟩ := far_near a3 a4
  obtain ⟨f5, f6⟩ := far_bd b5 b6 b7 b8
  obtain ⟨f7, f8⟩ := near_bd b5 b6 b7 b8
  unfold giEnd at hg
  split at hg
  · simp at hg
  · split at hg
    · simp at hg
    · rename_i g1 g2
      have al := along_bd (c := c) hv
      have hx1 : acrossI c e n * acrossI c e n ≤ farI C0 C1 * farI C0 C1 := sq_abs_le f1 f2
      have hx0 : nearI C0 C1 * nearI C0 C1 ≤ acrossI c e n * acrossI c e n := by
        rcases f4 with h | h
        · exact sq_le f3 h
        · have := sq_le f3 h
          rwa [Int.neg_mul_neg] at this
      have hs0 : tl * 1024 * (tl * 1024) ≤ t * 1024 * (t * 1024) := sq_le (by omega) (by omega)
      have hs1 : t * 1024 * (t * 1024) ≤ th * 1024 * (th * 1024) := sq_le (by omega) (by omega)
      have hs2 : th * 1024 * (th * 1024) ≤ 16777216000000 := (sqle (x := th * 1024) (by omega) (by omega)).2
      have hs3 : farI C0 C1 * farI C0 C1 ≤ tl * 1024 * (tl * 1024) := sq_le f5 (by omega)
      have hn : 0 ≤ nearI C0 C1 * nearI C0 C1 := sq_nonneg _
      have r1 := isq_mono (m := tl * 1024 * (tl * 1024) - farI C0 C1 * farI C0 C1) (n := t * 1024 * (t * 1024) - acrossI c e n * acrossI c e n) (by omega) (by omega)
      have r2 := isq_mono (m := t * 1024 * (t * 1024) - acrossI c e n * acrossI c e n) (n := th * 1024 * (th * 1024) - nearI C0 C1 * nearI C0 C1) (by omega) (by omega)
      obtain ⟨r3, r4⟩ := isq_4m (n := t * 1024 * (t * 1024) - acrossI c e n * acrossI c e n) (by omega)
      simp only [Prod.mk.injEq] at hg
      obtain ⟨rfl, rfl, _⟩ := hg
      generalize isq (tl * 1024 * (tl * 1024) - farI C0 C1 * farI C0 C1) = R0 at *
      generalize isq (th * 1024 * (th * 1024) - nearI C0 C1 * nearI C0 C1) = R2 at *
      refine ⟨_, _, by unfold groundF; rw [if_pos ⟨hv, by omega, by omega⟩, if_neg (by omega), if_neg (by omega)], ?_⟩
      generalize isq (t * 1024 * (t * 1024) - acrossI c e n * acrossI c e n) = R1 at *
      generalize alongI c e n = A at *
      omega
end Go.Proofs.YtdfpbojlimeccaaDoor
