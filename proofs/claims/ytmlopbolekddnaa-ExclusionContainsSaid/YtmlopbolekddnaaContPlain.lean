/-
  What the law ExclusionContains looks at: a point that meets all measurements has its value within the bounds.
-/
import Derived.Test.YtmlopbolekddnaaNestPlain
namespace Go.Proofs.Ytmlopbolekddnaa
set_option linter.unusedVariables false
open Go.RowKit

theorem bad_rng (l : List Ms) (a b : Int) : (rngF l a b).2 = 0 ∨ (rngF l a b).1 = (0, 0) := by
  unfold rngF
  split
  · split
    · split
      · split
        · exact .inr rfl
        · exact .inl rfl
      · exact .inr rfl
    · exact .inr rfl
  · exact .inr rfl
theorem floor_one (v : Int) : floorI v 1 = v := by unfold floorI; omega
theorem ceil_one (v : Int) : ceilI v 1 = v := by unfold ceilI; omega
/-- what the law looks at -/
def ContOk (r : (Int × Int) × Int) (v a b : Int) : Prop :=
  r.2 = 1 ∨ r.2 = 14 ∨ (r.2 = 0 ∧ vldI r.1.1 r.1.2 = true ∧ r.1.1 ≤ v ∧ v ≤ r.1.2 ∧ -256 ≤ a ∧ a ≤ 256 ∧ -256 ≤ b ∧ b ≤ 256)
theorem cont_ok {l : List Ms} {x y : Int} (a b : Int) (hc : chkL l = 0) (h : allB l x y 0 = true) : ContOk (rngF l a b) (a * x + b * y) a b := by
  unfold rngF
  rw [if_pos hc]
  by_cases hab : abB a b = true
  · rw [if_pos hab]
    obtain ⟨a0, a1, b0, b1⟩ := of_decide_eq_true hab
    by_cases hf : fullB l = true
    · rw [if_pos hf]
      have hin := all_in0 hc h
      have hp := cor_pos hin hf
      rw [if_neg (by omega)]
      have B := bnd_is a b (List.length_pos_iff.1 hp)
      have fl := fit_of (l := l) (a := a) (b := b) (ed_of hc).1 ⟨a0, a1, b0, b1⟩
      obtain ⟨p, hp1, h1⟩ := corner_le a b (by decide) hin (fullB_iff.1 hf)
      obtain ⟨q, hq1, h2⟩ := corner_ge a b (by decide) hin (fullB_iff.1 hf)
      have f1 := (B.all p (mem_corL.2 hp1)).1
      have f2 := (B.all q (mem_corL.2 hq1)).2
      have g1 : loF a b p ≤ floorI (a * x + b * y) 1 := floor_mono (by decide) hp1.pos h1
      have g2 : ceilI (a * x + b * y) 1 ≤ hiF a b q := ceil_mono (by decide) hq1.pos h2
      rw [floor_one] at g1
      rw [ceil_one] at g2
      exact .inr (.inr ⟨rfl, good_vld (bnd_good (List.length_pos_iff.1 hp) fl), by simp only; omega, by simp only; omega, a0, a1, b0, b1⟩)
    · rw [if_neg hf]; exact .inr (.inl rfl)
  · rw [if_neg hab]; exact .inl rfl
set_option maxHeartbeats 4000000 in
theorem has_ok (x0 x1 v : Int) (w : World) (hx : vldI x0 x1 = true) (h0 : x0 ≤ v) (h1 : v ≤ x1) :
    Calls Try.prog 31 #[.agg #[.int .i64 x0, .int .i64 x1], .int .i64 v] w fun e w' => e = .returned (.bool true) ∧ Below w.heap.size w w' := by
  have VI := fun w => vldI_any x0 x1 w
  rw [hx] at VI
  have HV := Lib.hid VI
  have g0 : decide (x0 ≤ v) = true := by simpa using h0
  have g1 : decide (v ≤ x1) = true := by simpa using h1
  have PT := Lib.hid (pt_new x0 x1 w 30)
  have HB0 := Lib.hid ((Below.refl w.heap.size w).alloc (Nat.le_refl _) (.cells #[.int .i64 x0, .int .i64 x1] 30))
  clear VI hx h0 h1
  go_enter Try.func31, Try.ntmps31
  go_wp2_with fail
  generalize w.alloc (.cells #[.int .i64 x0, .int .i64 x1] 30) = w0 at *
  refine (HV.out _).mono ?_
  rintro e w1 ⟨rfl, hb1⟩
  have PT1 := PT.out.below hb1
  have y0 := PT1.c0
  have y1 := PT1.c1
  have y2 := PT1.lt
  have HB1 := Lib.hid (HB0.out.trans (hb1.mono HB0.out.size))
  clear PT1 hb1
  go_wp2
  go_ret
  exact ⟨rfl, HB1.out⟩
end Go.Proofs.Ytmlopbolekddnaa
