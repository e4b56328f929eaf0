/-
  The law AirspeedCrossover holds for every input: below the crossover altitude the schedule keeps the calibrated airspeed, from there on the Mach number. No condition.
-/
import Derived.Test.YtnaokohffelklaaDoorStructs30
import Derived.Test.YtnaokohffelklaaDoorAwake30
import Derived.Test.YtnaokohffelklaaDoorCrossRef
namespace Go.Proofs.YtnaokohffelklaaDoor.airspeedCrossover
set_option linter.unusedVariables false
open Go.ChangeShapes Go.WideShapes Go.ChangeAt Go.RowKit Sq

/-- what the crossover, the schedule, TAS and OfMach give together -/
theorem cross_fact (c m alt dev : Int) {h e s f t g u i : Int} (h1 : crsF c m dev = (h, e)) (h2 : schF c m alt dev = (s, f)) (h3 : tasF c alt dev = (t, g)) (h4 : ofF m alt dev = (u, i)) :
    (f ≠ 0 ∧ s = 0) ∨ (f = 0 ∧ e ≠ 0 ∧ e ≠ 2 ∧ h = 0) ∨ (f = 0 ∧ g = 0 ∧ i = 0 ∧ ((e = 2 ∧ s = t ∧ t < u) ∨ (e = 0 ∧ alt < h ∧ s = t ∧ t < u) ∨ (e = 0 ∧ h ≤ alt ∧ s = u ∧ u ≤ t))) := by
  unfold crsF at h1
  unfold schF at h2
  unfold tasF at h3
  unfold ofF at h4
  by_cases hc : witB c 1000 = true
  · by_cases hm : witB m 2000 = true
    · rw [if_pos hc, if_pos hm] at h1 h2
      rw [if_pos hc] at h3
      rw [if_pos hm] at h4
      by_cases hk : chkI alt dev = 0
      · obtain ⟨ha, hd⟩ := chk_ok hk
        obtain ⟨c0, c1⟩ := wit_iff.1 hc
        have a1 := ha.hi
        have lt := le_mach (m := m) (tas := tasI c alt dev) ha hd
        have hx := cross_is (cas := c) (mach := m) (dev := dev) c0 hd
        have hi := hx.iff c0 ha hd
        have hl := hx.hi
        change m ≤ machI (tasI c alt dev) alt dev ↔ _ at hi
        rw [if_pos hk] at h2 h3 h4
        rw [if_pos ⟨hd.lo, hd.hi⟩] at h1
        obtain ⟨rfl, rfl⟩ := Prod.mk.inj h2
        obtain ⟨rfl, rfl⟩ := Prod.mk.inj h3
        obtain ⟨rfl, rfl⟩ := Prod.mk.inj h4
        refine .inr (.inr ⟨rfl, rfl, rfl, ?_⟩)
        by_cases q : crossI c m dev ≤ alt
        · have := lt.1 (hi.2 q)
          rw [if_neg (by omega)] at h1
          obtain ⟨rfl, rfl⟩ := Prod.mk.inj h1
          exact .inr (.inr ⟨rfl, q, by omega, this⟩)
        · have : ¬ ofI m alt dev ≤ tasI c alt dev := fun z => q (hi.1 (lt.2 z))
          by_cases r : crossI c m dev = 6000001
          · rw [if_pos r] at h1
            obtain ⟨rfl, rfl⟩ := Prod.mk.inj h1
            exact .inl ⟨rfl, by omega, by omega⟩
          · rw [if_neg r] at h1
            obtain ⟨rfl, rfl⟩ := Prod.mk.inj h1
            exact .inr (.inl ⟨rfl, by omega, by omega, by omega⟩)
      · rw [if_neg hk] at h2
        obtain ⟨rfl, rfl⟩ := Prod.mk.inj h2
        exact .inl ⟨hk, rfl⟩
    · rw [if_pos hc, if_neg hm] at h2
      obtain ⟨rfl, rfl⟩ := Prod.mk.inj h2
      exact .inl ⟨by decide, rfl⟩
  · rw [if_neg hc] at h2
    obtain ⟨rfl, rfl⟩ := Prod.mk.inj h2
    exact .inl ⟨by decide, rfl⟩
set_option maxHeartbeats 8000000 in
set_option maxRecDepth 100000 in
theorem walk (c m alt dev : Int) (c_a : -9223372036854775808 ≤ c) (c_b : c ≤ 9223372036854775807) (m_a : -9223372036854775808 ≤ m) (m_b : m ≤ 9223372036854775807) (alt_a : -9223372036854775808 ≤ alt) (alt_b : alt ≤ 9223372036854775807) (dev_a : -9223372036854775808 ≤ dev) (dev_b : dev ≤ 9223372036854775807) (w : World) (hE : Env w) :
    Calls Tryd.prog 7 #[.int .i64 c, .int .i64 m, .agg #[.int .i64 alt, .int .i64 dev]] w fun e w' => e = .returned (.bool true) ∧ Below w.heap.size w w' := by
  have HE := Lib.hid hE
  clear hE
  obtain ⟨⟨h, e⟩, h1⟩ : ∃ p, crsF c m dev = p := ⟨_, rfl⟩
  obtain ⟨⟨s, f⟩, h2⟩ : ∃ p, schF c m alt dev = p := ⟨_, rfl⟩
  obtain ⟨⟨t, g⟩, h3⟩ : ∃ p, tasF c alt dev = p := ⟨_, rfl⟩
  obtain ⟨⟨u, i⟩, h4⟩ : ∃ p, ofF m alt dev = p := ⟨_, rfl⟩
  have pf := cross_fact c m alt dev h1 h2 h3 h4
  have B0 := fun w => cross_any c m dev w
  have B1 := fun w => sched_any c m alt dev w
  have B2 := fun w => tas_any c alt dev w
  have B3 := fun w => of_any m alt dev w
  rw [h1] at B0
  rw [h2] at B1
  rw [h3] at B2
  rw [h4] at B3
  have A0 := Lib.hid B0
  have A1 := Lib.hid B1
  have A2 := Lib.hid B2
  have A3 := Lib.hid B3
  clear h1 h2 h3 h4 B0 B1 B2 B3
  rcases pf with ⟨h1, h2⟩ | ⟨h1, h2, h3, h4⟩ | ⟨h1, h2, h3, ⟨h4, h5, h6⟩ | ⟨h4, h5, h6, h7⟩ | ⟨h4, h5, h6, h7⟩⟩
  · have g1 : (f != 0) = true := by simpa using h1
    have g2 : (s == 0) = true := by simpa using h2
    clear h1 h2
    go_enter Tryd.func7, Tryd.ntmps7
    go_wp2_with fail
    have c0_0_0 : (w.alloc (.cells #[.int .i64 alt, .int .i64 dev] 23)).cell? ⟨w.heap.size, 0, none⟩ = some (.int .i64 alt) := by rw [World.cell?_alloc_at _ _ _ _ (by simp)]; rfl
    have c0_0_1 : (w.alloc (.cells #[.int .i64 alt, .int .i64 dev] 23)).cell? ⟨w.heap.size, 1, none⟩ = some (.int .i64 dev) := by rw [World.cell?_alloc_at _ _ _ _ (by simp)]; rfl
    have z0_0 : w.heap.size < (w.alloc (.cells #[.int .i64 alt, .int .i64 dev] 23)).heap.size := by simp; try omega
    have hw0 := Lib.hid ((Below.refl w.heap.size w).alloc (by simp; try omega) (.cells #[.int .i64 alt, .int .i64 dev] 23))
    generalize hW0 : (w.alloc (.cells #[.int .i64 alt, .int .i64 dev] 23)) = w0 at *
    clear hW0
    refine (awake_any _ (HE.out.below hw0.out)).mono ?_
    rintro e w1 ⟨rfl, hb1⟩
    have c1_0_0 := (hb1.cell (p := ⟨w.heap.size, 0, none⟩) z0_0).trans c0_0_0
    have c1_0_1 := (hb1.cell (p := ⟨w.heap.size, 1, none⟩) z0_0).trans c0_0_1
    have z1_0 : w.heap.size < w1.heap.size := Nat.lt_of_lt_of_le z0_0 hb1.size
    have hw1 := Lib.hid (hw0.out.trans (hb1.mono hw0.out.size))
    clear hb1 hw0 c0_0_0 c0_0_1 z0_0
    go_wp2_with fail
    refine (A0.out _).mono ?_
    rintro e w2 ⟨rfl, hb2⟩
    have c2_0_0 := (hb2.cell (p := ⟨w.heap.size, 0, none⟩) z1_0).trans c1_0_0
    have c2_0_1 := (hb2.cell (p := ⟨w.heap.size, 1, none⟩) z1_0).trans c1_0_1
    have z2_0 : w.heap.size < w2.heap.size := Nat.lt_of_lt_of_le z1_0 hb2.size
    have hw2 := Lib.hid (hw1.out.trans (hb2.mono hw1.out.size))
    clear hb2 hw1 c1_0_0 c1_0_1 z1_0
    go_wp2_with fail
    refine (A1.out _).mono ?_
    rintro e w3 ⟨rfl, hb3⟩
    have c3_0_0 := (hb3.cell (p := ⟨w.heap.size, 0, none⟩) z2_0).trans c2_0_0
    have c3_0_1 := (hb3.cell (p := ⟨w.heap.size, 1, none⟩) z2_0).trans c2_0_1
    have z3_0 : w.heap.size < w3.heap.size := Nat.lt_of_lt_of_le z2_0 hb3.size
    have hw3 := Lib.hid (hw2.out.trans (hb3.mono hw2.out.size))
    clear hb3 hw2 c2_0_0 c2_0_1 z2_0
    go_wp2
    all_goals go_ret
    all_goals exact ⟨rfl, hw3.out⟩
  · have g1 : (f != 0) = false := by simpa using h1
    have g2 : (e != 0) = true := by simpa using h2
    have g3 : (e != 2) = true := by simpa using h3
    have g4 : (h == 0) = true := by simpa using h4
    clear h1 h2 h3 h4
    go_enter Tryd.func7, Tryd.ntmps7
    go_wp2_with fail
    have c0_0_0 : (w.alloc (.cells #[.int .i64 alt, .int .i64 dev] 23)).cell? ⟨w.heap.size, 0, none⟩ = some (.int .i64 alt) := by rw [World.cell?_alloc_at _ _ _ _ (by simp)]; rfl
    have c0_0_1 : (w.alloc (.cells #[.int .i64 alt, .int .i64 dev] 23)).cell? ⟨w.heap.size, 1, none⟩ = some (.int .i64 dev) := by rw [World.cell?_alloc_at _ _ _ _ (by simp)]; rfl
    have z0_0 : w.heap.size < (w.alloc (.cells #[.int .i64 alt, .int .i64 dev] 23)).heap.size := by simp; try omega
    have hw0 := Lib.hid ((Below.refl w.heap.size w).alloc (by simp; try omega) (.cells #[.int .i64 alt, .int .i64 dev] 23))
    generalize hW0 : (w.alloc (.cells #[.int .i64 alt, .int .i64 dev] 23)) = w0 at *
    clear hW0
    refine (awake_any _ (HE.out.below hw0.out)).mono ?_
    rintro e w1 ⟨rfl, hb1⟩
    have c1_0_0 := (hb1.cell (p := ⟨w.heap.size, 0, none⟩) z0_0).trans c0_0_0
    have c1_0_1 := (hb1.cell (p := ⟨w.heap.size, 1, none⟩) z0_0).trans c0_0_1
    have z1_0 : w.heap.size < w1.heap.size := Nat.lt_of_lt_of_le z0_0 hb1.size
    have hw1 := Lib.hid (hw0.out.trans (hb1.mono hw0.out.size))
    clear hb1 hw0 c0_0_0 c0_0_1 z0_0
    go_wp2_with fail
    refine (A0.out _).mono ?_
    rintro e w2 ⟨rfl, hb2⟩
    have c2_0_0 := (hb2.cell (p := ⟨w.heap.size, 0, none⟩) z1_0).trans c1_0_0
    have c2_0_1 := (hb2.cell (p := ⟨w.heap.size, 1, none⟩) z1_0).trans c1_0_1
    have z2_0 : w.heap.size < w2.heap.size := Nat.lt_of_lt_of_le z1_0 hb2.size
    have hw2 := Lib.hid (hw1.out.trans (hb2.mono hw1.out.size))
    clear hb2 hw1 c1_0_0 c1_0_1 z1_0
    go_wp2_with fail
    refine (A1.out _).mono ?_
    rintro e w3 ⟨rfl, hb3⟩
    have c3_0_0 := (hb3.cell (p := ⟨w.heap.size, 0, none⟩) z2_0).trans c2_0_0
    have c3_0_1 := (hb3.cell (p := ⟨w.heap.size, 1, none⟩) z2_0).trans c2_0_1
    have z3_0 : w.heap.size < w3.heap.size := Nat.lt_of_lt_of_le z2_0 hb3.size
    have hw3 := Lib.hid (hw2.out.trans (hb3.mono hw2.out.size))
    clear hb3 hw2 c2_0_0 c2_0_1 z2_0
    go_wp2
    all_goals go_ret
    all_goals exact ⟨rfl, hw3.out⟩
  · have g1 : (f != 0) = false := by simpa using h1
    have g2 : (g != 0) = false := by simpa using h2
    have g3 : (i != 0) = false := by simpa using h3
    have g4 : (e != 0) = true := by simpa using (show e ≠ 0 by omega)
    have g5 : (e != 2) = false := by simpa using h4
    have g6 : (e == 2) = true := by simpa using h4
    have g7 : (s == t) = true := by simpa using h5
    have g8 : decide (t < u) = true := by simpa using h6
    clear h1 h2 h3 h4 h5 h6
    go_enter Tryd.func7, Tryd.ntmps7
    go_wp2_with fail
    have c0_0_0 : (w.alloc (.cells #[.int .i64 alt, .int .i64 dev] 23)).cell? ⟨w.heap.size, 0, none⟩ = some (.int .i64 alt) := by rw [World.cell?_alloc_at _ _ _ _ (by simp)]; rfl
    have c0_0_1 : (w.alloc (.cells #[.int .i64 alt, .int .i64 dev] 23)).cell? ⟨w.heap.size, 1, none⟩ = some (.int .i64 dev) := by rw [World.cell?_alloc_at _ _ _ _ (by simp)]; rfl
    have z0_0 : w.heap.size < (w.alloc (.cells #[.int .i64 alt, .int .i64 dev] 23)).heap.size := by simp; try omega
    have hw0 := Lib.hid ((Below.refl w.heap.size w).alloc (by simp; try omega) (.cells #[.int .i64 alt, .int .i64 dev] 23))
    generalize hW0 : (w.alloc (.cells #[.int .i64 alt, .int .i64 dev] 23)) = w0 at *
    clear hW0
    refine (awake_any _ (HE.out.below hw0.out)).mono ?_
    rintro e w1 ⟨rfl, hb1⟩
    have c1_0_0 := (hb1.cell (p := ⟨w.heap.size, 0, none⟩) z0_0).trans c0_0_0
    have c1_0_1 := (hb1.cell (p := ⟨w.heap.size, 1, none⟩) z0_0).trans c0_0_1
    have z1_0 : w.heap.size < w1.heap.size := Nat.lt_of_lt_of_le z0_0 hb1.size
    have hw1 := Lib.hid (hw0.out.trans (hb1.mono hw0.out.size))
    clear hb1 hw0 c0_0_0 c0_0_1 z0_0
    go_wp2_with fail
    refine (A0.out _).mono ?_
    rintro e w2 ⟨rfl, hb2⟩
    have c2_0_0 := (hb2.cell (p := ⟨w.heap.size, 0, none⟩) z1_0).trans c1_0_0
    have c2_0_1 := (hb2.cell (p := ⟨w.heap.size, 1, none⟩) z1_0).trans c1_0_1
    have z2_0 : w.heap.size < w2.heap.size := Nat.lt_of_lt_of_le z1_0 hb2.size
    have hw2 := Lib.hid (hw1.out.trans (hb2.mono hw1.out.size))
    clear hb2 hw1 c1_0_0 c1_0_1 z1_0
    go_wp2_with fail
    refine (A1.out _).mono ?_
    rintro e w3 ⟨rfl, hb3⟩
    have c3_0_0 := (hb3.cell (p := ⟨w.heap.size, 0, none⟩) z2_0).trans c2_0_0
    have c3_0_1 := (hb3.cell (p := ⟨w.heap.size, 1, none⟩) z2_0).trans c2_0_1
    have z3_0 : w.heap.size < w3.heap.size := Nat.lt_of_lt_of_le z2_0 hb3.size
    have hw3 := Lib.hid (hw2.out.trans (hb3.mono hw2.out.size))
    clear hb3 hw2 c2_0_0 c2_0_1 z2_0
    go_wp2_with fail
    refine (A2.out _).mono ?_
    rintro e w4 ⟨rfl, hb4⟩
    have c4_0_0 := (hb4.cell (p := ⟨w.heap.size, 0, none⟩) z3_0).trans c3_0_0
    have c4_0_1 := (hb4.cell (p := ⟨w.heap.size, 1, none⟩) z3_0).trans c3_0_1
    have z4_0 : w.heap.size < w4.heap.size := Nat.lt_of_lt_of_le z3_0 hb4.size
    have hw4 := Lib.hid (hw3.out.trans (hb4.mono hw3.out.size))
    clear hb4 hw3 c3_0_0 c3_0_1 z3_0
    go_wp2_with fail
    refine (A3.out _).mono ?_
    rintro e w5 ⟨rfl, hb5⟩
    have c5_0_0 := (hb5.cell (p := ⟨w.heap.size, 0, none⟩) z4_0).trans c4_0_0
    have c5_0_1 := (hb5.cell (p := ⟨w.heap.size, 1, none⟩) z4_0).trans c4_0_1
    have z5_0 : w.heap.size < w5.heap.size := Nat.lt_of_lt_of_le z4_0 hb5.size
    have hw5 := Lib.hid (hw4.out.trans (hb5.mono hw4.out.size))
    clear hb5 hw4 c4_0_0 c4_0_1 z4_0
    go_wp2
    all_goals go_ret
    all_goals exact ⟨rfl, hw5.out⟩
  · have g1 : (f != 0) = false := by simpa using h1
    have g2 : (g != 0) = false := by simpa using h2
    have g3 : (i != 0) = false := by simpa using h3
    have g4 : (e != 0) = false := by simpa using h4
    have g6 : (e == 2) = false := by simpa using (show e ≠ 2 by omega)
    have g6' : decide (alt < h) = true := by simpa using h5
    have g7 : (s == t) = true := by simpa using h6
    have g8 : decide (t < u) = true := by simpa using h7
    clear h1 h2 h3 h4 h5 h6 h7
    go_enter Tryd.func7, Tryd.ntmps7
    go_wp2_with fail
    have c0_0_0 : (w.alloc (.cells #[.int .i64 alt, .int .i64 dev] 23)).cell? ⟨w.heap.size, 0, none⟩ = some (.int .i64 alt) := by rw [World.cell?_alloc_at _ _ _ _ (by simp)]; rfl
    have c0_0_1 : (w.alloc (.cells #[.int .i64 alt, .int .i64 dev] 23)).cell? ⟨w.heap.size, 1, none⟩ = some (.int .i64 dev) := by rw [World.cell?_alloc_at _ _ _ _ (by simp)]; rfl
    have z0_0 : w.heap.size < (w.alloc (.cells #[.int .i64 alt, .int .i64 dev] 23)).heap.size := by simp; try omega
    have hw0 := Lib.hid ((Below.refl w.heap.size w).alloc (by simp; try omega) (.cells #[.int .i64 alt, .int .i64 dev] 23))
    generalize hW0 : (w.alloc (.cells #[.int .i64 alt, .int .i64 dev] 23)) = w0 at *
    clear hW0
    refine (awake_any _ (HE.out.below hw0.out)).mono ?_
    rintro e w1 ⟨rfl, hb1⟩
    have c1_0_0 := (hb1.cell (p := ⟨w.heap.size, 0, none⟩) z0_0).trans c0_0_0
    have c1_0_1 := (hb1.cell (p := ⟨w.heap.size, 1, none⟩) z0_0).trans c0_0_1
    have z1_0 : w.heap.size < w1.heap.size := Nat.lt_of_lt_of_le z0_0 hb1.size
    have hw1 := Lib.hid (hw0.out.trans (hb1.mono hw0.out.size))
    clear hb1 hw0 c0_0_0 c0_0_1 z0_0
    go_wp2_with fail
    refine (A0.out _).mono ?_
    rintro e w2 ⟨rfl, hb2⟩
    have c2_0_0 := (hb2.cell (p := ⟨w.heap.size, 0, none⟩) z1_0).trans c1_0_0
    have c2_0_1 := (hb2.cell (p := ⟨w.heap.size, 1, none⟩) z1_0).trans c1_0_1
    have z2_0 : w.heap.size < w2.heap.size := Nat.lt_of_lt_of_le z1_0 hb2.size
    have hw2 := Lib.hid (hw1.out.trans (hb2.mono hw1.out.size))
    clear hb2 hw1 c1_0_0 c1_0_1 z1_0
    go_wp2_with fail
    refine (A1.out _).mono ?_
    rintro e w3 ⟨rfl, hb3⟩
    have c3_0_0 := (hb3.cell (p := ⟨w.heap.size, 0, none⟩) z2_0).trans c2_0_0
    have c3_0_1 := (hb3.cell (p := ⟨w.heap.size, 1, none⟩) z2_0).trans c2_0_1
    have z3_0 : w.heap.size < w3.heap.size := Nat.lt_of_lt_of_le z2_0 hb3.size
    have hw3 := Lib.hid (hw2.out.trans (hb3.mono hw2.out.size))
    clear hb3 hw2 c2_0_0 c2_0_1 z2_0
    go_wp2_with fail
    refine (A2.out _).mono ?_
    rintro e w4 ⟨rfl, hb4⟩
    have c4_0_0 := (hb4.cell (p := ⟨w.heap.size, 0, none⟩) z3_0).trans c3_0_0
    have c4_0_1 := (hb4.cell (p := ⟨w.heap.size, 1, none⟩) z3_0).trans c3_0_1
    have z4_0 : w.heap.size < w4.heap.size := Nat.lt_of_lt_of_le z3_0 hb4.size
    have hw4 := Lib.hid (hw3.out.trans (hb4.mono hw3.out.size))
    clear hb4 hw3 c3_0_0 c3_0_1 z3_0
    go_wp2_with fail
    refine (A3.out _).mono ?_
    rintro e w5 ⟨rfl, hb5⟩
    have c5_0_0 := (hb5.cell (p := ⟨w.heap.size, 0, none⟩) z4_0).trans c4_0_0
    have c5_0_1 := (hb5.cell (p := ⟨w.heap.size, 1, none⟩) z4_0).trans c4_0_1
    have z5_0 : w.heap.size < w5.heap.size := Nat.lt_of_lt_of_le z4_0 hb5.size
    have hw5 := Lib.hid (hw4.out.trans (hb5.mono hw4.out.size))
    clear hb5 hw4 c4_0_0 c4_0_1 z4_0
    go_wp2
    all_goals go_ret
    all_goals exact ⟨rfl, hw5.out⟩
  · have g1 : (f != 0) = false := by simpa using h1
    have g2 : (g != 0) = false := by simpa using h2
    have g3 : (i != 0) = false := by simpa using h3
    have g4 : (e != 0) = false := by simpa using h4
    have g6 : (e == 2) = false := by simpa using (show e ≠ 2 by omega)
    have g6' : decide (alt < h) = false := by simpa using h5
    have g7 : (s == u) = true := by simpa using h6
    have g8 : decide (u ≤ t) = true := by simpa using h7
    clear h1 h2 h3 h4 h5 h6 h7
    go_enter Tryd.func7, Tryd.ntmps7
    go_wp2_with fail
    have c0_0_0 : (w.alloc (.cells #[.int .i64 alt, .int .i64 dev] 23)).cell? ⟨w.heap.size, 0, none⟩ = some (.int .i64 alt) := by rw [World.cell?_alloc_at _ _ _ _ (by simp)]; rfl
    have c0_0_1 : (w.alloc (.cells #[.int .i64 alt, .int .i64 dev] 23)).cell? ⟨w.heap.size, 1, none⟩ = some (.int .i64 dev) := by rw [World.cell?_alloc_at _ _ _ _ (by simp)]; rfl
    have z0_0 : w.heap.size < (w.alloc (.cells #[.int .i64 alt, .int .i64 dev] 23)).heap.size := by simp; try omega
    have hw0 := Lib.hid ((Below.refl w.heap.size w).alloc (by simp; try omega) (.cells #[.int .i64 alt, .int .i64 dev] 23))
    generalize hW0 : (w.alloc (.cells #[.int .i64 alt, .int .i64 dev] 23)) = w0 at *
    clear hW0
    refine (awake_any _ (HE.out.below hw0.out)).mono ?_
    rintro e w1 ⟨rfl, hb1⟩
    have c1_0_0 := (hb1.cell (p := ⟨w.heap.size, 0, none⟩) z0_0).trans c0_0_0
    have c1_0_1 := (hb1.cell (p := ⟨w.heap.size, 1, none⟩) z0_0).trans c0_0_1
    have z1_0 : w.heap.size < w1.heap.size := Nat.lt_of_lt_of_le z0_0 hb1.size
    have hw1 := Lib.hid (hw0.out.trans (hb1.mono hw0.out.size))
    clear hb1 hw0 c0_0_0 c0_0_1 z0_0
    go_wp2_with fail
    refine (A0.out _).mono ?_
    rintro e w2 ⟨rfl, hb2⟩
    have c2_0_0 := (hb2.cell (p := ⟨w.heap.size, 0, none⟩) z1_0).trans c1_0_0
    have c2_0_1 := (hb2.cell (p := ⟨w.heap.size, 1, none⟩) z1_0).trans c1_0_1
    have z2_0 : w.heap.size < w2.heap.size := Nat.lt_of_lt_of_le z1_0 hb2.size
    have hw2 := Lib.hid (hw1.out.trans (hb2.mono hw1.out.size))
    clear hb2 hw1 c1_0_0 c1_0_1 z1_0
    go_wp2_with fail
    refine (A1.out _).mono ?_
    rintro e w3 ⟨rfl, hb3⟩
    have c3_0_0 := (hb3.cell (p := ⟨w.heap.size, 0, none⟩) z2_0).trans c2_0_0
    have c3_0_1 := (hb3.cell (p := ⟨w.heap.size, 1, none⟩) z2_0).trans c2_0_1
    have z3_0 : w.heap.size < w3.heap.size := Nat.lt_of_lt_of_le z2_0 hb3.size
    have hw3 := Lib.hid (hw2.out.trans (hb3.mono hw2.out.size))
    clear hb3 hw2 c2_0_0 c2_0_1 z2_0
    go_wp2_with fail
    refine (A2.out _).mono ?_
    rintro e w4 ⟨rfl, hb4⟩
    have c4_0_0 := (hb4.cell (p := ⟨w.heap.size, 0, none⟩) z3_0).trans c3_0_0
    have c4_0_1 := (hb4.cell (p := ⟨w.heap.size, 1, none⟩) z3_0).trans c3_0_1
    have z4_0 : w.heap.size < w4.heap.size := Nat.lt_of_lt_of_le z3_0 hb4.size
    have hw4 := Lib.hid (hw3.out.trans (hb4.mono hw3.out.size))
    clear hb4 hw3 c3_0_0 c3_0_1 z3_0
    go_wp2_with fail
    refine (A3.out _).mono ?_
    rintro e w5 ⟨rfl, hb5⟩
    have c5_0_0 := (hb5.cell (p := ⟨w.heap.size, 0, none⟩) z4_0).trans c4_0_0
    have c5_0_1 := (hb5.cell (p := ⟨w.heap.size, 1, none⟩) z4_0).trans c4_0_1
    have z5_0 : w.heap.size < w5.heap.size := Nat.lt_of_lt_of_le z4_0 hb5.size
    have hw5 := Lib.hid (hw4.out.trans (hb5.mono hw4.out.size))
    clear hb5 hw4 c4_0_0 c4_0_1 z4_0
    go_wp2
    all_goals go_ret
    all_goals exact ⟨rfl, hw5.out⟩

/-! ### the row's step -/
set_option maxRecDepth 100000 in
theorem contract (H : Type) (enc : TypeId × Value → H) (W : World) (base : Nat) (args : Array Value) (ds gs : List (DataW H)) (before : List MemPlace)
    (hval : ∀ (j : Nat) t v, Tryd.f7.params[j]? = some t → args[j]? = some v → Value.okWide Tryd.prog W .any base t v)
    (hW : DataW.Whole enc Tryd.prog Tryd.f7.params.toList Rows.airspeedCrossoverSpec.vars false W args.toList ds gs before) (hL : laidMetH Tryd.prog Rows.airspeedCrossoverRow.laid W) (hsh : W.ShapedOpen Tryd.prog) :
    Calls Tryd.prog 7 args W fun e W' => ∃ v, e = .returned v ∧ Rows.airspeedCrossoverSpec.post enc Tryd.prog Tryd.f7 false true false false W args v W' := by
  have hW' := hW
  obtain ⟨p, q, hA0, hV, rfl, hfz, hnd⟩ := hW
  have hA : DataW.TrodAll enc Tryd.prog W 0 (fun _ => true) true Tryd.f7.params.toList args.toList ds p := hA0
  rw [Tryd.params7] at hA hval
  obtain ⟨v0, vs0, d0, ds0, p0, q0, hargs, rfl, rfl, h0, r0⟩ := trodAll_cons hA
  obtain ⟨v1, vs1, d1, ds1, p1, q1, rfl, rfl, rfl, h1, r1⟩ := trodAll_cons r0
  obtain ⟨v2, vs2, d2, ds2, p2, q2, rfl, rfl, rfl, h2, r2⟩ := trodAll_cons r1
  obtain ⟨rfl, rfl, rfl⟩ := trodAll_nil r2
  obtain rfl : args = #[v0, v1, v2] := by cases args; simp_all
  obtain ⟨rfl, rfl⟩ := trodVars_none hV
  obtain ⟨a0, rfl, rfl, rfl, w0⟩ := open_int Tryd.underlying2 (hval 0 2 v0 rfl rfl) h0
  obtain ⟨a1, rfl, rfl, rfl, w1⟩ := open_int Tryd.underlying2 (hval 1 2 v1 rfl rfl) h1
  obtain ⟨x2_0, x2_1, rfl, rfl, rfl, w2_0, w2_1⟩ := open_air (hval 2 23 v2 rfl rfl) h2
  clear hA0
  simp only [List.append_nil] at hW'
  refine (walk a0 a1 x2_0 x2_1 (bd64 w0).1 (bd64 w0).2 (bd64 w1).1 (bd64 w1).2 (bd64 w2_0).1 (bd64 w2_0).2 (bd64 w2_1).1 (bd64 w2_1).2 W (env_of hL hsh)).mono fun e W' ⟨he, hb⟩ => ?_
  subst he
  exact ⟨_, rfl, post_of_below (pa := []) (pv := []) hW' (fun _ _ _ => trodAll_cons_mk (shut_bool Tryd.underlying4 _) trodAll_mk0) (fun sp _ => (trodAll_cons_mk (shut_int Tryd.underlying2 w0) (trodAll_cons_mk (shut_int Tryd.underlying2 w1) (trodAll_cons_mk (shut_air w2_0 w2_1) trodAll_mk0)))) (fun _ _ => rfl) rfl
    hb (ok_one (by kernel_rfl) rfl (okWide_bool_mk Tryd.underlying4 _))⟩

theorem reads (os : Os) {H : Type} (enc : TypeId × Value → H) : ∃ places, DataW.whole enc Tryd.prog ((laidWorld os).forCall (fun _ _ => 0) ⟨#[], #[.int .i64 0, .int .i64 0, .agg #[.int .i64 0, .int .i64 0]], []⟩).memory Tryd.f7.params.toList Rows.airspeedCrossoverSpec.vars false (#[.int .i64 0, .int .i64 0, .agg #[.int .i64 0, .int .i64 0]] : Array Value).toList 8 = some ([.lit (.int .i64 0), .lit (.int .i64 0), .agg [.lit (.int .i64 0), .lit (.int .i64 0)]], [], places) :=
  ⟨[], by kernel_rfl⟩

set_option maxRecDepth 100000 in
theorem lifted (os : Os) (started : os.Started) (H : Type) (enc : TypeId × Value → H) (F : Stop.Interp) :
    ReturnsInHanded {} Tryd.checked os 7 .any ((OpenSpec.ofChange Rows.airspeedCrossoverSpec).preRow enc Tryd.prog Tryd.f7 Rows.airspeedCrossoverRow.domain false Rows.airspeedCrossoverRow.laid) (((OpenSpec.ofChange Rows.airspeedCrossoverSpec).at F).post enc Tryd.prog Tryd.f7 false true false false) := by
  obtain ⟨places, hx⟩ := reads os enc
  refine returnsInHanded_of_row (C := Tryd.checked) (s := OpenSpec.ofChange Rows.airspeedCrossoverSpec) own started (by kernel_rfl) Tryd.func7
    (witness_row_at (enc := enc) (C := Tryd.checked) false (laidWorld os) #[.int .i64 0, .int .i64 0, .agg #[.int .i64 0, .int .i64 0]] rfl (by kernel_rfl) (by kernel_rfl) (by kernel_rfl)
      (OpenSpec.preRow_of_cond 8 hx (by kernel_rfl) (fun k hk => by cases hk) (by kernel_rfl) (laid_met_any os _))) ?_
  intro W base args ds gs before hval hW _ _ _ hL hsh _
  exact contract H enc W base args ds gs before hval hW hL hsh

theorem said : Rows.AirspeedCrossoverSaid :=
  OpenClaim.holds_of_cond 7 Tryd.f7 rfl rfl rfl rfl rfl rfl rfl ⟨rfl, rfl, rfl, rfl, rfl⟩ rfl rfl rfl rfl rfl (by kernel_rfl) Tryd.func7 (by kernel_rfl)
    (of_decide_eq_true (by kernel_rfl)) (by unfold Func.isWrapper; first | (rw [if_pos (by decide +kernel)]; kernel_rfl) | (rw [if_neg (by decide +kernel)]; exact ⟨rfl, rfl⟩))
    (fun os started H enc _ F => by rw [OpenClaim.pre_eq_preRow]; exact lifted os started H enc F)

theorem plain (f : FuncId) (fn : Func) (hf : Tryd.pinned.checked.prog.funcNamed "flightdeck/flightdecklaw30.AirspeedCrossover" = some f) (hfn : Tryd.pinned.checked.prog.funcs[f]? = some fn) :
    false = Tryd.pinned.checked.prog.looks [] ∧ ∀ (j : Nat) t, fn.params[j]? = some t → Tryd.pinned.checked.prog.wantsStandIn t = false := by
  obtain rfl : f = 7 := Option.some.inj ((show Tryd.prog.funcNamed "flightdeck/flightdecklaw30.AirspeedCrossover" = some 7 by kernel_rfl).symm.trans hf) |>.symm
  obtain rfl : fn = Tryd.f7 := (Option.some.inj (Tryd.func7.symm.trans hfn)).symm
  refine ⟨by kernel_rfl, fun j t ht => ?_⟩
  rw [Tryd.params7] at ht
  have hm := Array.mem_of_getElem? ht
  simp only [List.mem_toArray, List.mem_cons, List.not_mem_nil, or_false] at hm
  rcases hm with rfl | rfl | rfl
  · exact (show Tryd.prog.wantsStandIn 2 = false by kernel_rfl)
  · exact (show Tryd.prog.wantsStandIn 2 = false by kernel_rfl)
  · exact (show Tryd.prog.wantsStandIn 23 = false by kernel_rfl)
/-- the law -/
theorem card : Rows.AirspeedCrossoverCardSaid :=
  Claim7.holds_tied_plain_at .later [] _ _ _ _ said (fun _ h => by cases h) (by kernel_rfl) (fun _ h => by cases h) airspeedCrossover_row_tie rfl ⟨rfl, rfl⟩ (by kernel_rfl) rfl plain (by kernel_rfl)
end Go.Proofs.YtnaokohffelklaaDoor.airspeedCrossover
