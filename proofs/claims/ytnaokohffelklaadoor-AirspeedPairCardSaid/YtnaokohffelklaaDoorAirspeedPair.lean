/-
  The law AirspeedPair holds for every input: a calibrated airspeed gives at least a true airspeed exactly if it is at least the calibrated airspeed of that. No condition.
-/
import Derived.Test.YtnaokohffelklaaDoorStructs30
import Derived.Test.YtnaokohffelklaaDoorAwake30
import Derived.Test.YtnaokohffelklaaDoorCrossRef
namespace Go.Proofs.YtnaokohffelklaaDoor.airspeedPair
set_option linter.unusedVariables false
open Go.ChangeShapes Go.WideShapes Go.ChangeAt Go.RowKit Sq

/-- what TAS and CAS give together -/
theorem pair_fact (c t alt dev : Int) {x e y f : Int} (hx : tasF c alt dev = (x, e)) (hy : casF t alt dev = (y, f)) :
    (e ≠ 0 ∧ x = 0) ∨ (e = 0 ∧ f ≠ 0 ∧ f ≠ 2 ∧ y = 0) ∨ (e = 0 ∧ f = 2 ∧ x < t) ∨ (e = 0 ∧ f = 0 ∧ (t ≤ x ↔ y ≤ c)) := by
  unfold tasF at hx
  unfold casF at hy
  have hb := chk_bd alt dev
  by_cases hc : witB c 1000 = true
  · rw [if_pos hc] at hx
    by_cases hk : chkI alt dev = 0
    · obtain ⟨ha, hd⟩ := chk_ok hk
      have c1 := (wit_iff.1 hc).2
      have lt := le_tas (t := t) (cas := c) ha hd
      rw [if_pos hk] at hx hy
      obtain ⟨rfl, rfl⟩ := Prod.mk.inj hx
      by_cases ht : witB t 4000 = true
      · rw [if_pos ht] at hy
        by_cases h : 1000 < casI t alt dev
        · rw [if_pos h] at hy
          obtain ⟨rfl, rfl⟩ := Prod.mk.inj hy
          refine .inr (.inr (.inl ⟨rfl, rfl, ?_⟩))
          refine Int.not_le.1 fun q => ?_
          have := lt.1 q
          omega
        · rw [if_neg h] at hy
          obtain ⟨rfl, rfl⟩ := Prod.mk.inj hy
          exact .inr (.inr (.inr ⟨rfl, rfl, lt⟩))
      · rw [if_neg ht] at hy
        obtain ⟨rfl, rfl⟩ := Prod.mk.inj hy
        exact .inr (.inl ⟨rfl, by decide, by decide, rfl⟩)
    · rw [if_neg hk] at hx
      obtain ⟨rfl, rfl⟩ := Prod.mk.inj hx
      exact .inl ⟨hk, rfl⟩
  · rw [if_neg hc] at hx
    obtain ⟨rfl, rfl⟩ := Prod.mk.inj hx
    exact .inl ⟨by decide, rfl⟩
set_option maxHeartbeats 8000000 in
set_option maxRecDepth 100000 in
theorem walk (c t alt dev : Int) (c_a : -9223372036854775808 ≤ c) (c_b : c ≤ 9223372036854775807) (t_a : -9223372036854775808 ≤ t) (t_b : t ≤ 9223372036854775807) (alt_a : -9223372036854775808 ≤ alt) (alt_b : alt ≤ 9223372036854775807) (dev_a : -9223372036854775808 ≤ dev) (dev_b : dev ≤ 9223372036854775807) (w : World) (hE : Env w) :
    Calls Tryd.prog 5 #[.int .i64 c, .int .i64 t, .agg #[.int .i64 alt, .int .i64 dev]] w fun e w' => e = .returned (.bool true) ∧ Below w.heap.size w w' := by
  have HE := Lib.hid hE
  clear hE
  obtain ⟨⟨x, e⟩, hx⟩ : ∃ p, tasF c alt dev = p := ⟨_, rfl⟩
  obtain ⟨⟨y, f⟩, hy⟩ : ∃ p, casF t alt dev = p := ⟨_, rfl⟩
  have pf := pair_fact c t alt dev hx hy
  have T := fun w => tas_any c alt dev w
  have C := fun w => cas_any t alt dev w
  rw [hx] at T
  rw [hy] at C
  have A0 := Lib.hid T
  have A1 := Lib.hid C
  clear hx hy T C
  rcases pf with ⟨h1, h2⟩ | ⟨h1, h2, h3, h4⟩ | ⟨h1, h2, h3⟩ | ⟨h1, h2, h3⟩
  · have g1 : (e != 0) = true := by simpa using h1
    have g2 : (x == 0) = true := by simpa using h2
    clear h1 h2
    go_enter Tryd.func5, Tryd.ntmps5
    go_wp2_with fail
    have c0_0_0 : (w.alloc (.cells #[.int .i64 alt, .int .i64 dev] 23)).cell? ⟨w.heap.size, 0, none⟩ = some (.int .i64 alt) := by rw [World.cell?_alloc_at _ _ _ _ (by simp)]; rfl
    have c0_0_1 : (w.alloc (.cells #[.int .i64 alt, .int .i64 dev] 23)).cell? ⟨w.heap.size, 1, none⟩ = some (.int .i64 dev) := by rw [World.cell?_alloc_at _ _ _ _ (by simp)]; rfl
    have z0_0 : w.heap.size < (w.alloc (.cells #[.int .i64 alt, .int .i64 dev] 23)).heap.size := by simp; try omega
    have hw0 := Lib.hid ((Below.refl w.heap.size w).alloc (by simp; try omega) (.cells #[.int .i64 alt, .int .i64 dev] 23))
    generalize hW0 : (w.alloc (.cells #[.int .i64 alt, .int .i64 dev] 23)) = w0 at *
    clear hW0
    refine (awake_any _ (HE.out.below hw0.out)).mono ?_
    rintro e w1 ⟨rfl, hb1⟩
    have c1_0_0 := (hb1.cell (p := ⟨w.heap.size, 0, none⟩) z0_0).trans c0_0_0
    have c1_0_1 := (hb1.cell (p := ⟨w.heap.size, 1, none⟩) z0_0).trans c0_0_1
    have z1_0 : w.heap.size < w1.heap.size := Nat.lt_of_lt_of_le z0_0 hb1.size
    have hw1 := Lib.hid (hw0.out.trans (hb1.mono hw0.out.size))
    clear hb1 hw0 c0_0_0 c0_0_1 z0_0
    go_wp2_with fail
    refine (A0.out _).mono ?_
    rintro e w2 ⟨rfl, hb2⟩
    have c2_0_0 := (hb2.cell (p := ⟨w.heap.size, 0, none⟩) z1_0).trans c1_0_0
    have c2_0_1 := (hb2.cell (p := ⟨w.heap.size, 1, none⟩) z1_0).trans c1_0_1
    have z2_0 : w.heap.size < w2.heap.size := Nat.lt_of_lt_of_le z1_0 hb2.size
    have hw2 := Lib.hid (hw1.out.trans (hb2.mono hw1.out.size))
    clear hb2 hw1 c1_0_0 c1_0_1 z1_0
    go_wp2_with fail
    refine (A1.out _).mono ?_
    rintro e w3 ⟨rfl, hb3⟩
    have c3_0_0 := (hb3.cell (p := ⟨w.heap.size, 0, none⟩) z2_0).trans c2_0_0
    have c3_0_1 := (hb3.cell (p := ⟨w.heap.size, 1, none⟩) z2_0).trans c2_0_1
    have z3_0 : w.heap.size < w3.heap.size := Nat.lt_of_lt_of_le z2_0 hb3.size
    have hw3 := Lib.hid (hw2.out.trans (hb3.mono hw2.out.size))
    clear hb3 hw2 c2_0_0 c2_0_1 z2_0
    go_wp2
    all_goals go_ret
    all_goals exact ⟨rfl, hw3.out⟩
  · have g1 : (e != 0) = false := by simpa using h1
    have g2 : (f != 0) = true := by simpa using h2
    have g3 : (f != 2) = true := by simpa using h3
    have g3' : (f == 2) = false := by simpa using h3
    have g2' : (f == 0) = false := by simpa using h2
    have g4 : (y == 0) = true := by simpa using h4
    clear h1 h2 h3 h4
    go_enter Tryd.func5, Tryd.ntmps5
    go_wp2_with fail
    have c0_0_0 : (w.alloc (.cells #[.int .i64 alt, .int .i64 dev] 23)).cell? ⟨w.heap.size, 0, none⟩ = some (.int .i64 alt) := by rw [World.cell?_alloc_at _ _ _ _ (by simp)]; rfl
    have c0_0_1 : (w.alloc (.cells #[.int .i64 alt, .int .i64 dev] 23)).cell? ⟨w.heap.size, 1, none⟩ = some (.int .i64 dev) := by rw [World.cell?_alloc_at _ _ _ _ (by simp)]; rfl
    have z0_0 : w.heap.size < (w.alloc (.cells #[.int .i64 alt, .int .i64 dev] 23)).heap.size := by simp; try omega
    have hw0 := Lib.hid ((Below.refl w.heap.size w).alloc (by simp; try omega) (.cells #[.int .i64 alt, .int .i64 dev] 23))
    generalize hW0 : (w.alloc (.cells #[.int .i64 alt, .int .i64 dev] 23)) = w0 at *
    clear hW0
    refine (awake_any _ (HE.out.below hw0.out)).mono ?_
    rintro e w1 ⟨rfl, hb1⟩
    have c1_0_0 := (hb1.cell (p := ⟨w.heap.size, 0, none⟩) z0_0).trans c0_0_0
    have c1_0_1 := (hb1.cell (p := ⟨w.heap.size, 1, none⟩) z0_0).trans c0_0_1
    have z1_0 : w.heap.size < w1.heap.size := Nat.lt_of_lt_of_le z0_0 hb1.size
    have hw1 := Lib.hid (hw0.out.trans (hb1.mono hw0.out.size))
    clear hb1 hw0 c0_0_0 c0_0_1 z0_0
    go_wp2_with fail
    refine (A0.out _).mono ?_
    rintro e w2 ⟨rfl, hb2⟩
    have c2_0_0 := (hb2.cell (p := ⟨w.heap.size, 0, none⟩) z1_0).trans c1_0_0
    have c2_0_1 := (hb2.cell (p := ⟨w.heap.size, 1, none⟩) z1_0).trans c1_0_1
    have z2_0 : w.heap.size < w2.heap.size := Nat.lt_of_lt_of_le z1_0 hb2.size
    have hw2 := Lib.hid (hw1.out.trans (hb2.mono hw1.out.size))
    clear hb2 hw1 c1_0_0 c1_0_1 z1_0
    go_wp2_with fail
    refine (A1.out _).mono ?_
    rintro e w3 ⟨rfl, hb3⟩
    have c3_0_0 := (hb3.cell (p := ⟨w.heap.size, 0, none⟩) z2_0).trans c2_0_0
    have c3_0_1 := (hb3.cell (p := ⟨w.heap.size, 1, none⟩) z2_0).trans c2_0_1
    have z3_0 : w.heap.size < w3.heap.size := Nat.lt_of_lt_of_le z2_0 hb3.size
    have hw3 := Lib.hid (hw2.out.trans (hb3.mono hw2.out.size))
    clear hb3 hw2 c2_0_0 c2_0_1 z2_0
    go_wp2
    all_goals go_ret
    all_goals exact ⟨rfl, hw3.out⟩
  · have g1 : (e != 0) = false := by simpa using h1
    have g2 : (f != 0) = true := by simpa using (show f ≠ 0 by omega)
    have g3 : (f != 2) = false := by simpa using h2
    have g3' : (f == 2) = true := by simpa using h2
    have g4 : decide (x < t) = true := by simpa using h3
    clear h1 h2 h3
    go_enter Tryd.func5, Tryd.ntmps5
    go_wp2_with fail
    have c0_0_0 : (w.alloc (.cells #[.int .i64 alt, .int .i64 dev] 23)).cell? ⟨w.heap.size, 0, none⟩ = some (.int .i64 alt) := by rw [World.cell?_alloc_at _ _ _ _ (by simp)]; rfl
    have c0_0_1 : (w.alloc (.cells #[.int .i64 alt, .int .i64 dev] 23)).cell? ⟨w.heap.size, 1, none⟩ = some (.int .i64 dev) := by rw [World.cell?_alloc_at _ _ _ _ (by simp)]; rfl
    have z0_0 : w.heap.size < (w.alloc (.cells #[.int .i64 alt, .int .i64 dev] 23)).heap.size := by simp; try omega
    have hw0 := Lib.hid ((Below.refl w.heap.size w).alloc (by simp; try omega) (.cells #[.int .i64 alt, .int .i64 dev] 23))
    generalize hW0 : (w.alloc (.cells #[.int .i64 alt, .int .i64 dev] 23)) = w0 at *
    clear hW0
    refine (awake_any _ (HE.out.below hw0.out)).mono ?_
    rintro e w1 ⟨rfl, hb1⟩
    have c1_0_0 := (hb1.cell (p := ⟨w.heap.size, 0, none⟩) z0_0).trans c0_0_0
    have c1_0_1 := (hb1.cell (p := ⟨w.heap.size, 1, none⟩) z0_0).trans c0_0_1
    have z1_0 : w.heap.size < w1.heap.size := Nat.lt_of_lt_of_le z0_0 hb1.size
    have hw1 := Lib.hid (hw0.out.trans (hb1.mono hw0.out.size))
    clear hb1 hw0 c0_0_0 c0_0_1 z0_0
    go_wp2_with fail
    refine (A0.out _).mono ?_
    rintro e w2 ⟨rfl, hb2⟩
    have c2_0_0 := (hb2.cell (p := ⟨w.heap.size, 0, none⟩) z1_0).trans c1_0_0
    have c2_0_1 := (hb2.cell (p := ⟨w.heap.size, 1, none⟩) z1_0).trans c1_0_1
    have z2_0 : w.heap.size < w2.heap.size := Nat.lt_of_lt_of_le z1_0 hb2.size
    have hw2 := Lib.hid (hw1.out.trans (hb2.mono hw1.out.size))
    clear hb2 hw1 c1_0_0 c1_0_1 z1_0
    go_wp2_with fail
    refine (A1.out _).mono ?_
    rintro e w3 ⟨rfl, hb3⟩
    have c3_0_0 := (hb3.cell (p := ⟨w.heap.size, 0, none⟩) z2_0).trans c2_0_0
    have c3_0_1 := (hb3.cell (p := ⟨w.heap.size, 1, none⟩) z2_0).trans c2_0_1
    have z3_0 : w.heap.size < w3.heap.size := Nat.lt_of_lt_of_le z2_0 hb3.size
    have hw3 := Lib.hid (hw2.out.trans (hb3.mono hw2.out.size))
    clear hb3 hw2 c2_0_0 c2_0_1 z2_0
    go_wp2
    all_goals go_ret
    all_goals exact ⟨rfl, hw3.out⟩
  · have g1 : (e != 0) = false := by simpa using h1
    have g2 : (f != 0) = false := by simpa using h2
    have g3' : (f == 2) = false := by simpa using (show f ≠ 2 by omega)
    have g4 : decide (t ≤ x) = decide (y ≤ c) := by rw [decide_eq_decide]; exact h3
    clear h1 h2 h3
    go_enter Tryd.func5, Tryd.ntmps5
    go_wp2_with fail
    have c0_0_0 : (w.alloc (.cells #[.int .i64 alt, .int .i64 dev] 23)).cell? ⟨w.heap.size, 0, none⟩ = some (.int .i64 alt) := by rw [World.cell?_alloc_at _ _ _ _ (by simp)]; rfl
    have c0_0_1 : (w.alloc (.cells #[.int .i64 alt, .int .i64 dev] 23)).cell? ⟨w.heap.size, 1, none⟩ = some (.int .i64 dev) := by rw [World.cell?_alloc_at _ _ _ _ (by simp)]; rfl
    have z0_0 : w.heap.size < (w.alloc (.cells #[.int .i64 alt, .int .i64 dev] 23)).heap.size := by simp; try omega
    have hw0 := Lib.hid ((Below.refl w.heap.size w).alloc (by simp; try omega) (.cells #[.int .i64 alt, .int .i64 dev] 23))
    generalize hW0 : (w.alloc (.cells #[.int .i64 alt, .int .i64 dev] 23)) = w0 at *
    clear hW0
    refine (awake_any _ (HE.out.below hw0.out)).mono ?_
    rintro e w1 ⟨rfl, hb1⟩
    have c1_0_0 := (hb1.cell (p := ⟨w.heap.size, 0, none⟩) z0_0).trans c0_0_0
    have c1_0_1 := (hb1.cell (p := ⟨w.heap.size, 1, none⟩) z0_0).trans c0_0_1
    have z1_0 : w.heap.size < w1.heap.size := Nat.lt_of_lt_of_le z0_0 hb1.size
    have hw1 := Lib.hid (hw0.out.trans (hb1.mono hw0.out.size))
    clear hb1 hw0 c0_0_0 c0_0_1 z0_0
    go_wp2_with fail
    refine (A0.out _).mono ?_
    rintro e w2 ⟨rfl, hb2⟩
    have c2_0_0 := (hb2.cell (p := ⟨w.heap.size, 0, none⟩) z1_0).trans c1_0_0
    have c2_0_1 := (hb2.cell (p := ⟨w.heap.size, 1, none⟩) z1_0).trans c1_0_1
    have z2_0 : w.heap.size < w2.heap.size := Nat.lt_of_lt_of_le z1_0 hb2.size
    have hw2 := Lib.hid (hw1.out.trans (hb2.mono hw1.out.size))
    clear hb2 hw1 c1_0_0 c1_0_1 z1_0
    go_wp2_with fail
    refine (A1.out _).mono ?_
    rintro e w3 ⟨rfl, hb3⟩
    have c3_0_0 := (hb3.cell (p := ⟨w.heap.size, 0, none⟩) z2_0).trans c2_0_0
    have c3_0_1 := (hb3.cell (p := ⟨w.heap.size, 1, none⟩) z2_0).trans c2_0_1
    have z3_0 : w.heap.size < w3.heap.size := Nat.lt_of_lt_of_le z2_0 hb3.size
    have hw3 := Lib.hid (hw2.out.trans (hb3.mono hw2.out.size))
    clear hb3 hw2 c2_0_0 c2_0_1 z2_0
    go_wp2
    all_goals go_ret
    all_goals exact ⟨rfl, hw3.out⟩

/-! ### the row's step -/
set_option maxRecDepth 100000 in
theorem contract (H : Type) (enc : TypeId × Value → H) (W : World) (base : Nat) (args : Array Value) (ds gs : List (DataW H)) (before : List MemPlace)
    (hval : ∀ (j : Nat) t v, Tryd.f5.params[j]? = some t → args[j]? = some v → Value.okWide Tryd.prog W .any base t v)
    (hW : DataW.Whole enc Tryd.prog Tryd.f5.params.toList Rows.airspeedPairSpec.vars false W args.toList ds gs before) (hL : laidMetH Tryd.prog Rows.airspeedPairRow.laid W) (hsh : W.ShapedOpen Tryd.prog) :
    Calls Tryd.prog 5 args W fun e W' => ∃ v, e = .returned v ∧ Rows.airspeedPairSpec.post enc Tryd.prog Tryd.f5 false true false false W args v W' := by
  have hW' := hW
  obtain ⟨p, q, hA0, hV, rfl, hfz, hnd⟩ := hW
  have hA : DataW.TrodAll enc Tryd.prog W 0 (fun _ => true) true Tryd.f5.params.toList args.toList ds p := hA0
  rw [Tryd.params5] at hA hval
  obtain ⟨v0, vs0, d0, ds0, p0, q0, hargs, rfl, rfl, h0, r0⟩ := trodAll_cons hA
  obtain ⟨v1, vs1, d1, ds1, p1, q1, rfl, rfl, rfl, h1, r1⟩ := trodAll_cons r0
  obtain ⟨v2, vs2, d2, ds2, p2, q2, rfl, rfl, rfl, h2, r2⟩ := trodAll_cons r1
  obtain ⟨rfl, rfl, rfl⟩ := trodAll_nil r2
  obtain rfl : args = #[v0, v1, v2] := by cases args; simp_all
  obtain ⟨rfl, rfl⟩ := trodVars_none hV
  obtain ⟨a0, rfl, rfl, rfl, w0⟩ := open_int Tryd.underlying2 (hval 0 2 v0 rfl rfl) h0
  obtain ⟨a1, rfl, rfl, rfl, w1⟩ := open_int Tryd.underlying2 (hval 1 2 v1 rfl rfl) h1
  obtain ⟨x2_0, x2_1, rfl, rfl, rfl, w2_0, w2_1⟩ := open_air (hval 2 23 v2 rfl rfl) h2
  clear hA0
  simp only [List.append_nil] at hW'
  refine (walk a0 a1 x2_0 x2_1 (bd64 w0).1 (bd64 w0).2 (bd64 w1).1 (bd64 w1).2 (bd64 w2_0).1 (bd64 w2_0).2 (bd64 w2_1).1 (bd64 w2_1).2 W (env_of hL hsh)).mono fun e W' ⟨he, hb⟩ => ?_
  subst he
  exact ⟨_, rfl, post_of_below (pa := []) (pv := []) hW' (fun _ _ _ => trodAll_cons_mk (shut_bool Tryd.underlying4 _) trodAll_mk0) (fun sp _ => (trodAll_cons_mk (shut_int Tryd.underlying2 w0) (trodAll_cons_mk (shut_int Tryd.underlying2 w1) (trodAll_cons_mk (shut_air w2_0 w2_1) trodAll_mk0)))) (fun _ _ => rfl) rfl
    hb (ok_one (by kernel_rfl) rfl (okWide_bool_mk Tryd.underlying4 _))⟩

theorem reads (os : Os) {H : Type} (enc : TypeId × Value → H) : ∃ places, DataW.whole enc Tryd.prog ((laidWorld os).forCall (fun _ _ => 0) ⟨#[], #[.int .i64 0, .int .i64 0, .agg #[.int .i64 0, .int .i64 0]], []⟩).memory Tryd.f5.params.toList Rows.airspeedPairSpec.vars false (#[.int .i64 0, .int .i64 0, .agg #[.int .i64 0, .int .i64 0]] : Array Value).toList 8 = some ([.lit (.int .i64 0), .lit (.int .i64 0), .agg [.lit (.int .i64 0), .lit (.int .i64 0)]], [], places) :=
  ⟨[], by kernel_rfl⟩

set_option maxRecDepth 100000 in
theorem lifted (os : Os) (started : os.Started) (H : Type) (enc : TypeId × Value → H) (F : Stop.Interp) :
    ReturnsInHanded {} Tryd.checked os 5 .any ((OpenSpec.ofChange Rows.airspeedPairSpec).preRow enc Tryd.prog Tryd.f5 Rows.airspeedPairRow.domain false Rows.airspeedPairRow.laid) (((OpenSpec.ofChange Rows.airspeedPairSpec).at F).post enc Tryd.prog Tryd.f5 false true false false) := by
  obtain ⟨places, hx⟩ := reads os enc
  refine returnsInHanded_of_row (C := Tryd.checked) (s := OpenSpec.ofChange Rows.airspeedPairSpec) own started (by kernel_rfl) Tryd.func5
    (witness_row_at (enc := enc) (C := Tryd.checked) false (laidWorld os) #[.int .i64 0, .int .i64 0, .agg #[.int .i64 0, .int .i64 0]] rfl (by kernel_rfl) (by kernel_rfl) (by kernel_rfl)
      (OpenSpec.preRow_of_cond 8 hx (by kernel_rfl) (fun k hk => by cases hk) (by kernel_rfl) (laid_met_any os _))) ?_
  intro W base args ds gs before hval hW _ _ _ hL hsh _
  exact contract H enc W base args ds gs before hval hW hL hsh

theorem said : Rows.AirspeedPairSaid :=
  OpenClaim.holds_of_cond 5 Tryd.f5 rfl rfl rfl rfl rfl rfl rfl ⟨rfl, rfl, rfl, rfl, rfl⟩ rfl rfl rfl rfl rfl (by kernel_rfl) Tryd.func5 (by kernel_rfl)
    (of_decide_eq_true (by kernel_rfl)) (by unfold Func.isWrapper; first | (rw [if_pos (by decide +kernel)]; kernel_rfl) | (rw [if_neg (by decide +kernel)]; exact ⟨rfl, rfl⟩))
    (fun os started H enc _ F => by rw [OpenClaim.pre_eq_preRow]; exact lifted os started H enc F)

theorem plain (f : FuncId) (fn : Func) (hf : Tryd.pinned.checked.prog.funcNamed "flightdeck/flightdecklaw30.AirspeedPair" = some f) (hfn : Tryd.pinned.checked.prog.funcs[f]? = some fn) :
    false = Tryd.pinned.checked.prog.looks [] ∧ ∀ (j : Nat) t, fn.params[j]? = some t → Tryd.pinned.checked.prog.wantsStandIn t = false := by
  obtain rfl : f = 5 := Option.some.inj ((show Tryd.prog.funcNamed "flightdeck/flightdecklaw30.AirspeedPair" = some 5 by kernel_rfl).symm.trans hf) |>.symm
  obtain rfl : fn = Tryd.f5 := (Option.some.inj (Tryd.func5.symm.trans hfn)).symm
  refine ⟨by kernel_rfl, fun j t ht => ?_⟩
  rw [Tryd.params5] at ht
  have hm := Array.mem_of_getElem? ht
  simp only [List.mem_toArray, List.mem_cons, List.not_mem_nil, or_false] at hm
  rcases hm with rfl | rfl | rfl
  · exact (show Tryd.prog.wantsStandIn 2 = false by kernel_rfl)
  · exact (show Tryd.prog.wantsStandIn 2 = false by kernel_rfl)
  · exact (show Tryd.prog.wantsStandIn 23 = false by kernel_rfl)
/-- the law -/
theorem card : Rows.AirspeedPairCardSaid :=
  Claim7.holds_tied_plain_at .later [] _ _ _ _ said (fun _ h => by cases h) (by kernel_rfl) (fun _ h => by cases h) airspeedPair_row_tie rfl ⟨rfl, rfl⟩ (by kernel_rfl) rfl plain (by kernel_rfl)
end Go.Proofs.YtnaokohffelklaaDoor.airspeedPair
