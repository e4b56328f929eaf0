/-
  The law SensorAges holds for every input: aged reports are the specified ones. No condition.
-/
import Derived.Test.YtnnafjmfbnnnjaaDoorStructs41
import Derived.Test.YtnnafjmfbnnnjaaDoorAwake41
import Derived.Test.YtnnafjmfbnnnjaaDoorAged
import Derived.Lib.QuietBelow
namespace Go.Proofs.YtnnafjmfbnnnjaaDoor.sensorAges
set_option linter.unusedVariables false
open Go.ChangeShapes Go.WideShapes Go.ChangeAt Go.RowKit Tr Sq

set_option maxHeartbeats 8000000 in
set_option maxRecDepth 100000 in
theorem walk (s k x y v b wt t tick speed : Int) (s_a : -9223372036854775808 ≤ s) (s_b : s ≤ 9223372036854775807) (k_a : 0 ≤ k) (k_b : k ≤ 255) (x_a : -9223372036854775808 ≤ x) (x_b : x ≤ 9223372036854775807) (y_a : -9223372036854775808 ≤ y) (y_b : y ≤ 9223372036854775807) (v_a : -9223372036854775808 ≤ v) (v_b : v ≤ 9223372036854775807) (b_a : -9223372036854775808 ≤ b) (b_b : b ≤ 9223372036854775807) (wt_a : -9223372036854775808 ≤ wt) (wt_b : wt ≤ 9223372036854775807) (t_a : -9223372036854775808 ≤ t) (t_b : t ≤ 9223372036854775807) (tick_a : -9223372036854775808 ≤ tick) (tick_b : tick ≤ 9223372036854775807) (speed_a : -9223372036854775808 ≤ speed) (speed_b : speed ≤ 9223372036854775807) (w : World) (hE : Env w) :
    Calls Tryd.prog 8 #[.agg #[.int .i64 s, .int .u8 k, .int .i64 x, .int .i64 y, .int .i64 v, .int .i64 b, .int .i64 wt, .int .i64 t], .int .i64 tick, .int .i64 speed] w fun e w' => e = .returned (.bool true) ∧ Below w.heap.size w w' := by
  have HE := Lib.hid hE
  clear hE
  have A1 := Lib.hid (fun w => aged_any s k x y v b wt t tick speed w k_a k_b)
  have A2 := Lib.hid (fun w => aged_ref s k x y v b wt t tick speed w k_a k_b)
  generalize agedF s k x y v b wt t tick speed = g at *
  obtain ⟨⟨s', k', x', y', v', b', w', t'⟩, en⟩ := g
  go_enter Tryd.func8, Tryd.ntmps8
  go_wp2_with fail
  have c0_0_0 : (w.alloc (.cells #[.int .i64 s, .int .u8 k, .int .i64 x, .int .i64 y, .int .i64 v, .int .i64 b, .int .i64 wt, .int .i64 t] 26)).cell? ⟨w.heap.size, 0, none⟩ = some (.int .i64 s) := by rw [World.cell?_alloc_at _ _ _ _ (by simp)]; rfl
  have c0_0_1 : (w.alloc (.cells #[.int .i64 s, .int .u8 k, .int .i64 x, .int .i64 y, .int .i64 v, .int .i64 b, .int .i64 wt, .int .i64 t] 26)).cell? ⟨w.heap.size, 1, none⟩ = some (.int .u8 k) := by rw [World.cell?_alloc_at _ _ _ _ (by simp)]; rfl
  have c0_0_2 : (w.alloc (.cells #[.int .i64 s, .int .u8 k, .int .i64 x, .int .i64 y, .int .i64 v, .int .i64 b, .int .i64 wt, .int .i64 t] 26)).cell? ⟨w.heap.size, 2, none⟩ = some (.int .i64 x) := by rw [World.cell?_alloc_at _ _ _ _ (by simp)]; rfl
  have c0_0_3 : (w.alloc (.cells #[.int .i64 s, .int .u8 k, .int .i64 x, .int .i64 y, .int .i64 v, .int .i64 b, .int .i64 wt, .int .i64 t] 26)).cell? ⟨w.heap.size, 3, none⟩ = some (.int .i64 y) := by rw [World.cell?_alloc_at _ _ _ _ (by simp)]; rfl
  have c0_0_4 : (w.alloc (.cells #[.int .i64 s, .int .u8 k, .int .i64 x, .int .i64 y, .int .i64 v, .int .i64 b, .int .i64 wt, .int .i64 t] 26)).cell? ⟨w.heap.size, 4, none⟩ = some (.int .i64 v) := by rw [World.cell?_alloc_at _ _ _ _ (by simp)]; rfl
  have c0_0_5 : (w.alloc (.cells #[.int .i64 s, .int .u8 k, .int .i64 x, .int .i64 y, .int .i64 v, .int .i64 b, .int .i64 wt, .int .i64 t] 26)).cell? ⟨w.heap.size, 5, none⟩ = some (.int .i64 b) := by rw [World.cell?_alloc_at _ _ _ _ (by simp)]; rfl
  have c0_0_6 : (w.alloc (.cells #[.int .i64 s, .int .u8 k, .int .i64 x, .int .i64 y, .int .i64 v, .int .i64 b, .int .i64 wt, .int .i64 t] 26)).cell? ⟨w.heap.size, 6, none⟩ = some (.int .i64 wt) := by rw [World.cell?_alloc_at _ _ _ _ (by simp)]; rfl
  have c0_0_7 : (w.alloc (.cells #[.int .i64 s, .int .u8 k, .int .i64 x, .int .i64 y, .int .i64 v, .int .i64 b, .int .i64 wt, .int .i64 t] 26)).cell? ⟨w.heap.size, 7, none⟩ = some (.int .i64 t) := by rw [World.cell?_alloc_at _ _ _ _ (by simp)]; rfl
  have z0_0 : w.heap.size < (w.alloc (.cells #[.int .i64 s, .int .u8 k, .int .i64 x, .int .i64 y, .int .i64 v, .int .i64 b, .int .i64 wt, .int .i64 t] 26)).heap.size := by simp; try omega
  have hw0 := Lib.hid ((Below.refl w.heap.size w).alloc (by simp; try omega) (.cells #[.int .i64 s, .int .u8 k, .int .i64 x, .int .i64 y, .int .i64 v, .int .i64 b, .int .i64 wt, .int .i64 t] 26))
  generalize hW0 : (w.alloc (.cells #[.int .i64 s, .int .u8 k, .int .i64 x, .int .i64 y, .int .i64 v, .int .i64 b, .int .i64 wt, .int .i64 t] 26)) = w0 at *
  clear hW0
  refine (awake_any _ (HE.out.below hw0.out)).mono ?_
  rintro e w1 ⟨rfl, hb1⟩
  have c1_0_0 := (hb1.cell (p := ⟨w.heap.size, 0, none⟩) z0_0).trans c0_0_0
  have c1_0_1 := (hb1.cell (p := ⟨w.heap.size, 1, none⟩) z0_0).trans c0_0_1
  have c1_0_2 := (hb1.cell (p := ⟨w.heap.size, 2, none⟩) z0_0).trans c0_0_2
  have c1_0_3 := (hb1.cell (p := ⟨w.heap.size, 3, none⟩) z0_0).trans c0_0_3
  have c1_0_4 := (hb1.cell (p := ⟨w.heap.size, 4, none⟩) z0_0).trans c0_0_4
  have c1_0_5 := (hb1.cell (p := ⟨w.heap.size, 5, none⟩) z0_0).trans c0_0_5
  have c1_0_6 := (hb1.cell (p := ⟨w.heap.size, 6, none⟩) z0_0).trans c0_0_6
  have c1_0_7 := (hb1.cell (p := ⟨w.heap.size, 7, none⟩) z0_0).trans c0_0_7
  have z1_0 : w.heap.size < w1.heap.size := Nat.lt_of_lt_of_le z0_0 hb1.size
  have hw1 := Lib.hid (hw0.out.trans (hb1.mono hw0.out.size))
  clear hb1 hw0 c0_0_0 c0_0_1 c0_0_2 c0_0_3 c0_0_4 c0_0_5 c0_0_6 c0_0_7 z0_0
  go_wp2_with fail
  refine (A1.out _).mono ?_
  rintro e w2 ⟨rfl, hb2⟩
  have c2_0_0 := (hb2.cell (p := ⟨w.heap.size, 0, none⟩) z1_0).trans c1_0_0
  have c2_0_1 := (hb2.cell (p := ⟨w.heap.size, 1, none⟩) z1_0).trans c1_0_1
  have c2_0_2 := (hb2.cell (p := ⟨w.heap.size, 2, none⟩) z1_0).trans c1_0_2
  have c2_0_3 := (hb2.cell (p := ⟨w.heap.size, 3, none⟩) z1_0).trans c1_0_3
  have c2_0_4 := (hb2.cell (p := ⟨w.heap.size, 4, none⟩) z1_0).trans c1_0_4
  have c2_0_5 := (hb2.cell (p := ⟨w.heap.size, 5, none⟩) z1_0).trans c1_0_5
  have c2_0_6 := (hb2.cell (p := ⟨w.heap.size, 6, none⟩) z1_0).trans c1_0_6
  have c2_0_7 := (hb2.cell (p := ⟨w.heap.size, 7, none⟩) z1_0).trans c1_0_7
  have z2_0 : w.heap.size < w2.heap.size := Nat.lt_of_lt_of_le z1_0 hb2.size
  have hw2 := Lib.hid (hw1.out.trans (hb2.mono hw1.out.size))
  clear hb2 hw1 c1_0_0 c1_0_1 c1_0_2 c1_0_3 c1_0_4 c1_0_5 c1_0_6 c1_0_7 z1_0
  simp only [repV]
  go_wp2_with fail
  have hb3 : Below w2.heap.size w2 (w2.alloc (.cells #[.int .i64 s', .int .u8 k', .int .i64 x', .int .i64 y', .int .i64 v', .int .i64 b', .int .i64 w', .int .i64 t'] 26)) := (Below.refl w2.heap.size w2).alloc (Nat.le_refl _) _
  have c3_0_0 := (hb3.cell (p := ⟨w.heap.size, 0, none⟩) z2_0).trans c2_0_0
  have c3_0_1 := (hb3.cell (p := ⟨w.heap.size, 1, none⟩) z2_0).trans c2_0_1
  have c3_0_2 := (hb3.cell (p := ⟨w.heap.size, 2, none⟩) z2_0).trans c2_0_2
  have c3_0_3 := (hb3.cell (p := ⟨w.heap.size, 3, none⟩) z2_0).trans c2_0_3
  have c3_0_4 := (hb3.cell (p := ⟨w.heap.size, 4, none⟩) z2_0).trans c2_0_4
  have c3_0_5 := (hb3.cell (p := ⟨w.heap.size, 5, none⟩) z2_0).trans c2_0_5
  have c3_0_6 := (hb3.cell (p := ⟨w.heap.size, 6, none⟩) z2_0).trans c2_0_6
  have c3_0_7 := (hb3.cell (p := ⟨w.heap.size, 7, none⟩) z2_0).trans c2_0_7
  have z3_0 : w.heap.size < (w2.alloc (.cells #[.int .i64 s', .int .u8 k', .int .i64 x', .int .i64 y', .int .i64 v', .int .i64 b', .int .i64 w', .int .i64 t'] 26)).heap.size := Nat.lt_of_lt_of_le z2_0 hb3.size
  have c3_1_0 : (w2.alloc (.cells #[.int .i64 s', .int .u8 k', .int .i64 x', .int .i64 y', .int .i64 v', .int .i64 b', .int .i64 w', .int .i64 t'] 26)).cell? ⟨w2.heap.size, 0, none⟩ = some (.int .i64 s') := by rw [World.cell?_alloc_at _ _ _ _ (by simp)]; rfl
  have c3_1_1 : (w2.alloc (.cells #[.int .i64 s', .int .u8 k', .int .i64 x', .int .i64 y', .int .i64 v', .int .i64 b', .int .i64 w', .int .i64 t'] 26)).cell? ⟨w2.heap.size, 1, none⟩ = some (.int .u8 k') := by rw [World.cell?_alloc_at _ _ _ _ (by simp)]; rfl
  have c3_1_2 : (w2.alloc (.cells #[.int .i64 s', .int .u8 k', .int .i64 x', .int .i64 y', .int .i64 v', .int .i64 b', .int .i64 w', .int .i64 t'] 26)).cell? ⟨w2.heap.size, 2, none⟩ = some (.int .i64 x') := by rw [World.cell?_alloc_at _ _ _ _ (by simp)]; rfl
  have c3_1_3 : (w2.alloc (.cells #[.int .i64 s', .int .u8 k', .int .i64 x', .int .i64 y', .int .i64 v', .int .i64 b', .int .i64 w', .int .i64 t'] 26)).cell? ⟨w2.heap.size, 3, none⟩ = some (.int .i64 y') := by rw [World.cell?_alloc_at _ _ _ _ (by simp)]; rfl
  have c3_1_4 : (w2.alloc (.cells #[.int .i64 s', .int .u8 k', .int .i64 x', .int .i64 y', .int .i64 v', .int .i64 b', .int .i64 w', .int .i64 t'] 26)).cell? ⟨w2.heap.size, 4, none⟩ = some (.int .i64 v') := by rw [World.cell?_alloc_at _ _ _ _ (by simp)]; rfl
  have c3_1_5 : (w2.alloc (.cells #[.int .i64 s', .int .u8 k', .int .i64 x', .int .i64 y', .int .i64 v', .int .i64 b', .int .i64 w', .int .i64 t'] 26)).cell? ⟨w2.heap.size, 5, none⟩ = some (.int .i64 b') := by rw [World.cell?_alloc_at _ _ _ _ (by simp)]; rfl
  have c3_1_6 : (w2.alloc (.cells #[.int .i64 s', .int .u8 k', .int .i64 x', .int .i64 y', .int .i64 v', .int .i64 b', .int .i64 w', .int .i64 t'] 26)).cell? ⟨w2.heap.size, 6, none⟩ = some (.int .i64 w') := by rw [World.cell?_alloc_at _ _ _ _ (by simp)]; rfl
  have c3_1_7 : (w2.alloc (.cells #[.int .i64 s', .int .u8 k', .int .i64 x', .int .i64 y', .int .i64 v', .int .i64 b', .int .i64 w', .int .i64 t'] 26)).cell? ⟨w2.heap.size, 7, none⟩ = some (.int .i64 t') := by rw [World.cell?_alloc_at _ _ _ _ (by simp)]; rfl
  have z3_1 : w2.heap.size < (w2.alloc (.cells #[.int .i64 s', .int .u8 k', .int .i64 x', .int .i64 y', .int .i64 v', .int .i64 b', .int .i64 w', .int .i64 t'] 26)).heap.size := by simp
  have hw3 := Lib.hid (hw2.out.trans (hb3.mono hw2.out.size))
  generalize hW3 : (w2.alloc (.cells #[.int .i64 s', .int .u8 k', .int .i64 x', .int .i64 y', .int .i64 v', .int .i64 b', .int .i64 w', .int .i64 t'] 26)) = w3 at *
  clear hW3 hb3 hw2 c2_0_0 c2_0_1 c2_0_2 c2_0_3 c2_0_4 c2_0_5 c2_0_6 c2_0_7 z2_0
  refine (A2.out _).mono ?_
  rintro e w4 ⟨rfl, hb4⟩
  have c4_0_0 := (hb4.cell (p := ⟨w.heap.size, 0, none⟩) z3_0).trans c3_0_0
  have c4_0_1 := (hb4.cell (p := ⟨w.heap.size, 1, none⟩) z3_0).trans c3_0_1
  have c4_0_2 := (hb4.cell (p := ⟨w.heap.size, 2, none⟩) z3_0).trans c3_0_2
  have c4_0_3 := (hb4.cell (p := ⟨w.heap.size, 3, none⟩) z3_0).trans c3_0_3
  have c4_0_4 := (hb4.cell (p := ⟨w.heap.size, 4, none⟩) z3_0).trans c3_0_4
  have c4_0_5 := (hb4.cell (p := ⟨w.heap.size, 5, none⟩) z3_0).trans c3_0_5
  have c4_0_6 := (hb4.cell (p := ⟨w.heap.size, 6, none⟩) z3_0).trans c3_0_6
  have c4_0_7 := (hb4.cell (p := ⟨w.heap.size, 7, none⟩) z3_0).trans c3_0_7
  have c4_1_0 := (hb4.cell (p := ⟨w2.heap.size, 0, none⟩) z3_1).trans c3_1_0
  have c4_1_1 := (hb4.cell (p := ⟨w2.heap.size, 1, none⟩) z3_1).trans c3_1_1
  have c4_1_2 := (hb4.cell (p := ⟨w2.heap.size, 2, none⟩) z3_1).trans c3_1_2
  have c4_1_3 := (hb4.cell (p := ⟨w2.heap.size, 3, none⟩) z3_1).trans c3_1_3
  have c4_1_4 := (hb4.cell (p := ⟨w2.heap.size, 4, none⟩) z3_1).trans c3_1_4
  have c4_1_5 := (hb4.cell (p := ⟨w2.heap.size, 5, none⟩) z3_1).trans c3_1_5
  have c4_1_6 := (hb4.cell (p := ⟨w2.heap.size, 6, none⟩) z3_1).trans c3_1_6
  have c4_1_7 := (hb4.cell (p := ⟨w2.heap.size, 7, none⟩) z3_1).trans c3_1_7
  have z4_0 : w.heap.size < w4.heap.size := Nat.lt_of_lt_of_le z3_0 hb4.size
  have z4_1 : w2.heap.size < w4.heap.size := Nat.lt_of_lt_of_le z3_1 hb4.size
  have hw4 := Lib.hid (hw3.out.trans (hb4.mono hw3.out.size))
  clear hb4 hw3 c3_0_0 c3_0_1 c3_0_2 c3_0_3 c3_0_4 c3_0_5 c3_0_6 c3_0_7 c3_1_0 c3_1_1 c3_1_2 c3_1_3 c3_1_4 c3_1_5 c3_1_6 c3_1_7 z3_0 z3_1
  simp only [repV]
  go_wp2
  go_ret
  exact ⟨rfl, hw4.out.alloc hw4.out.size _⟩
/-! ### the row's step -/
set_option maxRecDepth 100000 in
theorem contract (H : Type) (enc : TypeId × Value → H) (W : World) (base : Nat) (args : Array Value) (ds gs : List (DataW H)) (before : List MemPlace)
    (hval : ∀ (j : Nat) t v, Tryd.f8.params[j]? = some t → args[j]? = some v → Value.okWide Tryd.prog W .any base t v)
    (hW : DataW.Whole enc Tryd.prog Tryd.f8.params.toList Rows.sensorAgesSpec.vars false W args.toList ds gs before) (hL : laidMetH Tryd.prog Rows.sensorAgesRow.laid W) (hsh : W.ShapedOpen Tryd.prog) :
    Calls Tryd.prog 8 args W fun e W' => ∃ v, e = .returned v ∧ Rows.sensorAgesSpec.post enc Tryd.prog Tryd.f8 false true false false W args v W' := by
  have hW' := hW
  obtain ⟨p, q, hA0, hV, rfl, hfz, hnd⟩ := hW
  have hA : DataW.TrodAll enc Tryd.prog W 0 (fun _ => true) true Tryd.f8.params.toList args.toList ds p := hA0
  rw [Tryd.params8] at hA hval
  obtain ⟨v0, vs0, d0, ds0, p0, q0, hargs, rfl, rfl, h0, r0⟩ := trodAll_cons hA
  obtain ⟨v1, vs1, d1, ds1, p1, q1, rfl, rfl, rfl, h1, r1⟩ := trodAll_cons r0
  obtain ⟨v2, vs2, d2, ds2, p2, q2, rfl, rfl, rfl, h2, r2⟩ := trodAll_cons r1
  obtain ⟨rfl, rfl, rfl⟩ := trodAll_nil r2
  obtain rfl : args = #[v0, v1, v2] := by cases args; simp_all
  obtain ⟨rfl, rfl⟩ := trodVars_none hV
  obtain ⟨x0_0, x0_1, x0_2, x0_3, x0_4, x0_5, x0_6, x0_7, rfl, rfl, rfl, w0_0, w0_1, w0_2, w0_3, w0_4, w0_5, w0_6, w0_7⟩ := open_report (hval 0 26 v0 rfl rfl) h0
  obtain ⟨a1, rfl, rfl, rfl, w1⟩ := open_int Tryd.underlying2 (hval 1 2 v1 rfl rfl) h1
  obtain ⟨a2, rfl, rfl, rfl, w2⟩ := open_int Tryd.underlying2 (hval 2 2 v2 rfl rfl) h2
  clear hA0
  simp only [List.append_nil] at hW'
  refine (walk x0_0 x0_1 x0_2 x0_3 x0_4 x0_5 x0_6 x0_7 a1 a2 (bd64 w0_0).1 (bd64 w0_0).2 (bd8 w0_1).1 (bd8 w0_1).2 (bd64 w0_2).1 (bd64 w0_2).2 (bd64 w0_3).1 (bd64 w0_3).2 (bd64 w0_4).1 (bd64 w0_4).2 (bd64 w0_5).1 (bd64 w0_5).2 (bd64 w0_6).1 (bd64 w0_6).2 (bd64 w0_7).1 (bd64 w0_7).2 (bd64 w1).1 (bd64 w1).2 (bd64 w2).1 (bd64 w2).2 W (env_of hL hsh)).mono fun e W' ⟨he, hb⟩ => ?_
  subst he
  exact ⟨_, rfl, post_of_below (pa := []) (pv := []) hW' (fun _ _ _ => trodAll_cons_mk (shut_bool Tryd.underlying4 _) trodAll_mk0) (fun sp _ => (trodAll_cons_mk (shut_report w0_0 w0_1 w0_2 w0_3 w0_4 w0_5 w0_6 w0_7) (trodAll_cons_mk (shut_int Tryd.underlying2 w1) (trodAll_cons_mk (shut_int Tryd.underlying2 w2) trodAll_mk0)))) (fun _ _ => rfl) rfl
    hb (ok_one (by kernel_rfl) rfl (okWide_bool_mk Tryd.underlying4 _))⟩

theorem reads (os : Os) {H : Type} (enc : TypeId × Value → H) : ∃ places, DataW.whole enc Tryd.prog ((laidWorld os).forCall (fun _ _ => 0) ⟨#[], #[.agg #[.int .i64 0, .int .u8 0, .int .i64 0, .int .i64 0, .int .i64 0, .int .i64 0, .int .i64 0, .int .i64 0], .int .i64 0, .int .i64 0], []⟩).memory Tryd.f8.params.toList Rows.sensorAgesSpec.vars false (#[.agg #[.int .i64 0, .int .u8 0, .int .i64 0, .int .i64 0, .int .i64 0, .int .i64 0, .int .i64 0, .int .i64 0], .int .i64 0, .int .i64 0] : Array Value).toList 8 = some ([.agg [.lit (.int .i64 0), .lit (.int .u8 0), .agg [.lit (.int .i64 0), .lit (.int .i64 0)], .lit (.int .i64 0), .lit (.int .i64 0), .lit (.int .i64 0), .lit (.int .i64 0)], .lit (.int .i64 0), .lit (.int .i64 0)], [], places) :=
  ⟨[], by kernel_rfl⟩

set_option maxRecDepth 100000 in
theorem lifted (os : Os) (started : os.Started) (H : Type) (enc : TypeId × Value → H) (F : Stop.Interp) :
    ReturnsInHanded {} Tryd.checked os 8 .any ((OpenSpec.ofChange Rows.sensorAgesSpec).preRow enc Tryd.prog Tryd.f8 Rows.sensorAgesRow.domain false Rows.sensorAgesRow.laid) (((OpenSpec.ofChange Rows.sensorAgesSpec).at F).post enc Tryd.prog Tryd.f8 false true false false) := by
  obtain ⟨places, hx⟩ := reads os enc
  refine returnsInHanded_of_row (C := Tryd.checked) (s := OpenSpec.ofChange Rows.sensorAgesSpec) own started (by kernel_rfl) Tryd.func8
    (witness_row_at (enc := enc) (C := Tryd.checked) false (laidWorld os) #[.agg #[.int .i64 0, .int .u8 0, .int .i64 0, .int .i64 0, .int .i64 0, .int .i64 0, .int .i64 0, .int .i64 0], .int .i64 0, .int .i64 0] rfl (by kernel_rfl) (by kernel_rfl) (by kernel_rfl)
      (OpenSpec.preRow_of_cond 8 hx (by kernel_rfl) (fun k hk => by cases hk) (by kernel_rfl) (laid_met_any os _))) ?_
  intro W base args ds gs before hval hW _ _ _ hL hsh _
  exact contract H enc W base args ds gs before hval hW hL hsh

theorem said : Rows.SensorAgesSaid :=
  OpenClaim.holds_of_cond 8 Tryd.f8 rfl rfl rfl rfl rfl rfl rfl ⟨rfl, rfl, rfl, rfl, rfl⟩ rfl rfl rfl rfl rfl (by kernel_rfl) Tryd.func8 (by kernel_rfl)
    (of_decide_eq_true (by kernel_rfl)) (by unfold Func.isWrapper; first | (rw [if_pos (by decide +kernel)]; kernel_rfl) | (rw [if_neg (by decide +kernel)]; exact ⟨rfl, rfl⟩))
    (fun os started H enc _ F => by rw [OpenClaim.pre_eq_preRow]; exact lifted os started H enc F)

theorem plain (f : FuncId) (fn : Func) (hf : Tryd.pinned.checked.prog.funcNamed "flightdeck/flightdecklaw41.SensorAges" = some f) (hfn : Tryd.pinned.checked.prog.funcs[f]? = some fn) :
    false = Tryd.pinned.checked.prog.looks [] ∧ ∀ (j : Nat) t, fn.params[j]? = some t → Tryd.pinned.checked.prog.wantsStandIn t = false := by
  obtain rfl : f = 8 := Option.some.inj ((show Tryd.prog.funcNamed "flightdeck/flightdecklaw41.SensorAges" = some 8 by kernel_rfl).symm.trans hf) |>.symm
  obtain rfl : fn = Tryd.f8 := (Option.some.inj (Tryd.func8.symm.trans hfn)).symm
  refine ⟨by kernel_rfl, fun j t ht => ?_⟩
  rw [Tryd.params8] at ht
  have hm := Array.mem_of_getElem? ht
  simp only [List.mem_toArray, List.mem_cons, List.not_mem_nil, or_false] at hm
  rcases hm with rfl | rfl | rfl
  · exact (show Tryd.prog.wantsStandIn 26 = false by kernel_rfl)
  · exact (show Tryd.prog.wantsStandIn 2 = false by kernel_rfl)
  · exact (show Tryd.prog.wantsStandIn 2 = false by kernel_rfl)
/-- the law -/
theorem card : Rows.SensorAgesCardSaid :=
  Claim7.holds_tied_plain_at .later [] _ _ _ _ said (fun _ h => by cases h) (by kernel_rfl) (fun _ h => by cases h) sensorAges_row_tie rfl ⟨rfl, rfl⟩ (by kernel_rfl) rfl plain (by kernel_rfl)
end Go.Proofs.YtnnafjmfbnnnjaaDoor.sensorAges
