/-
  The law WindSets holds for every input: which sets of winds are valid, what they contain, and their ground speeds are the specified ones. No condition.
-/
import Derived.Test.YtdfpbojlimeccaaDoorStructs
import Derived.Test.YtdfpbojlimeccaaDoorAwake
import Derived.Test.YtdfpbojlimeccaaDoorWindInRef
import Derived.Lib.QuietBelow
namespace Go.Proofs.YtdfpbojlimeccaaDoor.windSets
set_option linter.unusedVariables false
open Go.ChangeShapes Go.WideShapes Go.ChangeAt Go.RowKit Tr Sq

set_option maxHeartbeats 4000000 in
set_option maxRecDepth 100000 in
theorem walk (c x0 x1 x2 x3 x4 y0 y1 y2 y3 : Int) (ca : -9223372036854775808 ≤ c) (cb : c ≤ 9223372036854775807) (x0a : -9223372036854775808 ≤ x0) (x0b : x0 ≤ 9223372036854775807) (x1a : -9223372036854775808 ≤ x1) (x1b : x1 ≤ 9223372036854775807) (x2a : -9223372036854775808 ≤ x2) (x2b : x2 ≤ 9223372036854775807) (x3a : -9223372036854775808 ≤ x3) (x3b : x3 ≤ 9223372036854775807) (x4a : -9223372036854775808 ≤ x4) (x4b : x4 ≤ 9223372036854775807) (y0a : -9223372036854775808 ≤ y0) (y0b : y0 ≤ 9223372036854775807) (y1a : -9223372036854775808 ≤ y1) (y1b : y1 ≤ 9223372036854775807) (y2a : -9223372036854775808 ≤ y2) (y2b : y2 ≤ 9223372036854775807) (y3a : -9223372036854775808 ≤ y3) (y3b : y3 ≤ 9223372036854775807) (w : World) (hE : Env w) :
    Calls Tryd.prog 8 #[.int .i64 c, .agg #[.int .i64 x0, .int .i64 x1, .int .i64 x2, .int .i64 x3, .int .i64 x4], .agg #[.int .i64 y0, .int .i64 y1, .int .i64 y2, .int .i64 y3]] w fun e w' => e = .returned (.bool true) ∧ Below w.heap.size w w' := by
  have HE := Lib.hid hE
  have A1 := Lib.hid (fun w => box_any y0 y1 y2 y3 w)
  have A2 := Lib.hid (fun w => box_ref y0 y1 y2 y3 w)
  have B1 := Lib.hid (fun w => within_any y0 y1 y2 y3 x3 x4 w)
  have B2 := Lib.hid (fun w => within_ref y0 y1 y2 y3 x3 x4 w)
  have C1 := Lib.hid (fun w => groundin_any c x0 x1 y0 y1 y2 y3 w ca cb)
  have C2 := Lib.hid (fun w => groundin_ref c x0 x1 y0 y1 y2 y3 w ca cb)
  clear hE
  generalize boxB y0 y1 y2 y3 = v at *
  generalize withinB y0 y1 y2 y3 x3 x4 = u at *
  generalize groundInF c x0 x1 y0 y1 y2 y3 = g at *
  obtain ⟨ga, gb, gc⟩ := g
  cases v <;> cases u
  all_goals
    go_enter Tryd.func8, Tryd.ntmps8
    go_wp2_with fail
    have p0 : ((w.alloc (.cells #[.int .i64 x0, .int .i64 x1, .int .i64 x2, .int .i64 x3, .int .i64 x4] 32)).alloc (.cells #[.int .i64 y0, .int .i64 y1, .int .i64 y2, .int .i64 y3] 34)).cell? ⟨w.heap.size, 0, none⟩ = some (.int .i64 x0) := (((Below.refl _ (w.alloc (.cells #[.int .i64 x0, .int .i64 x1, .int .i64 x2, .int .i64 x3, .int .i64 x4] 32))).alloc (Nat.le_refl _) (.cells #[.int .i64 y0, .int .i64 y1, .int .i64 y2, .int .i64 y3] 34)).cell (p := ⟨w.heap.size, 0, none⟩) (by simp)).trans (by rw [World.cell?_alloc_at _ _ _ _ (by simp)]; rfl)
    have p1 : ((w.alloc (.cells #[.int .i64 x0, .int .i64 x1, .int .i64 x2, .int .i64 x3, .int .i64 x4] 32)).alloc (.cells #[.int .i64 y0, .int .i64 y1, .int .i64 y2, .int .i64 y3] 34)).cell? ⟨w.heap.size, 1, none⟩ = some (.int .i64 x1) := (((Below.refl _ (w.alloc (.cells #[.int .i64 x0, .int .i64 x1, .int .i64 x2, .int .i64 x3, .int .i64 x4] 32))).alloc (Nat.le_refl _) (.cells #[.int .i64 y0, .int .i64 y1, .int .i64 y2, .int .i64 y3] 34)).cell (p := ⟨w.heap.size, 1, none⟩) (by simp)).trans (by rw [World.cell?_alloc_at _ _ _ _ (by simp)]; rfl)
    have p2 : ((w.alloc (.cells #[.int .i64 x0, .int .i64 x1, .int .i64 x2, .int .i64 x3, .int .i64 x4] 32)).alloc (.cells #[.int .i64 y0, .int .i64 y1, .int .i64 y2, .int .i64 y3] 34)).cell? ⟨w.heap.size, 2, none⟩ = some (.int .i64 x2) := (((Below.refl _ (w.alloc (.cells #[.int .i64 x0, .int .i64 x1, .int .i64 x2, .int .i64 x3, .int .i64 x4] 32))).alloc (Nat.le_refl _) (.cells #[.int .i64 y0, .int .i64 y1, .int .i64 y2, .int .i64 y3] 34)).cell (p := ⟨w.heap.size, 2, none⟩) (by simp)).trans (by rw [World.cell?_alloc_at _ _ _ _ (by simp)]; rfl)
    have p3 : ((w.alloc (.cells #[.int .i64 x0, .int .i64 x1, .int .i64 x2, .int .i64 x3, .int .i64 x4] 32)).alloc (.cells #[.int .i64 y0, .int .i64 y1, .int .i64 y2, .int .i64 y3] 34)).cell? ⟨w.heap.size, 3, none⟩ = some (.int .i64 x3) := (((Below.refl _ (w.alloc (.cells #[.int .i64 x0, .int .i64 x1, .int .i64 x2, .int .i64 x3, .int .i64 x4] 32))).alloc (Nat.le_refl _) (.cells #[.int .i64 y0, .int .i64 y1, .int .i64 y2, .int .i64 y3] 34)).cell (p := ⟨w.heap.size, 3, none⟩) (by simp)).trans (by rw [World.cell?_alloc_at _ _ _ _ (by simp)]; rfl)
    have p4 : ((w.alloc (.cells #[.int .i64 x0, .int .i64 x1, .int .i64 x2, .int .i64 x3, .int .i64 x4] 32)).alloc (.cells #[.int .i64 y0, .int .i64 y1, .int .i64 y2, .int .i64 y3] 34)).cell? ⟨w.heap.size, 4, none⟩ = some (.int .i64 x4) := (((Below.refl _ (w.alloc (.cells #[.int .i64 x0, .int .i64 x1, .int .i64 x2, .int .i64 x3, .int .i64 x4] 32))).alloc (Nat.le_refl _) (.cells #[.int .i64 y0, .int .i64 y1, .int .i64 y2, .int .i64 y3] 34)).cell (p := ⟨w.heap.size, 4, none⟩) (by simp)).trans (by rw [World.cell?_alloc_at _ _ _ _ (by simp)]; rfl)
    have p5 : ((w.alloc (.cells #[.int .i64 x0, .int .i64 x1, .int .i64 x2, .int .i64 x3, .int .i64 x4] 32)).alloc (.cells #[.int .i64 y0, .int .i64 y1, .int .i64 y2, .int .i64 y3] 34)).cell? ⟨w.heap.size + 1, 0, none⟩ = some (.int .i64 y0) := by rw [World.cell?_alloc_at _ _ _ _ (by simp)]; rfl
    have p6 : ((w.alloc (.cells #[.int .i64 x0, .int .i64 x1, .int .i64 x2, .int .i64 x3, .int .i64 x4] 32)).alloc (.cells #[.int .i64 y0, .int .i64 y1, .int .i64 y2, .int .i64 y3] 34)).cell? ⟨w.heap.size + 1, 1, none⟩ = some (.int .i64 y1) := by rw [World.cell?_alloc_at _ _ _ _ (by simp)]; rfl
    have p7 : ((w.alloc (.cells #[.int .i64 x0, .int .i64 x1, .int .i64 x2, .int .i64 x3, .int .i64 x4] 32)).alloc (.cells #[.int .i64 y0, .int .i64 y1, .int .i64 y2, .int .i64 y3] 34)).cell? ⟨w.heap.size + 1, 2, none⟩ = some (.int .i64 y2) := by rw [World.cell?_alloc_at _ _ _ _ (by simp)]; rfl
    have p8 : ((w.alloc (.cells #[.int .i64 x0, .int .i64 x1, .int .i64 x2, .int .i64 x3, .int .i64 x4] 32)).alloc (.cells #[.int .i64 y0, .int .i64 y1, .int .i64 y2, .int .i64 y3] 34)).cell? ⟨w.heap.size + 1, 3, none⟩ = some (.int .i64 y3) := by rw [World.cell?_alloc_at _ _ _ _ (by simp)]; rfl
    have hz : w.heap.size < ((w.alloc (.cells #[.int .i64 x0, .int .i64 x1, .int .i64 x2, .int .i64 x3, .int .i64 x4] 32)).alloc (.cells #[.int .i64 y0, .int .i64 y1, .int .i64 y2, .int .i64 y3] 34)).heap.size ∧ w.heap.size + 1 < ((w.alloc (.cells #[.int .i64 x0, .int .i64 x1, .int .i64 x2, .int .i64 x3, .int .i64 x4] 32)).alloc (.cells #[.int .i64 y0, .int .i64 y1, .int .i64 y2, .int .i64 y3] 34)).heap.size := by simp; omega
    have hw := Lib.hid (((Below.refl w.heap.size w).alloc (Nat.le_refl _) (.cells #[.int .i64 x0, .int .i64 x1, .int .i64 x2, .int .i64 x3, .int .i64 x4] 32)).alloc (by simp) (.cells #[.int .i64 y0, .int .i64 y1, .int .i64 y2, .int .i64 y3] 34))
    generalize hW1 : (w.alloc (.cells #[.int .i64 x0, .int .i64 x1, .int .i64 x2, .int .i64 x3, .int .i64 x4] 32)).alloc (.cells #[.int .i64 y0, .int .i64 y1, .int .i64 y2, .int .i64 y3] 34) = W1 at *
    clear hW1
    have g0 := fun d os => cell_regrown p0 d os
    have g1 := fun d os => cell_regrown p1 d os
    have g2 := fun d os => cell_regrown p2 d os
    have g3 := fun d os => cell_regrown p3 d os
    have g4 := fun d os => cell_regrown p4 d os
    have g5 := fun d os => cell_regrown p5 d os
    have g6 := fun d os => cell_regrown p6 d os
    have g7 := fun d os => cell_regrown p7 d os
    have g8 := fun d os => cell_regrown p8 d os
    have k0 := Lib.hid (fun d os => Calls.regrown_of (awake_any (Go.Sort.grow (redrawn W1 d) os) ((HE.out.below hw.out).below (below_regrown W1 d os))))
    have k1 := Lib.hid (fun d os => Calls.regrown_of (A1.out (Go.Sort.grow (redrawn W1 d) os)))
    have k2 := Lib.hid (fun d os => Calls.regrown_of (A2.out (Go.Sort.grow (redrawn W1 d) os)))
    have k3 := Lib.hid (fun d os => Calls.regrown_of (B1.out (Go.Sort.grow (redrawn W1 d) os)))
    have k4 := Lib.hid (fun d os => Calls.regrown_of (B2.out (Go.Sort.grow (redrawn W1 d) os)))
    refine wp_region_quiet_below (by kernel_rfl) (by kernel_rfl) ?_
    repeat (quiet_step (first | with_reducible exact k0.out _ _ | with_reducible exact k1.out _ _ | with_reducible exact k2.out _ _ | with_reducible exact k3.out _ _ | with_reducible exact k4.out _ _))
    refine wpQuiet_nil ?_
    intro w2 hw'
    have hb2 : Below W1.heap.size W1 w2 := by
      obtain ⟨⟨dq, osq⟩, hw''⟩ := hw'
      rw [hw'']; exact below_regrown W1 dq osq
    clear k0 k1 k2 k3 k4 g0 g1 g2 g3 g4 g5 g6 g7 g8 hw'
    have q0 := (hb2.cell (p := ⟨w.heap.size, 0, none⟩) hz.1).trans p0
    have q1 := (hb2.cell (p := ⟨w.heap.size, 1, none⟩) hz.1).trans p1
    have q2 := (hb2.cell (p := ⟨w.heap.size, 2, none⟩) hz.1).trans p2
    have q3 := (hb2.cell (p := ⟨w.heap.size, 3, none⟩) hz.1).trans p3
    have q4 := (hb2.cell (p := ⟨w.heap.size, 4, none⟩) hz.1).trans p4
    have q5 := (hb2.cell (p := ⟨w.heap.size + 1, 0, none⟩) hz.2).trans p5
    have q6 := (hb2.cell (p := ⟨w.heap.size + 1, 1, none⟩) hz.2).trans p6
    have q7 := (hb2.cell (p := ⟨w.heap.size + 1, 2, none⟩) hz.2).trans p7
    have q8 := (hb2.cell (p := ⟨w.heap.size + 1, 3, none⟩) hz.2).trans p8
    have hz2 : w.heap.size < w2.heap.size ∧ w.heap.size + 1 < w2.heap.size := ⟨Nat.lt_of_lt_of_le hz.1 hb2.size, Nat.lt_of_lt_of_le hz.2 hb2.size⟩
    have hw2 := Lib.hid (hw.out.trans (hb2.mono hw.out.size))
    clear hb2 hz hw p0 p1 p2 p3 p4 p5 p6 p7 p8
    go_wp2_with fail
    refine (C1.out _).mono ?_
    rintro e w3 ⟨rfl, hb3⟩
    have p0 := (hb3.cell (p := ⟨w.heap.size, 0, none⟩) hz2.1).trans q0
    have p1 := (hb3.cell (p := ⟨w.heap.size, 1, none⟩) hz2.1).trans q1
    have p2 := (hb3.cell (p := ⟨w.heap.size, 2, none⟩) hz2.1).trans q2
    have p3 := (hb3.cell (p := ⟨w.heap.size, 3, none⟩) hz2.1).trans q3
    have p4 := (hb3.cell (p := ⟨w.heap.size, 4, none⟩) hz2.1).trans q4
    have p5 := (hb3.cell (p := ⟨w.heap.size + 1, 0, none⟩) hz2.2).trans q5
    have p6 := (hb3.cell (p := ⟨w.heap.size + 1, 1, none⟩) hz2.2).trans q6
    have p7 := (hb3.cell (p := ⟨w.heap.size + 1, 2, none⟩) hz2.2).trans q7
    have p8 := (hb3.cell (p := ⟨w.heap.size + 1, 3, none⟩) hz2.2).trans q8
    have hz3 : w.heap.size < w3.heap.size ∧ w.heap.size + 1 < w3.heap.size := ⟨Nat.lt_of_lt_of_le hz2.1 hb3.size, Nat.lt_of_lt_of_le hz2.2 hb3.size⟩
    have hw3 := Lib.hid (hw2.out.trans (hb3.mono hw2.out.size))
    clear hb3 hz2 hw2 q0 q1 q2 q3 q4 q5 q6 q7 q8
    go_wp2_with fail
    refine (C2.out _).mono ?_
    rintro e w4 ⟨rfl, hb4⟩
    have v0 := (hb4.cell (p := ⟨w3.heap.size, 0, none⟩) (by simp)).trans (show _ = some (Value.int .i64 ga) by rw [World.cell?_alloc_at _ _ _ _ (by simp)]; rfl)
    have v1 := (hb4.cell (p := ⟨w3.heap.size, 1, none⟩) (by simp)).trans (show _ = some (Value.int .i64 gb) by rw [World.cell?_alloc_at _ _ _ _ (by simp)]; rfl)
    have hzv : w3.heap.size < w4.heap.size := by have := hb4.size; simp at this; omega
    have hw4 := Lib.hid (hw3.out.trans ((((Below.refl _ _).alloc (Nat.le_refl _) _).trans (hb4.mono (by simp))).mono hw3.out.size))
    clear hb4 hz3 hw3 p0 p1 p2 p3 p4 p5 p6 p7 p8
    go_wp2
    go_ret
    exact ⟨rfl, hw4.out.alloc hw4.out.size _⟩
/-! ### the row's step -/
theorem contract (H : Type) (enc : TypeId × Value → H) (W : World) (base : Nat) (args : Array Value) (ds gs : List (DataW H)) (before : List MemPlace)
    (hval : ∀ (j : Nat) t v, Tryd.f8.params[j]? = some t → args[j]? = some v → Value.okWide Tryd.prog W .any base t v)
    (hW : DataW.Whole enc Tryd.prog Tryd.f8.params.toList Rows.windSetsSpec.vars false W args.toList ds gs before) (hL : laidMetH Tryd.prog Rows.windSetsRow.laid W) (hsh : W.ShapedOpen Tryd.prog) :
    Calls Tryd.prog 8 args W fun e W' => ∃ v, e = .returned v ∧ Rows.windSetsSpec.post enc Tryd.prog Tryd.f8 false true false false W args v W' := by
  have hW' := hW
  obtain ⟨p, q, hA0, hV, rfl, hfz, hnd⟩ := hW
  have hA : DataW.TrodAll enc Tryd.prog W 0 (fun _ => true) true Tryd.f8.params.toList args.toList ds p := hA0
  rw [Tryd.params8] at hA hval
  obtain ⟨v0, vs0, d0, ds0, p0, q0, hargs, rfl, rfl, h0, r0⟩ := trodAll_cons hA
  obtain ⟨v1, vs1, d1, ds1, p1, q1, rfl, rfl, rfl, h1, r1⟩ := trodAll_cons r0
  obtain ⟨v2, vs2, d2, ds2, p2, q2, rfl, rfl, rfl, h2, r2⟩ := trodAll_cons r1
  obtain ⟨rfl, rfl, rfl⟩ := trodAll_nil r2
  obtain rfl : args = #[v0, v1, v2] := by cases args; simp_all
  obtain ⟨rfl, rfl⟩ := trodVars_none hV
  obtain ⟨a0, rfl, rfl, rfl, w0⟩ := open_int Tryd.underlying2 (hval 0 2 v0 rfl rfl) h0
  obtain ⟨x1_0, x1_1, x1_2, x1_3, x1_4, rfl, rfl, rfl, w1_0, w1_1, w1_2, w1_3, w1_4⟩ := open_flight (hval 1 32 v1 rfl rfl) h1
  obtain ⟨x2_0, x2_1, x2_2, x2_3, rfl, rfl, rfl, w2_0, w2_1, w2_2, w2_3⟩ := open_windbox (hval 2 34 v2 rfl rfl) h2
  clear hA0
  simp only [List.append_nil] at hW'
  refine (walk a0 x1_0 x1_1 x1_2 x1_3 x1_4 x2_0 x2_1 x2_2 x2_3 (bd64 w0).1 (bd64 w0).2 (bd64 w1_0).1 (bd64 w1_0).2 (bd64 w1_1).1 (bd64 w1_1).2 (bd64 w1_2).1 (bd64 w1_2).2 (bd64 w1_3).1 (bd64 w1_3).2 (bd64 w1_4).1 (bd64 w1_4).2 (bd64 w2_0).1 (bd64 w2_0).2 (bd64 w2_1).1 (bd64 w2_1).2 (bd64 w2_2).1 (bd64 w2_2).2 (bd64 w2_3).1 (bd64 w2_3).2 W (env_of hL hsh)).mono fun e W' ⟨he, hb⟩ => ?_
  subst he
  exact ⟨_, rfl, post_of_below (pa := []) (pv := []) hW' (fun _ _ _ => trodAll_cons_mk (shut_bool Tryd.underlying4 _) trodAll_mk0) (fun sp _ => (trodAll_cons_mk (shut_int Tryd.underlying2 w0) (trodAll_cons_mk (shut_flight w1_0 w1_1 w1_2 w1_3 w1_4) (trodAll_cons_mk (shut_windbox w2_0 w2_1 w2_2 w2_3) trodAll_mk0)))) (fun _ _ => rfl) rfl
    hb (ok_one (by kernel_rfl) rfl (okWide_bool_mk Tryd.underlying4 _))⟩

theorem reads (os : Os) {H : Type} (enc : TypeId × Value → H) : ∃ places, DataW.whole enc Tryd.prog ((laidWorld os).forCall (fun _ _ => 0) ⟨#[], #[.int .i64 0, .agg #[.int .i64 0, .int .i64 0, .int .i64 0, .int .i64 0, .int .i64 0], .agg #[.int .i64 0, .int .i64 0, .int .i64 0, .int .i64 0]], []⟩).memory Tryd.f8.params.toList Rows.windSetsSpec.vars false (#[.int .i64 0, .agg #[.int .i64 0, .int .i64 0, .int .i64 0, .int .i64 0, .int .i64 0], .agg #[.int .i64 0, .int .i64 0, .int .i64 0, .int .i64 0]] : Array Value).toList 8 = some ([.lit (.int .i64 0), .agg [.agg [.lit (.int .i64 0), .lit (.int .i64 0)], .lit (.int .i64 0), .agg [.lit (.int .i64 0), .lit (.int .i64 0)]], .agg [.agg [.lit (.int .i64 0), .lit (.int .i64 0)], .agg [.lit (.int .i64 0), .lit (.int .i64 0)]]], [], places) :=
  ⟨[], by kernel_rfl⟩

set_option maxRecDepth 100000 in
theorem lifted (os : Os) (started : os.Started) (H : Type) (enc : TypeId × Value → H) (F : Stop.Interp) :
    ReturnsInHanded {} Tryd.checked os 8 .any ((OpenSpec.ofChange Rows.windSetsSpec).preRow enc Tryd.prog Tryd.f8 Rows.windSetsRow.domain false Rows.windSetsRow.laid) (((OpenSpec.ofChange Rows.windSetsSpec).at F).post enc Tryd.prog Tryd.f8 false true false false) := by
  obtain ⟨places, hx⟩ := reads os enc
  refine returnsInHanded_of_row (C := Tryd.checked) (s := OpenSpec.ofChange Rows.windSetsSpec) own started (by kernel_rfl) Tryd.func8
    (witness_row_at (enc := enc) (C := Tryd.checked) false (laidWorld os) #[.int .i64 0, .agg #[.int .i64 0, .int .i64 0, .int .i64 0, .int .i64 0, .int .i64 0], .agg #[.int .i64 0, .int .i64 0, .int .i64 0, .int .i64 0]] rfl (by kernel_rfl) (by kernel_rfl) (by kernel_rfl)
      (OpenSpec.preRow_of_cond 8 hx (by kernel_rfl) (fun k hk => by cases hk) (by kernel_rfl) (laid_met_any os _))) ?_
  intro W base args ds gs before hval hW _ _ _ hL hsh _
  exact contract H enc W base args ds gs before hval hW hL hsh

theorem said : Rows.WindSetsSaid :=
  OpenClaim.holds_of_cond 8 Tryd.f8 rfl rfl rfl rfl rfl rfl rfl ⟨rfl, rfl, rfl, rfl, rfl⟩ rfl rfl rfl rfl rfl (by kernel_rfl) Tryd.func8 (by kernel_rfl)
    (of_decide_eq_true (by kernel_rfl)) (by unfold Func.isWrapper; first | (rw [if_pos (by decide +kernel)]; kernel_rfl) | (rw [if_neg (by decide +kernel)]; exact ⟨rfl, rfl⟩))
    (fun os started H enc _ F => by rw [OpenClaim.pre_eq_preRow]; exact lifted os started H enc F)

theorem plain (f : FuncId) (fn : Func) (hf : Tryd.pinned.checked.prog.funcNamed "flightdeck/flightdecklaw13.WindSets" = some f) (hfn : Tryd.pinned.checked.prog.funcs[f]? = some fn) :
    false = Tryd.pinned.checked.prog.looks [] ∧ ∀ (j : Nat) t, fn.params[j]? = some t → Tryd.pinned.checked.prog.wantsStandIn t = false := by
  obtain rfl : f = 8 := Option.some.inj ((show Tryd.prog.funcNamed "flightdeck/flightdecklaw13.WindSets" = some 8 by kernel_rfl).symm.trans hf) |>.symm
  obtain rfl : fn = Tryd.f8 := (Option.some.inj (Tryd.func8.symm.trans hfn)).symm
  refine ⟨by kernel_rfl, fun j t ht => ?_⟩
  rw [Tryd.params8] at ht
  have hm := Array.mem_of_getElem? ht
  simp only [List.mem_toArray, List.mem_cons, List.not_mem_nil, or_false] at hm
  rcases hm with rfl | rfl | rfl
  · exact (show Tryd.prog.wantsStandIn 2 = false by kernel_rfl)
  · exact (show Tryd.prog.wantsStandIn 32 = false by kernel_rfl)
  · exact (show Tryd.prog.wantsStandIn 34 = false by kernel_rfl)
/-- the law -/
theorem card : Rows.WindSetsCardSaid :=
  Claim7.holds_tied_plain_at .later [] _ _ _ _ said (fun _ h => by cases h) (by kernel_rfl) (fun _ h => by cases h) windSets_row_tie rfl ⟨rfl, rfl⟩ (by kernel_rfl) rfl plain (by kernel_rfl)
end Go.Proofs.YtdfpbojlimeccaaDoor.windSets

