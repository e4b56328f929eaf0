/-
  The law SensorBoxes holds for every input: radii of boxes are the specified ones, and whether a point is inside; a point inside is at most the radius from the center. No condition.
-/
import Derived.Test.YtnnafjmfbnnnjaaDoorStructs41
import Derived.Test.YtnnafjmfbnnnjaaDoorAwake41
import Derived.Test.YtnnafjmfbnnnjaaDoorAged
import Derived.Lib.QuietBelow
namespace Go.Proofs.YtnnafjmfbnnnjaaDoor.sensorBoxes
set_option linter.unusedVariables false
open Go.ChangeShapes Go.WideShapes Go.ChangeAt Go.RowKit Tr Sq

theorem inside_dist {cx cy bx b2 px py : Int} (h : insB cx cy bx b2 px py = true) (hp : pvB px py = true) : distI cx cy px py ≤ radI cx cy bx b2 := by
  obtain ⟨hv, ⟨h0, h1⟩, h2, h3⟩ := insB_iff.1 h
  obtain ⟨hc, ⟨a0, a1⟩, b0, b1⟩ := boxV_iff.1 hv
  have hpp : (pvB cx cy && pvB px py) = true := by rw [Bool.and_eq_true]; exact ⟨pvB_iff.2 hc, hp⟩
  unfold distI radI
  rw [if_pos hpp, if_pos hv]
  obtain ⟨c0, c1⟩ := sq_bd (x := px - cx) (k := bx) (by omega) (by omega)
  obtain ⟨e0, e1⟩ := sq_bd (x := py - cy) (k := b2) (by omega) (by omega)
  obtain ⟨m0, m1⟩ := sq_bd (x := bx) (k := 2000000) (by omega) (by omega)
  obtain ⟨n0, n1⟩ := sq_bd (x := b2) (k := 2000000) (by omega) (by omega)
  have hd : d2 cx cy px py ≤ bx * bx + b2 * b2 := by unfold d2; omega
  have hd0 : 0 ≤ d2 cx cy px py := by unfold d2; omega
  have hm := isq_mono hd (by omega)
  have h4 : isq (bx * bx + b2 * b2) ≤ sqU (bx * bx + b2 * b2) := by unfold sqU; split <;> omega
  omega
set_option maxHeartbeats 8000000 in
set_option maxRecDepth 100000 in
theorem walk (cx cy bx b2 px py : Int) (cx_a : -9223372036854775808 ≤ cx) (cx_b : cx ≤ 9223372036854775807) (cy_a : -9223372036854775808 ≤ cy) (cy_b : cy ≤ 9223372036854775807) (bx_a : -9223372036854775808 ≤ bx) (bx_b : bx ≤ 9223372036854775807) (b2_a : -9223372036854775808 ≤ b2) (b2_b : b2 ≤ 9223372036854775807) (px_a : -9223372036854775808 ≤ px) (px_b : px ≤ 9223372036854775807) (py_a : -9223372036854775808 ≤ py) (py_b : py ≤ 9223372036854775807) (w : World) (hE : Env w) :
    Calls Tryd.prog 5 #[.agg #[.int .i64 cx, .int .i64 cy, .int .i64 bx, .int .i64 b2], .agg #[.int .i64 px, .int .i64 py]] w fun e w' => e = .returned (.bool true) ∧ Below w.heap.size w w' := by
  have HE := Lib.hid hE
  clear hE
  have R1 := Lib.hid (fun w => radius_any cx cy bx b2 w)
  have R2 := Lib.hid (fun w => radius_ref cx cy bx b2 w)
  have I1 := Lib.hid (fun w => inside_any cx cy bx b2 px py w)
  have I2 := Lib.hid (fun w => inside_ref cx cy bx b2 px py w)
  have V1 := Lib.hid (fun w => pvalid_any px py w)
  have D1 := Lib.hid (fun w => dist_any cx cy px py w)
  have hle := fun h h' => inside_dist (cx := cx) (cy := cy) (bx := bx) (b2 := b2) (px := px) (py := py) h h'
  generalize radI cx cy bx b2 = K at *
  generalize distI cx cy px py = D at *
  generalize pvB px py = p at *
  generalize insB cx cy bx b2 px py = u at *
  cases u
  · clear hle
    go_enter Tryd.func5, Tryd.ntmps5
    go_wp2_with fail
    have c0_0_0 : ((w.alloc (.cells #[.int .i64 cx, .int .i64 cy, .int .i64 bx, .int .i64 b2] 32)).alloc (.cells #[.int .i64 px, .int .i64 py] 24)).cell? ⟨w.heap.size, 0, none⟩ = some (.int .i64 cx) := (((Below.refl (w.heap.size + 1) (w.alloc (.cells #[.int .i64 cx, .int .i64 cy, .int .i64 bx, .int .i64 b2] 32))).alloc (by simp; try omega) (.cells #[.int .i64 px, .int .i64 py] 24)).cell (p := ⟨w.heap.size, 0, none⟩) (by simp; try omega)).trans (by rw [World.cell?_alloc_at _ _ _ _ (by simp)]; rfl)
    have c0_0_1 : ((w.alloc (.cells #[.int .i64 cx, .int .i64 cy, .int .i64 bx, .int .i64 b2] 32)).alloc (.cells #[.int .i64 px, .int .i64 py] 24)).cell? ⟨w.heap.size, 1, none⟩ = some (.int .i64 cy) := (((Below.refl (w.heap.size + 1) (w.alloc (.cells #[.int .i64 cx, .int .i64 cy, .int .i64 bx, .int .i64 b2] 32))).alloc (by simp; try omega) (.cells #[.int .i64 px, .int .i64 py] 24)).cell (p := ⟨w.heap.size, 1, none⟩) (by simp; try omega)).trans (by rw [World.cell?_alloc_at _ _ _ _ (by simp)]; rfl)
    have c0_0_2 : ((w.alloc (.cells #[.int .i64 cx, .int .i64 cy, .int .i64 bx, .int .i64 b2] 32)).alloc (.cells #[.int .i64 px, .int .i64 py] 24)).cell? ⟨w.heap.size, 2, none⟩ = some (.int .i64 bx) := (((Below.refl (w.heap.size + 1) (w.alloc (.cells #[.int .i64 cx, .int .i64 cy, .int .i64 bx, .int .i64 b2] 32))).alloc (by simp; try omega) (.cells #[.int .i64 px, .int .i64 py] 24)).cell (p := ⟨w.heap.size, 2, none⟩) (by simp; try omega)).trans (by rw [World.cell?_alloc_at _ _ _ _ (by simp)]; rfl)
    have c0_0_3 : ((w.alloc (.cells #[.int .i64 cx, .int .i64 cy, .int .i64 bx, .int .i64 b2] 32)).alloc (.cells #[.int .i64 px, .int .i64 py] 24)).cell? ⟨w.heap.size, 3, none⟩ = some (.int .i64 b2) := (((Below.refl (w.heap.size + 1) (w.alloc (.cells #[.int .i64 cx, .int .i64 cy, .int .i64 bx, .int .i64 b2] 32))).alloc (by simp; try omega) (.cells #[.int .i64 px, .int .i64 py] 24)).cell (p := ⟨w.heap.size, 3, none⟩) (by simp; try omega)).trans (by rw [World.cell?_alloc_at _ _ _ _ (by simp)]; rfl)
    have c0_1_0 : ((w.alloc (.cells #[.int .i64 cx, .int .i64 cy, .int .i64 bx, .int .i64 b2] 32)).alloc (.cells #[.int .i64 px, .int .i64 py] 24)).cell? ⟨w.heap.size + 1, 0, none⟩ = some (.int .i64 px) := by rw [World.cell?_alloc_at _ _ _ _ (by simp)]; rfl
    have c0_1_1 : ((w.alloc (.cells #[.int .i64 cx, .int .i64 cy, .int .i64 bx, .int .i64 b2] 32)).alloc (.cells #[.int .i64 px, .int .i64 py] 24)).cell? ⟨w.heap.size + 1, 1, none⟩ = some (.int .i64 py) := by rw [World.cell?_alloc_at _ _ _ _ (by simp)]; rfl
    have z0_0 : w.heap.size < ((w.alloc (.cells #[.int .i64 cx, .int .i64 cy, .int .i64 bx, .int .i64 b2] 32)).alloc (.cells #[.int .i64 px, .int .i64 py] 24)).heap.size := by simp; try omega
    have z0_1 : w.heap.size + 1 < ((w.alloc (.cells #[.int .i64 cx, .int .i64 cy, .int .i64 bx, .int .i64 b2] 32)).alloc (.cells #[.int .i64 px, .int .i64 py] 24)).heap.size := by simp; try omega
    have hw0 := Lib.hid (((Below.refl w.heap.size w).alloc (by simp; try omega) (.cells #[.int .i64 cx, .int .i64 cy, .int .i64 bx, .int .i64 b2] 32)).alloc (by simp; try omega) (.cells #[.int .i64 px, .int .i64 py] 24))
    generalize hW0 : ((w.alloc (.cells #[.int .i64 cx, .int .i64 cy, .int .i64 bx, .int .i64 b2] 32)).alloc (.cells #[.int .i64 px, .int .i64 py] 24)) = w0 at *
    clear hW0
    have g_0_0 := fun d os => cell_regrown c0_0_0 d os
    have g_0_1 := fun d os => cell_regrown c0_0_1 d os
    have g_0_2 := fun d os => cell_regrown c0_0_2 d os
    have g_0_3 := fun d os => cell_regrown c0_0_3 d os
    have g_1_0 := fun d os => cell_regrown c0_1_0 d os
    have g_1_1 := fun d os => cell_regrown c0_1_1 d os
    have k0 := Lib.hid (fun d os => Calls.regrown_of (awake_any (Go.Sort.grow (redrawn w0 d) os) ((HE.out.below hw0.out).below (below_regrown w0 d os))))
    have k1 := Lib.hid (fun d os => Calls.regrown_of (R1.out (Go.Sort.grow (redrawn w0 d) os)))
    have k2 := Lib.hid (fun d os => Calls.regrown_of (R2.out (Go.Sort.grow (redrawn w0 d) os)))
    have k3 := Lib.hid (fun d os => Calls.regrown_of (I1.out (Go.Sort.grow (redrawn w0 d) os)))
    have k4 := Lib.hid (fun d os => Calls.regrown_of (I2.out (Go.Sort.grow (redrawn w0 d) os)))
    refine wp_region_quiet_below (by kernel_rfl) (by kernel_rfl) ?_
    repeat (quiet_step (first | with_reducible exact k0.out _ _ | with_reducible exact k1.out _ _ | with_reducible exact k2.out _ _ | with_reducible exact k3.out _ _ | with_reducible exact k4.out _ _))
    refine wpQuiet_nil ?_
    intro w1 hw'
    have hb1 : Below w0.heap.size w0 w1 := by
      obtain ⟨⟨dq, osq⟩, hw''⟩ := hw'
      rw [hw'']; exact below_regrown w0 dq osq
    clear hw' k0 k1 k2 k3 k4 g_0_0 g_0_1 g_0_2 g_0_3 g_1_0 g_1_1
    have c1_0_0 := (hb1.cell (p := ⟨w.heap.size, 0, none⟩) z0_0).trans c0_0_0
    have c1_0_1 := (hb1.cell (p := ⟨w.heap.size, 1, none⟩) z0_0).trans c0_0_1
    have c1_0_2 := (hb1.cell (p := ⟨w.heap.size, 2, none⟩) z0_0).trans c0_0_2
    have c1_0_3 := (hb1.cell (p := ⟨w.heap.size, 3, none⟩) z0_0).trans c0_0_3
    have c1_1_0 := (hb1.cell (p := ⟨w.heap.size + 1, 0, none⟩) z0_1).trans c0_1_0
    have c1_1_1 := (hb1.cell (p := ⟨w.heap.size + 1, 1, none⟩) z0_1).trans c0_1_1
    have z1_0 : w.heap.size < w1.heap.size := Nat.lt_of_lt_of_le z0_0 hb1.size
    have z1_1 : w.heap.size + 1 < w1.heap.size := Nat.lt_of_lt_of_le z0_1 hb1.size
    have hw1 := Lib.hid (hw0.out.trans (hb1.mono hw0.out.size))
    clear hb1 hw0 c0_0_0 c0_0_1 c0_0_2 c0_0_3 c0_1_0 c0_1_1 z0_0 z0_1
    go_wp2_with fail
    have g_0_0 := fun d os => cell_regrown c1_0_0 d os
    have g_0_1 := fun d os => cell_regrown c1_0_1 d os
    have g_0_2 := fun d os => cell_regrown c1_0_2 d os
    have g_0_3 := fun d os => cell_regrown c1_0_3 d os
    have g_1_0 := fun d os => cell_regrown c1_1_0 d os
    have g_1_1 := fun d os => cell_regrown c1_1_1 d os
    have k0 := Lib.hid (fun d os => Calls.regrown_of (I1.out (Go.Sort.grow (redrawn w1 d) os)))
    have k1 := Lib.hid (fun d os => Calls.regrown_of (V1.out (Go.Sort.grow (redrawn w1 d) os)))
    have k2 := Lib.hid (fun d os => Calls.regrown_of (D1.out (Go.Sort.grow (redrawn w1 d) os)))
    have k3 := Lib.hid (fun d os => Calls.regrown_of (R1.out (Go.Sort.grow (redrawn w1 d) os)))
    refine wp_region_quiet_below (by kernel_rfl) (by kernel_rfl) ?_
    repeat (quiet_step (first | with_reducible exact k0.out _ _ | with_reducible exact k1.out _ _ | with_reducible exact k2.out _ _ | with_reducible exact k3.out _ _))
    refine wpQuiet_nil ?_
    intro w2 hw'
    have hb2 : Below w1.heap.size w1 w2 := by
      obtain ⟨⟨dq, osq⟩, hw''⟩ := hw'
      rw [hw'']; exact below_regrown w1 dq osq
    clear hw' k0 k1 k2 k3 g_0_0 g_0_1 g_0_2 g_0_3 g_1_0 g_1_1
    have hw2 := Lib.hid (hw1.out.trans (hb2.mono hw1.out.size))
    clear hb2 hw1 c1_0_0 c1_0_1 c1_0_2 c1_0_3 c1_1_0 c1_1_1 z1_0 z1_1
    go_wp2
    go_ret
    exact ⟨rfl, hw2.out⟩
  · cases p
    · clear hle
      go_enter Tryd.func5, Tryd.ntmps5
      go_wp2_with fail
      have c0_0_0 : ((w.alloc (.cells #[.int .i64 cx, .int .i64 cy, .int .i64 bx, .int .i64 b2] 32)).alloc (.cells #[.int .i64 px, .int .i64 py] 24)).cell? ⟨w.heap.size, 0, none⟩ = some (.int .i64 cx) := (((Below.refl (w.heap.size + 1) (w.alloc (.cells #[.int .i64 cx, .int .i64 cy, .int .i64 bx, .int .i64 b2] 32))).alloc (by simp; try omega) (.cells #[.int .i64 px, .int .i64 py] 24)).cell (p := ⟨w.heap.size, 0, none⟩) (by simp; try omega)).trans (by rw [World.cell?_alloc_at _ _ _ _ (by simp)]; rfl)
      have c0_0_1 : ((w.alloc (.cells #[.int .i64 cx, .int .i64 cy, .int .i64 bx, .int .i64 b2] 32)).alloc (.cells #[.int .i64 px, .int .i64 py] 24)).cell? ⟨w.heap.size, 1, none⟩ = some (.int .i64 cy) := (((Below.refl (w.heap.size + 1) (w.alloc (.cells #[.int .i64 cx, .int .i64 cy, .int .i64 bx, .int .i64 b2] 32))).alloc (by simp; try omega) (.cells #[.int .i64 px, .int .i64 py] 24)).cell (p := ⟨w.heap.size, 1, none⟩) (by simp; try omega)).trans (by rw [World.cell?_alloc_at _ _ _ _ (by simp)]; rfl)
      have c0_0_2 : ((w.alloc (.cells #[.int .i64 cx, .int .i64 cy, .int .i64 bx, .int .i64 b2] 32)).alloc (.cells #[.int .i64 px, .int .i64 py] 24)).cell? ⟨w.heap.size, 2, none⟩ = some (.int .i64 bx) := (((Below.refl (w.heap.size + 1) (w.alloc (.cells #[.int .i64 cx, .int .i64 cy, .int .i64 bx, .int .i64 b2] 32))).alloc (by simp; try omega) (.cells #[.int .i64 px, .int .i64 py] 24)).cell (p := ⟨w.heap.size, 2, none⟩) (by simp; try omega)).trans (by rw [World.cell?_alloc_at _ _ _ _ (by simp)]; rfl)
      have c0_0_3 : ((w.alloc (.cells #[.int .i64 cx, .int .i64 cy, .int .i64 bx, .int .i64 b2] 32)).alloc (.cells #[.int .i64 px, .int .i64 py] 24)).cell? ⟨w.heap.size, 3, none⟩ = some (.int .i64 b2) := (((Below.refl (w.heap.size + 1) (w.alloc (.cells #[.int .i64 cx, .int .i64 cy, .int .i64 bx, .int .i64 b2] 32))).alloc (by simp; try omega) (.cells #[.int .i64 px, .int .i64 py] 24)).cell (p := ⟨w.heap.size, 3, none⟩) (by simp; try omega)).trans (by rw [World.cell?_alloc_at _ _ _ _ (by simp)]; rfl)
      have c0_1_0 : ((w.alloc (.cells #[.int .i64 cx, .int .i64 cy, .int .i64 bx, .int .i64 b2] 32)).alloc (.cells #[.int .i64 px, .int .i64 py] 24)).cell? ⟨w.heap.size + 1, 0, none⟩ = some (.int .i64 px) := by rw [World.cell?_alloc_at _ _ _ _ (by simp)]; rfl
      have c0_1_1 : ((w.alloc (.cells #[.int .i64 cx, .int .i64 cy, .int .i64 bx, .int .i64 b2] 32)).alloc (.cells #[.int .i64 px, .int .i64 py] 24)).cell? ⟨w.heap.size + 1, 1, none⟩ = some (.int .i64 py) := by rw [World.cell?_alloc_at _ _ _ _ (by simp)]; rfl
      have z0_0 : w.heap.size < ((w.alloc (.cells #[.int .i64 cx, .int .i64 cy, .int .i64 bx, .int .i64 b2] 32)).alloc (.cells #[.int .i64 px, .int .i64 py] 24)).heap.size := by simp; try omega
      have z0_1 : w.heap.size + 1 < ((w.alloc (.cells #[.int .i64 cx, .int .i64 cy, .int .i64 bx, .int .i64 b2] 32)).alloc (.cells #[.int .i64 px, .int .i64 py] 24)).heap.size := by simp; try omega
      have hw0 := Lib.hid (((Below.refl w.heap.size w).alloc (by simp; try omega) (.cells #[.int .i64 cx, .int .i64 cy, .int .i64 bx, .int .i64 b2] 32)).alloc (by simp; try omega) (.cells #[.int .i64 px, .int .i64 py] 24))
      generalize hW0 : ((w.alloc (.cells #[.int .i64 cx, .int .i64 cy, .int .i64 bx, .int .i64 b2] 32)).alloc (.cells #[.int .i64 px, .int .i64 py] 24)) = w0 at *
      clear hW0
      have g_0_0 := fun d os => cell_regrown c0_0_0 d os
      have g_0_1 := fun d os => cell_regrown c0_0_1 d os
      have g_0_2 := fun d os => cell_regrown c0_0_2 d os
      have g_0_3 := fun d os => cell_regrown c0_0_3 d os
      have g_1_0 := fun d os => cell_regrown c0_1_0 d os
      have g_1_1 := fun d os => cell_regrown c0_1_1 d os
      have k0 := Lib.hid (fun d os => Calls.regrown_of (awake_any (Go.Sort.grow (redrawn w0 d) os) ((HE.out.below hw0.out).below (below_regrown w0 d os))))
      have k1 := Lib.hid (fun d os => Calls.regrown_of (R1.out (Go.Sort.grow (redrawn w0 d) os)))
      have k2 := Lib.hid (fun d os => Calls.regrown_of (R2.out (Go.Sort.grow (redrawn w0 d) os)))
      have k3 := Lib.hid (fun d os => Calls.regrown_of (I1.out (Go.Sort.grow (redrawn w0 d) os)))
      have k4 := Lib.hid (fun d os => Calls.regrown_of (I2.out (Go.Sort.grow (redrawn w0 d) os)))
      refine wp_region_quiet_below (by kernel_rfl) (by kernel_rfl) ?_
      repeat (quiet_step (first | with_reducible exact k0.out _ _ | with_reducible exact k1.out _ _ | with_reducible exact k2.out _ _ | with_reducible exact k3.out _ _ | with_reducible exact k4.out _ _))
      refine wpQuiet_nil ?_
      intro w1 hw'
      have hb1 : Below w0.heap.size w0 w1 := by
        obtain ⟨⟨dq, osq⟩, hw''⟩ := hw'
        rw [hw'']; exact below_regrown w0 dq osq
      clear hw' k0 k1 k2 k3 k4 g_0_0 g_0_1 g_0_2 g_0_3 g_1_0 g_1_1
      have c1_0_0 := (hb1.cell (p := ⟨w.heap.size, 0, none⟩) z0_0).trans c0_0_0
      have c1_0_1 := (hb1.cell (p := ⟨w.heap.size, 1, none⟩) z0_0).trans c0_0_1
      have c1_0_2 := (hb1.cell (p := ⟨w.heap.size, 2, none⟩) z0_0).trans c0_0_2
      have c1_0_3 := (hb1.cell (p := ⟨w.heap.size, 3, none⟩) z0_0).trans c0_0_3
      have c1_1_0 := (hb1.cell (p := ⟨w.heap.size + 1, 0, none⟩) z0_1).trans c0_1_0
      have c1_1_1 := (hb1.cell (p := ⟨w.heap.size + 1, 1, none⟩) z0_1).trans c0_1_1
      have z1_0 : w.heap.size < w1.heap.size := Nat.lt_of_lt_of_le z0_0 hb1.size
      have z1_1 : w.heap.size + 1 < w1.heap.size := Nat.lt_of_lt_of_le z0_1 hb1.size
      have hw1 := Lib.hid (hw0.out.trans (hb1.mono hw0.out.size))
      clear hb1 hw0 c0_0_0 c0_0_1 c0_0_2 c0_0_3 c0_1_0 c0_1_1 z0_0 z0_1
      go_wp2_with fail
      have g_0_0 := fun d os => cell_regrown c1_0_0 d os
      have g_0_1 := fun d os => cell_regrown c1_0_1 d os
      have g_0_2 := fun d os => cell_regrown c1_0_2 d os
      have g_0_3 := fun d os => cell_regrown c1_0_3 d os
      have g_1_0 := fun d os => cell_regrown c1_1_0 d os
      have g_1_1 := fun d os => cell_regrown c1_1_1 d os
      have k0 := Lib.hid (fun d os => Calls.regrown_of (I1.out (Go.Sort.grow (redrawn w1 d) os)))
      have k1 := Lib.hid (fun d os => Calls.regrown_of (V1.out (Go.Sort.grow (redrawn w1 d) os)))
      have k2 := Lib.hid (fun d os => Calls.regrown_of (D1.out (Go.Sort.grow (redrawn w1 d) os)))
      have k3 := Lib.hid (fun d os => Calls.regrown_of (R1.out (Go.Sort.grow (redrawn w1 d) os)))
      refine wp_region_quiet_below (by kernel_rfl) (by kernel_rfl) ?_
      repeat (quiet_step (first | with_reducible exact k0.out _ _ | with_reducible exact k1.out _ _ | with_reducible exact k2.out _ _ | with_reducible exact k3.out _ _))
      refine wpQuiet_nil ?_
      intro w2 hw'
      have hb2 : Below w1.heap.size w1 w2 := by
        obtain ⟨⟨dq, osq⟩, hw''⟩ := hw'
        rw [hw'']; exact below_regrown w1 dq osq
      clear hw' k0 k1 k2 k3 g_0_0 g_0_1 g_0_2 g_0_3 g_1_0 g_1_1
      have hw2 := Lib.hid (hw1.out.trans (hb2.mono hw1.out.size))
      clear hb2 hw1 c1_0_0 c1_0_1 c1_0_2 c1_0_3 c1_1_0 c1_1_1 z1_0 z1_1
      go_wp2
      go_ret
      exact ⟨rfl, hw2.out⟩
    · have hle' : decide (D ≤ K) = true := by simpa using hle rfl rfl
      clear hle
      go_enter Tryd.func5, Tryd.ntmps5
      go_wp2_with fail
      have c0_0_0 : ((w.alloc (.cells #[.int .i64 cx, .int .i64 cy, .int .i64 bx, .int .i64 b2] 32)).alloc (.cells #[.int .i64 px, .int .i64 py] 24)).cell? ⟨w.heap.size, 0, none⟩ = some (.int .i64 cx) := (((Below.refl (w.heap.size + 1) (w.alloc (.cells #[.int .i64 cx, .int .i64 cy, .int .i64 bx, .int .i64 b2] 32))).alloc (by simp; try omega) (.cells #[.int .i64 px, .int .i64 py] 24)).cell (p := ⟨w.heap.size, 0, none⟩) (by simp; try omega)).trans (by rw [World.cell?_alloc_at _ _ _ _ (by simp)]; rfl)
      have c0_0_1 : ((w.alloc (.cells #[.int .i64 cx, .int .i64 cy, .int .i64 bx, .int .i64 b2] 32)).alloc (.cells #[.int .i64 px, .int .i64 py] 24)).cell? ⟨w.heap.size, 1, none⟩ = some (.int .i64 cy) := (((Below.refl (w.heap.size + 1) (w.alloc (.cells #[.int .i64 cx, .int .i64 cy, .int .i64 bx, .int .i64 b2] 32))).alloc (by simp; try omega) (.cells #[.int .i64 px, .int .i64 py] 24)).cell (p := ⟨w.heap.size, 1, none⟩) (by simp; try omega)).trans (by rw [World.cell?_alloc_at _ _ _ _ (by simp)]; rfl)
      have c0_0_2 : ((w.alloc (.cells #[.int .i64 cx, .int .i64 cy, .int .i64 bx, .int .i64 b2] 32)).alloc (.cells #[.int .i64 px, .int .i64 py] 24)).cell? ⟨w.heap.size, 2, none⟩ = some (.int .i64 bx) := (((Below.refl (w.heap.size + 1) (w.alloc (.cells #[.int .i64 cx, .int .i64 cy, .int .i64 bx, .int .i64 b2] 32))).alloc (by simp; try omega) (.cells #[.int .i64 px, .int .i64 py] 24)).cell (p := ⟨w.heap.size, 2, none⟩) (by simp; try omega)).trans (by rw [World.cell?_alloc_at _ _ _ _ (by simp)]; rfl)
      have c0_0_3 : ((w.alloc (.cells #[.int .i64 cx, .int .i64 cy, .int .i64 bx, .int .i64 b2] 32)).alloc (.cells #[.int .i64 px, .int .i64 py] 24)).cell? ⟨w.heap.size, 3, none⟩ = some (.int .i64 b2) := (((Below.refl (w.heap.size + 1) (w.alloc (.cells #[.int .i64 cx, .int .i64 cy, .int .i64 bx, .int .i64 b2] 32))).alloc (by simp; try omega) (.cells #[.int .i64 px, .int .i64 py] 24)).cell (p := ⟨w.heap.size, 3, none⟩) (by simp; try omega)).trans (by rw [World.cell?_alloc_at _ _ _ _ (by simp)]; rfl)
      have c0_1_0 : ((w.alloc (.cells #[.int .i64 cx, .int .i64 cy, .int .i64 bx, .int .i64 b2] 32)).alloc (.cells #[.int .i64 px, .int .i64 py] 24)).cell? ⟨w.heap.size + 1, 0, none⟩ = some (.int .i64 px) := by rw [World.cell?_alloc_at _ _ _ _ (by simp)]; rfl
      have c0_1_1 : ((w.alloc (.cells #[.int .i64 cx, .int .i64 cy, .int .i64 bx, .int .i64 b2] 32)).alloc (.cells #[.int .i64 px, .int .i64 py] 24)).cell? ⟨w.heap.size + 1, 1, none⟩ = some (.int .i64 py) := by rw [World.cell?_alloc_at _ _ _ _ (by simp)]; rfl
      have z0_0 : w.heap.size < ((w.alloc (.cells #[.int .i64 cx, .int .i64 cy, .int .i64 bx, .int .i64 b2] 32)).alloc (.cells #[.int .i64 px, .int .i64 py] 24)).heap.size := by simp; try omega
      have z0_1 : w.heap.size + 1 < ((w.alloc (.cells #[.int .i64 cx, .int .i64 cy, .int .i64 bx, .int .i64 b2] 32)).alloc (.cells #[.int .i64 px, .int .i64 py] 24)).heap.size := by simp; try omega
      have hw0 := Lib.hid (((Below.refl w.heap.size w).alloc (by simp; try omega) (.cells #[.int .i64 cx, .int .i64 cy, .int .i64 bx, .int .i64 b2] 32)).alloc (by simp; try omega) (.cells #[.int .i64 px, .int .i64 py] 24))
      generalize hW0 : ((w.alloc (.cells #[.int .i64 cx, .int .i64 cy, .int .i64 bx, .int .i64 b2] 32)).alloc (.cells #[.int .i64 px, .int .i64 py] 24)) = w0 at *
      clear hW0
      have g_0_0 := fun d os => cell_regrown c0_0_0 d os
      have g_0_1 := fun d os => cell_regrown c0_0_1 d os
      have g_0_2 := fun d os => cell_regrown c0_0_2 d os
      have g_0_3 := fun d os => cell_regrown c0_0_3 d os
      have g_1_0 := fun d os => cell_regrown c0_1_0 d os
      have g_1_1 := fun d os => cell_regrown c0_1_1 d os
      have k0 := Lib.hid (fun d os => Calls.regrown_of (awake_any (Go.Sort.grow (redrawn w0 d) os) ((HE.out.below hw0.out).below (below_regrown w0 d os))))
      have k1 := Lib.hid (fun d os => Calls.regrown_of (R1.out (Go.Sort.grow (redrawn w0 d) os)))
      have k2 := Lib.hid (fun d os => Calls.regrown_of (R2.out (Go.Sort.grow (redrawn w0 d) os)))
      have k3 := Lib.hid (fun d os => Calls.regrown_of (I1.out (Go.Sort.grow (redrawn w0 d) os)))
      have k4 := Lib.hid (fun d os => Calls.regrown_of (I2.out (Go.Sort.grow (redrawn w0 d) os)))
      refine wp_region_quiet_below (by kernel_rfl) (by kernel_rfl) ?_
      repeat (quiet_step (first | with_reducible exact k0.out _ _ | with_reducible exact k1.out _ _ | with_reducible exact k2.out _ _ | with_reducible exact k3.out _ _ | with_reducible exact k4.out _ _))
      refine wpQuiet_nil ?_
      intro w1 hw'
      have hb1 : Below w0.heap.size w0 w1 := by
        obtain ⟨⟨dq, osq⟩, hw''⟩ := hw'
        rw [hw'']; exact below_regrown w0 dq osq
      clear hw' k0 k1 k2 k3 k4 g_0_0 g_0_1 g_0_2 g_0_3 g_1_0 g_1_1
      have c1_0_0 := (hb1.cell (p := ⟨w.heap.size, 0, none⟩) z0_0).trans c0_0_0
      have c1_0_1 := (hb1.cell (p := ⟨w.heap.size, 1, none⟩) z0_0).trans c0_0_1
      have c1_0_2 := (hb1.cell (p := ⟨w.heap.size, 2, none⟩) z0_0).trans c0_0_2
      have c1_0_3 := (hb1.cell (p := ⟨w.heap.size, 3, none⟩) z0_0).trans c0_0_3
      have c1_1_0 := (hb1.cell (p := ⟨w.heap.size + 1, 0, none⟩) z0_1).trans c0_1_0
      have c1_1_1 := (hb1.cell (p := ⟨w.heap.size + 1, 1, none⟩) z0_1).trans c0_1_1
      have z1_0 : w.heap.size < w1.heap.size := Nat.lt_of_lt_of_le z0_0 hb1.size
      have z1_1 : w.heap.size + 1 < w1.heap.size := Nat.lt_of_lt_of_le z0_1 hb1.size
      have hw1 := Lib.hid (hw0.out.trans (hb1.mono hw0.out.size))
      clear hb1 hw0 c0_0_0 c0_0_1 c0_0_2 c0_0_3 c0_1_0 c0_1_1 z0_0 z0_1
      go_wp2_with fail
      have g_0_0 := fun d os => cell_regrown c1_0_0 d os
      have g_0_1 := fun d os => cell_regrown c1_0_1 d os
      have g_0_2 := fun d os => cell_regrown c1_0_2 d os
      have g_0_3 := fun d os => cell_regrown c1_0_3 d os
      have g_1_0 := fun d os => cell_regrown c1_1_0 d os
      have g_1_1 := fun d os => cell_regrown c1_1_1 d os
      have k0 := Lib.hid (fun d os => Calls.regrown_of (I1.out (Go.Sort.grow (redrawn w1 d) os)))
      have k1 := Lib.hid (fun d os => Calls.regrown_of (V1.out (Go.Sort.grow (redrawn w1 d) os)))
      have k2 := Lib.hid (fun d os => Calls.regrown_of (D1.out (Go.Sort.grow (redrawn w1 d) os)))
      have k3 := Lib.hid (fun d os => Calls.regrown_of (R1.out (Go.Sort.grow (redrawn w1 d) os)))
      refine wp_region_quiet_below (by kernel_rfl) (by kernel_rfl) ?_
      repeat (quiet_step (first | with_reducible exact k0.out _ _ | with_reducible exact k1.out _ _ | with_reducible exact k2.out _ _ | with_reducible exact k3.out _ _))
      refine wpQuiet_nil ?_
      intro w2 hw'
      have hb2 : Below w1.heap.size w1 w2 := by
        obtain ⟨⟨dq, osq⟩, hw''⟩ := hw'
        rw [hw'']; exact below_regrown w1 dq osq
      clear hw' k0 k1 k2 k3 g_0_0 g_0_1 g_0_2 g_0_3 g_1_0 g_1_1
      have hw2 := Lib.hid (hw1.out.trans (hb2.mono hw1.out.size))
      clear hb2 hw1 c1_0_0 c1_0_1 c1_0_2 c1_0_3 c1_1_0 c1_1_1 z1_0 z1_1
      go_wp2
      go_ret
      exact ⟨rfl, hw2.out⟩
/-! ### the row's step -/
set_option maxRecDepth 100000 in
theorem contract (H : Type) (enc : TypeId × Value → H) (W : World) (base : Nat) (args : Array Value) (ds gs : List (DataW H)) (before : List MemPlace)
    (hval : ∀ (j : Nat) t v, Tryd.f5.params[j]? = some t → args[j]? = some v → Value.okWide Tryd.prog W .any base t v)
    (hW : DataW.Whole enc Tryd.prog Tryd.f5.params.toList Rows.sensorBoxesSpec.vars false W args.toList ds gs before) (hL : laidMetH Tryd.prog Rows.sensorBoxesRow.laid W) (hsh : W.ShapedOpen Tryd.prog) :
    Calls Tryd.prog 5 args W fun e W' => ∃ v, e = .returned v ∧ Rows.sensorBoxesSpec.post enc Tryd.prog Tryd.f5 false true false false W args v W' := by
  have hW' := hW
  obtain ⟨p, q, hA0, hV, rfl, hfz, hnd⟩ := hW
  have hA : DataW.TrodAll enc Tryd.prog W 0 (fun _ => true) true Tryd.f5.params.toList args.toList ds p := hA0
  rw [Tryd.params5] at hA hval
  obtain ⟨v0, vs0, d0, ds0, p0, q0, hargs, rfl, rfl, h0, r0⟩ := trodAll_cons hA
  obtain ⟨v1, vs1, d1, ds1, p1, q1, rfl, rfl, rfl, h1, r1⟩ := trodAll_cons r0
  obtain ⟨rfl, rfl, rfl⟩ := trodAll_nil r1
  obtain rfl : args = #[v0, v1] := by cases args; simp_all
  obtain ⟨rfl, rfl⟩ := trodVars_none hV
  obtain ⟨x0_0, x0_1, x0_2, x0_3, rfl, rfl, rfl, w0_0, w0_1, w0_2, w0_3⟩ := open_box (hval 0 32 v0 rfl rfl) h0
  obtain ⟨x1_0, x1_1, rfl, rfl, rfl, w1_0, w1_1⟩ := open_point (hval 1 24 v1 rfl rfl) h1
  clear hA0
  simp only [List.append_nil] at hW'
  refine (walk x0_0 x0_1 x0_2 x0_3 x1_0 x1_1 (bd64 w0_0).1 (bd64 w0_0).2 (bd64 w0_1).1 (bd64 w0_1).2 (bd64 w0_2).1 (bd64 w0_2).2 (bd64 w0_3).1 (bd64 w0_3).2 (bd64 w1_0).1 (bd64 w1_0).2 (bd64 w1_1).1 (bd64 w1_1).2 W (env_of hL hsh)).mono fun e W' ⟨he, hb⟩ => ?_
  subst he
  exact ⟨_, rfl, post_of_below (pa := []) (pv := []) hW' (fun _ _ _ => trodAll_cons_mk (shut_bool Tryd.underlying4 _) trodAll_mk0) (fun sp _ => (trodAll_cons_mk (shut_box w0_0 w0_1 w0_2 w0_3) (trodAll_cons_mk (shut_point w1_0 w1_1) trodAll_mk0))) (fun _ _ => rfl) rfl
    hb (ok_one (by kernel_rfl) rfl (okWide_bool_mk Tryd.underlying4 _))⟩

theorem reads (os : Os) {H : Type} (enc : TypeId × Value → H) : ∃ places, DataW.whole enc Tryd.prog ((laidWorld os).forCall (fun _ _ => 0) ⟨#[], #[.agg #[.int .i64 0, .int .i64 0, .int .i64 0, .int .i64 0], .agg #[.int .i64 0, .int .i64 0]], []⟩).memory Tryd.f5.params.toList Rows.sensorBoxesSpec.vars false (#[.agg #[.int .i64 0, .int .i64 0, .int .i64 0, .int .i64 0], .agg #[.int .i64 0, .int .i64 0]] : Array Value).toList 8 = some ([.agg [.agg [.lit (.int .i64 0), .lit (.int .i64 0)], .lit (.int .i64 0), .lit (.int .i64 0)], .agg [.lit (.int .i64 0), .lit (.int .i64 0)]], [], places) :=
  ⟨[], by kernel_rfl⟩

set_option maxRecDepth 100000 in
theorem lifted (os : Os) (started : os.Started) (H : Type) (enc : TypeId × Value → H) (F : Stop.Interp) :
    ReturnsInHanded {} Tryd.checked os 5 .any ((OpenSpec.ofChange Rows.sensorBoxesSpec).preRow enc Tryd.prog Tryd.f5 Rows.sensorBoxesRow.domain false Rows.sensorBoxesRow.laid) (((OpenSpec.ofChange Rows.sensorBoxesSpec).at F).post enc Tryd.prog Tryd.f5 false true false false) := by
  obtain ⟨places, hx⟩ := reads os enc
  refine returnsInHanded_of_row (C := Tryd.checked) (s := OpenSpec.ofChange Rows.sensorBoxesSpec) own started (by kernel_rfl) Tryd.func5
    (witness_row_at (enc := enc) (C := Tryd.checked) false (laidWorld os) #[.agg #[.int .i64 0, .int .i64 0, .int .i64 0, .int .i64 0], .agg #[.int .i64 0, .int .i64 0]] rfl (by kernel_rfl) (by kernel_rfl) (by kernel_rfl)
      (OpenSpec.preRow_of_cond 8 hx (by kernel_rfl) (fun k hk => by cases hk) (by kernel_rfl) (laid_met_any os _))) ?_
  intro W base args ds gs before hval hW _ _ _ hL hsh _
  exact contract H enc W base args ds gs before hval hW hL hsh

theorem said : Rows.SensorBoxesSaid :=
  OpenClaim.holds_of_cond 5 Tryd.f5 rfl rfl rfl rfl rfl rfl rfl ⟨rfl, rfl, rfl, rfl, rfl⟩ rfl rfl rfl rfl rfl (by kernel_rfl) Tryd.func5 (by kernel_rfl)
    (of_decide_eq_true (by kernel_rfl)) (by unfold Func.isWrapper; first | (rw [if_pos (by decide +kernel)]; kernel_rfl) | (rw [if_neg (by decide +kernel)]; exact ⟨rfl, rfl⟩))
    (fun os started H enc _ F => by rw [OpenClaim.pre_eq_preRow]; exact lifted os started H enc F)

theorem plain (f : FuncId) (fn : Func) (hf : Tryd.pinned.checked.prog.funcNamed "flightdeck/flightdecklaw41.SensorBoxes" = some f) (hfn : Tryd.pinned.checked.prog.funcs[f]? = some fn) :
    false = Tryd.pinned.checked.prog.looks [] ∧ ∀ (j : Nat) t, fn.params[j]? = some t → Tryd.pinned.checked.prog.wantsStandIn t = false := by
  obtain rfl : f = 5 := Option.some.inj ((show Tryd.prog.funcNamed "flightdeck/flightdecklaw41.SensorBoxes" = some 5 by kernel_rfl).symm.trans hf) |>.symm
  obtain rfl : fn = Tryd.f5 := (Option.some.inj (Tryd.func5.symm.trans hfn)).symm
  refine ⟨by kernel_rfl, fun j t ht => ?_⟩
  rw [Tryd.params5] at ht
  have hm := Array.mem_of_getElem? ht
  simp only [List.mem_toArray, List.mem_cons, List.not_mem_nil, or_false] at hm
  rcases hm with rfl | rfl
  · exact (show Tryd.prog.wantsStandIn 32 = false by kernel_rfl)
  · exact (show Tryd.prog.wantsStandIn 24 = false by kernel_rfl)
/-- the law -/
theorem card : Rows.SensorBoxesCardSaid :=
  Claim7.holds_tied_plain_at .later [] _ _ _ _ said (fun _ h => by cases h) (by kernel_rfl) (fun _ h => by cases h) sensorBoxes_row_tie rfl ⟨rfl, rfl⟩ (by kernel_rfl) rfl plain (by kernel_rfl)
end Go.Proofs.YtnnafjmfbnnnjaaDoor.sensorBoxes
