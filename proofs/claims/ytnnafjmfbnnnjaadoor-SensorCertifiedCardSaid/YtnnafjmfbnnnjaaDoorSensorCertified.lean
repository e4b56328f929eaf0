/-
  The law SensorCertified holds for every input: the true point meets every measurement of a report that agrees with it, within its bound. No condition.
-/
import Derived.Test.YtnnafjmfbnnnjaaDoorStructs41
import Derived.Test.YtnnafjmfbnnnjaaDoorAwake41
import Derived.Test.YtnnafjmfbnnnjaaDoorAged
import Derived.Lib.QuietBelow
import Derived.Test.YtnnafjmfbnnnjaaDoorSmallPlain
import Derived.Test.YtnnafjmfbnnnjaaDoorCertPlain
namespace Go.Proofs.YtnnafjmfbnnnjaaDoor.sensorCertified
set_option linter.unusedVariables false
open Go.ChangeShapes Go.WideShapes Go.ChangeAt Go.RowKit Tr Sq

def CeR (w : World) (n : Nat) (i : Value) (w' : World) : Prop := ∃ j : Nat, j ≤ n ∧ i = .int .i64 j ∧ Below w.heap.size w w'
set_option maxHeartbeats 8000000 in
set_option maxRecDepth 100000 in
theorem walk (s k x y v b wt t cx cy bx b2 px py : Int) (s_a : -9223372036854775808 ≤ s) (s_b : s ≤ 9223372036854775807) (k_a : 0 ≤ k) (k_b : k ≤ 255) (x_a : -9223372036854775808 ≤ x) (x_b : x ≤ 9223372036854775807) (y_a : -9223372036854775808 ≤ y) (y_b : y ≤ 9223372036854775807) (v_a : -9223372036854775808 ≤ v) (v_b : v ≤ 9223372036854775807) (b_a : -9223372036854775808 ≤ b) (b_b : b ≤ 9223372036854775807) (wt_a : -9223372036854775808 ≤ wt) (wt_b : wt ≤ 9223372036854775807) (t_a : -9223372036854775808 ≤ t) (t_b : t ≤ 9223372036854775807) (cx_a : -9223372036854775808 ≤ cx) (cx_b : cx ≤ 9223372036854775807) (cy_a : -9223372036854775808 ≤ cy) (cy_b : cy ≤ 9223372036854775807) (bx_a : -9223372036854775808 ≤ bx) (bx_b : bx ≤ 9223372036854775807) (b2_a : -9223372036854775808 ≤ b2) (b2_b : b2 ≤ 9223372036854775807) (px_a : -9223372036854775808 ≤ px) (px_b : px ≤ 9223372036854775807) (py_a : -9223372036854775808 ≤ py) (py_b : py ≤ 9223372036854775807) (w : World) (hE : Env w) :
    Calls Tryd.prog 6 #[.agg #[.int .i64 s, .int .u8 k, .int .i64 x, .int .i64 y, .int .i64 v, .int .i64 b, .int .i64 wt, .int .i64 t], .agg #[.int .i64 cx, .int .i64 cy, .int .i64 bx, .int .i64 b2], .agg #[.int .i64 px, .int .i64 py]] w fun e w' => e = .returned (.bool true) ∧ Below w.heap.size w w' := by
  have HE := Lib.hid hE
  clear hE
  have hsm := rows_small (s := s) (k := k) (x := x) (y := y) (v := v) (b := b) (wt := wt) (t := t) (cx := cx) (cy := cy) (bx := bx) (b2 := b2)
  have hce := rows_cert (s := s) (k := k) (x := x) (y := y) (v := v) (b := b) (wt := wt) (t := t) (cx := cx) (cy := cy) (bx := bx) (b2 := b2) (px := px) (py := py)
  have R0 := fun w => rows_any s k x y v b wt t cx cy bx b2 w k_a k_b
  have G0 := fun w => agrees_any s k x y v b wt t px py w k_a k_b
  have I0 := fun w => inside_any cx cy bx b2 px py w
  generalize rowsF s k x y v b wt t cx cy bx b2 = g at *
  obtain ⟨l, en⟩ := g
  simp only at hsm hce
  have HR0 := Lib.hid R0
  clear R0
  by_cases he : en = 0
  · subst he
    have hsh : (∃ m, l = [m]) ∨ ∃ m n, l = [m, n] := by
      rcases hsm with ⟨h, _⟩ | ⟨_, ⟨m, h, _⟩ | ⟨_, m, n, h, _⟩⟩
      · exact absurd rfl h
      · exact .inl ⟨m, h⟩
      · exact .inr ⟨m, n, h⟩
    clear hsm
    generalize agrB s k x y v b wt t px py = ga at *
    generalize insB cx cy bx b2 px py = gi at *
    have HG0 := Lib.hid G0
    have HI0 := Lib.hid I0
    clear G0 I0
    cases ga with
    | false =>
      clear hce
      go_enter Tryd.func6, Tryd.ntmps6
      go_wp2_with fail
      have c0_0_0 : (((w.alloc (.cells #[.int .i64 s, .int .u8 k, .int .i64 x, .int .i64 y, .int .i64 v, .int .i64 b, .int .i64 wt, .int .i64 t] 26)).alloc (.cells #[.int .i64 cx, .int .i64 cy, .int .i64 bx, .int .i64 b2] 32)).alloc (.cells #[.int .i64 px, .int .i64 py] 24)).cell? ⟨w.heap.size, 0, none⟩ = some (.int .i64 s) := ((((Below.refl (w.heap.size + 1) (w.alloc (.cells #[.int .i64 s, .int .u8 k, .int .i64 x, .int .i64 y, .int .i64 v, .int .i64 b, .int .i64 wt, .int .i64 t] 26))).alloc (by simp; try omega) (.cells #[.int .i64 cx, .int .i64 cy, .int .i64 bx, .int .i64 b2] 32)).alloc (by simp; try omega) (.cells #[.int .i64 px, .int .i64 py] 24)).cell (p := ⟨w.heap.size, 0, none⟩) (by simp; try omega)).trans (by rw [World.cell?_alloc_at _ _ _ _ (by simp)]; rfl)
      have c0_0_1 : (((w.alloc (.cells #[.int .i64 s, .int .u8 k, .int .i64 x, .int .i64 y, .int .i64 v, .int .i64 b, .int .i64 wt, .int .i64 t] 26)).alloc (.cells #[.int .i64 cx, .int .i64 cy, .int .i64 bx, .int .i64 b2] 32)).alloc (.cells #[.int .i64 px, .int .i64 py] 24)).cell? ⟨w.heap.size, 1, none⟩ = some (.int .u8 k) := ((((Below.refl (w.heap.size + 1) (w.alloc (.cells #[.int .i64 s, .int .u8 k, .int .i64 x, .int .i64 y, .int .i64 v, .int .i64 b, .int .i64 wt, .int .i64 t] 26))).alloc (by simp; try omega) (.cells #[.int .i64 cx, .int .i64 cy, .int .i64 bx, .int .i64 b2] 32)).alloc (by simp; try omega) (.cells #[.int .i64 px, .int .i64 py] 24)).cell (p := ⟨w.heap.size, 1, none⟩) (by simp; try omega)).trans (by rw [World.cell?_alloc_at _ _ _ _ (by simp)]; rfl)
      have c0_0_2 : (((w.alloc (.cells #[.int .i64 s, .int .u8 k, .int .i64 x, .int .i64 y, .int .i64 v, .int .i64 b, .int .i64 wt, .int .i64 t] 26)).alloc (.cells #[.int .i64 cx, .int .i64 cy, .int .i64 bx, .int .i64 b2] 32)).alloc (.cells #[.int .i64 px, .int .i64 py] 24)).cell? ⟨w.heap.size, 2, none⟩ = some (.int .i64 x) := ((((Below.refl (w.heap.size + 1) (w.alloc (.cells #[.int .i64 s, .int .u8 k, .int .i64 x, .int .i64 y, .int .i64 v, .int .i64 b, .int .i64 wt, .int .i64 t] 26))).alloc (by simp; try omega) (.cells #[.int .i64 cx, .int .i64 cy, .int .i64 bx, .int .i64 b2] 32)).alloc (by simp; try omega) (.cells #[.int .i64 px, .int .i64 py] 24)).cell (p := ⟨w.heap.size, 2, none⟩) (by simp; try omega)).trans (by rw [World.cell?_alloc_at _ _ _ _ (by simp)]; rfl)
      have c0_0_3 : (((w.alloc (.cells #[.int .i64 s, .int .u8 k, .int .i64 x, .int .i64 y, .int .i64 v, .int .i64 b, .int .i64 wt, .int .i64 t] 26)).alloc (.cells #[.int .i64 cx, .int .i64 cy, .int .i64 bx, .int .i64 b2] 32)).alloc (.cells #[.int .i64 px, .int .i64 py] 24)).cell? ⟨w.heap.size, 3, none⟩ = some (.int .i64 y) := ((((Below.refl (w.heap.size + 1) (w.alloc (.cells #[.int .i64 s, .int .u8 k, .int .i64 x, .int .i64 y, .int .i64 v, .int .i64 b, .int .i64 wt, .int .i64 t] 26))).alloc (by simp; try omega) (.cells #[.int .i64 cx, .int .i64 cy, .int .i64 bx, .int .i64 b2] 32)).alloc (by simp; try omega) (.cells #[.int .i64 px, .int .i64 py] 24)).cell (p := ⟨w.heap.size, 3, none⟩) (by simp; try omega)).trans (by rw [World.cell?_alloc_at _ _ _ _ (by simp)]; rfl)
      have c0_0_4 : (((w.alloc (.cells #[.int .i64 s, .int .u8 k, .int .i64 x, .int .i64 y, .int .i64 v, .int .i64 b, .int .i64 wt, .int .i64 t] 26)).alloc (.cells #[.int .i64 cx, .int .i64 cy, .int .i64 bx, .int .i64 b2] 32)).alloc (.cells #[.int .i64 px, .int .i64 py] 24)).cell? ⟨w.heap.size, 4, none⟩ = some (.int .i64 v) := ((((Below.refl (w.heap.size + 1) (w.alloc (.cells #[.int .i64 s, .int .u8 k, .int .i64 x, .int .i64 y, .int .i64 v, .int .i64 b, .int .i64 wt, .int .i64 t] 26))).alloc (by simp; try omega) (.cells #[.int .i64 cx, .int .i64 cy, .int .i64 bx, .int .i64 b2] 32)).alloc (by simp; try omega) (.cells #[.int .i64 px, .int .i64 py] 24)).cell (p := ⟨w.heap.size, 4, none⟩) (by simp; try omega)).trans (by rw [World.cell?_alloc_at _ _ _ _ (by simp)]; rfl)
      have c0_0_5 : (((w.alloc (.cells #[.int .i64 s, .int .u8 k, .int .i64 x, .int .i64 y, .int .i64 v, .int .i64 b, .int .i64 wt, .int .i64 t] 26)).alloc (.cells #[.int .i64 cx, .int .i64 cy, .int .i64 bx, .int .i64 b2] 32)).alloc (.cells #[.int .i64 px, .int .i64 py] 24)).cell? ⟨w.heap.size, 5, none⟩ = some (.int .i64 b) := ((((Below.refl (w.heap.size + 1) (w.alloc (.cells #[.int .i64 s, .int .u8 k, .int .i64 x, .int .i64 y, .int .i64 v, .int .i64 b, .int .i64 wt, .int .i64 t] 26))).alloc (by simp; try omega) (.cells #[.int .i64 cx, .int .i64 cy, .int .i64 bx, .int .i64 b2] 32)).alloc (by simp; try omega) (.cells #[.int .i64 px, .int .i64 py] 24)).cell (p := ⟨w.heap.size, 5, none⟩) (by simp; try omega)).trans (by rw [World.cell?_alloc_at _ _ _ _ (by simp)]; rfl)
      have c0_0_6 : (((w.alloc (.cells #[.int .i64 s, .int .u8 k, .int .i64 x, .int .i64 y, .int .i64 v, .int .i64 b, .int .i64 wt, .int .i64 t] 26)).alloc (.cells #[.int .i64 cx, .int .i64 cy, .int .i64 bx, .int .i64 b2] 32)).alloc (.cells #[.int .i64 px, .int .i64 py] 24)).cell? ⟨w.heap.size, 6, none⟩ = some (.int .i64 wt) := ((((Below.refl (w.heap.size + 1) (w.alloc (.cells #[.int .i64 s, .int .u8 k, .int .i64 x, .int .i64 y, .int .i64 v, .int .i64 b, .int .i64 wt, .int .i64 t] 26))).alloc (by simp; try omega) (.cells #[.int .i64 cx, .int .i64 cy, .int .i64 bx, .int .i64 b2] 32)).alloc (by simp; try omega) (.cells #[.int .i64 px, .int .i64 py] 24)).cell (p := ⟨w.heap.size, 6, none⟩) (by simp; try omega)).trans (by rw [World.cell?_alloc_at _ _ _ _ (by simp)]; rfl)
      have c0_0_7 : (((w.alloc (.cells #[.int .i64 s, .int .u8 k, .int .i64 x, .int .i64 y, .int .i64 v, .int .i64 b, .int .i64 wt, .int .i64 t] 26)).alloc (.cells #[.int .i64 cx, .int .i64 cy, .int .i64 bx, .int .i64 b2] 32)).alloc (.cells #[.int .i64 px, .int .i64 py] 24)).cell? ⟨w.heap.size, 7, none⟩ = some (.int .i64 t) := ((((Below.refl (w.heap.size + 1) (w.alloc (.cells #[.int .i64 s, .int .u8 k, .int .i64 x, .int .i64 y, .int .i64 v, .int .i64 b, .int .i64 wt, .int .i64 t] 26))).alloc (by simp; try omega) (.cells #[.int .i64 cx, .int .i64 cy, .int .i64 bx, .int .i64 b2] 32)).alloc (by simp; try omega) (.cells #[.int .i64 px, .int .i64 py] 24)).cell (p := ⟨w.heap.size, 7, none⟩) (by simp; try omega)).trans (by rw [World.cell?_alloc_at _ _ _ _ (by simp)]; rfl)
      have c0_1_0 : (((w.alloc (.cells #[.int .i64 s, .int .u8 k, .int .i64 x, .int .i64 y, .int .i64 v, .int .i64 b, .int .i64 wt, .int .i64 t] 26)).alloc (.cells #[.int .i64 cx, .int .i64 cy, .int .i64 bx, .int .i64 b2] 32)).alloc (.cells #[.int .i64 px, .int .i64 py] 24)).cell? ⟨w.heap.size + 1, 0, none⟩ = some (.int .i64 cx) := (((Below.refl (w.heap.size + 1 + 1) ((w.alloc (.cells #[.int .i64 s, .int .u8 k, .int .i64 x, .int .i64 y, .int .i64 v, .int .i64 b, .int .i64 wt, .int .i64 t] 26)).alloc (.cells #[.int .i64 cx, .int .i64 cy, .int .i64 bx, .int .i64 b2] 32))).alloc (by simp; try omega) (.cells #[.int .i64 px, .int .i64 py] 24)).cell (p := ⟨w.heap.size + 1, 0, none⟩) (by simp; try omega)).trans (by rw [World.cell?_alloc_at _ _ _ _ (by simp)]; rfl)
      have c0_1_1 : (((w.alloc (.cells #[.int .i64 s, .int .u8 k, .int .i64 x, .int .i64 y, .int .i64 v, .int .i64 b, .int .i64 wt, .int .i64 t] 26)).alloc (.cells #[.int .i64 cx, .int .i64 cy, .int .i64 bx, .int .i64 b2] 32)).alloc (.cells #[.int .i64 px, .int .i64 py] 24)).cell? ⟨w.heap.size + 1, 1, none⟩ = some (.int .i64 cy) := (((Below.refl (w.heap.size + 1 + 1) ((w.alloc (.cells #[.int .i64 s, .int .u8 k, .int .i64 x, .int .i64 y, .int .i64 v, .int .i64 b, .int .i64 wt, .int .i64 t] 26)).alloc (.cells #[.int .i64 cx, .int .i64 cy, .int .i64 bx, .int .i64 b2] 32))).alloc (by simp; try omega) (.cells #[.int .i64 px, .int .i64 py] 24)).cell (p := ⟨w.heap.size + 1, 1, none⟩) (by simp; try omega)).trans (by rw [World.cell?_alloc_at _ _ _ _ (by simp)]; rfl)
      have c0_1_2 : (((w.alloc (.cells #[.int .i64 s, .int .u8 k, .int .i64 x, .int .i64 y, .int .i64 v, .int .i64 b, .int .i64 wt, .int .i64 t] 26)).alloc (.cells #[.int .i64 cx, .int .i64 cy, .int .i64 bx, .int .i64 b2] 32)).alloc (.cells #[.int .i64 px, .int .i64 py] 24)).cell? ⟨w.heap.size + 1, 2, none⟩ = some (.int .i64 bx) := (((Below.refl (w.heap.size + 1 + 1) ((w.alloc (.cells #[.int .i64 s, .int .u8 k, .int .i64 x, .int .i64 y, .int .i64 v, .int .i64 b, .int .i64 wt, .int .i64 t] 26)).alloc (.cells #[.int .i64 cx, .int .i64 cy, .int .i64 bx, .int .i64 b2] 32))).alloc (by simp; try omega) (.cells #[.int .i64 px, .int .i64 py] 24)).cell (p := ⟨w.heap.size + 1, 2, none⟩) (by simp; try omega)).trans (by rw [World.cell?_alloc_at _ _ _ _ (by simp)]; rfl)
      have c0_1_3 : (((w.alloc (.cells #[.int .i64 s, .int .u8 k, .int .i64 x, .int .i64 y, .int .i64 v, .int .i64 b, .int .i64 wt, .int .i64 t] 26)).alloc (.cells #[.int .i64 cx, .int .i64 cy, .int .i64 bx, .int .i64 b2] 32)).alloc (.cells #[.int .i64 px, .int .i64 py] 24)).cell? ⟨w.heap.size + 1, 3, none⟩ = some (.int .i64 b2) := (((Below.refl (w.heap.size + 1 + 1) ((w.alloc (.cells #[.int .i64 s, .int .u8 k, .int .i64 x, .int .i64 y, .int .i64 v, .int .i64 b, .int .i64 wt, .int .i64 t] 26)).alloc (.cells #[.int .i64 cx, .int .i64 cy, .int .i64 bx, .int .i64 b2] 32))).alloc (by simp; try omega) (.cells #[.int .i64 px, .int .i64 py] 24)).cell (p := ⟨w.heap.size + 1, 3, none⟩) (by simp; try omega)).trans (by rw [World.cell?_alloc_at _ _ _ _ (by simp)]; rfl)
      have c0_2_0 : (((w.alloc (.cells #[.int .i64 s, .int .u8 k, .int .i64 x, .int .i64 y, .int .i64 v, .int .i64 b, .int .i64 wt, .int .i64 t] 26)).alloc (.cells #[.int .i64 cx, .int .i64 cy, .int .i64 bx, .int .i64 b2] 32)).alloc (.cells #[.int .i64 px, .int .i64 py] 24)).cell? ⟨w.heap.size + 1 + 1, 0, none⟩ = some (.int .i64 px) := by rw [World.cell?_alloc_at _ _ _ _ (by simp)]; rfl
      have c0_2_1 : (((w.alloc (.cells #[.int .i64 s, .int .u8 k, .int .i64 x, .int .i64 y, .int .i64 v, .int .i64 b, .int .i64 wt, .int .i64 t] 26)).alloc (.cells #[.int .i64 cx, .int .i64 cy, .int .i64 bx, .int .i64 b2] 32)).alloc (.cells #[.int .i64 px, .int .i64 py] 24)).cell? ⟨w.heap.size + 1 + 1, 1, none⟩ = some (.int .i64 py) := by rw [World.cell?_alloc_at _ _ _ _ (by simp)]; rfl
      have z0_0 : w.heap.size < (((w.alloc (.cells #[.int .i64 s, .int .u8 k, .int .i64 x, .int .i64 y, .int .i64 v, .int .i64 b, .int .i64 wt, .int .i64 t] 26)).alloc (.cells #[.int .i64 cx, .int .i64 cy, .int .i64 bx, .int .i64 b2] 32)).alloc (.cells #[.int .i64 px, .int .i64 py] 24)).heap.size := by simp; try omega
      have z0_1 : w.heap.size + 1 < (((w.alloc (.cells #[.int .i64 s, .int .u8 k, .int .i64 x, .int .i64 y, .int .i64 v, .int .i64 b, .int .i64 wt, .int .i64 t] 26)).alloc (.cells #[.int .i64 cx, .int .i64 cy, .int .i64 bx, .int .i64 b2] 32)).alloc (.cells #[.int .i64 px, .int .i64 py] 24)).heap.size := by simp; try omega
      have z0_2 : w.heap.size + 1 + 1 < (((w.alloc (.cells #[.int .i64 s, .int .u8 k, .int .i64 x, .int .i64 y, .int .i64 v, .int .i64 b, .int .i64 wt, .int .i64 t] 26)).alloc (.cells #[.int .i64 cx, .int .i64 cy, .int .i64 bx, .int .i64 b2] 32)).alloc (.cells #[.int .i64 px, .int .i64 py] 24)).heap.size := by simp; try omega
      have hw0 := Lib.hid ((((Below.refl w.heap.size w).alloc (by simp; try omega) (.cells #[.int .i64 s, .int .u8 k, .int .i64 x, .int .i64 y, .int .i64 v, .int .i64 b, .int .i64 wt, .int .i64 t] 26)).alloc (by simp; try omega) (.cells #[.int .i64 cx, .int .i64 cy, .int .i64 bx, .int .i64 b2] 32)).alloc (by simp; try omega) (.cells #[.int .i64 px, .int .i64 py] 24))
      generalize hW0 : (((w.alloc (.cells #[.int .i64 s, .int .u8 k, .int .i64 x, .int .i64 y, .int .i64 v, .int .i64 b, .int .i64 wt, .int .i64 t] 26)).alloc (.cells #[.int .i64 cx, .int .i64 cy, .int .i64 bx, .int .i64 b2] 32)).alloc (.cells #[.int .i64 px, .int .i64 py] 24)) = w0 at *
      clear hW0
      refine (awake_any _ (HE.out.below hw0.out)).mono ?_
      rintro e w1 ⟨rfl, hb1⟩
      have c1_0_0 := (hb1.cell (p := ⟨w.heap.size, 0, none⟩) z0_0).trans c0_0_0
      have c1_0_1 := (hb1.cell (p := ⟨w.heap.size, 1, none⟩) z0_0).trans c0_0_1
      have c1_0_2 := (hb1.cell (p := ⟨w.heap.size, 2, none⟩) z0_0).trans c0_0_2
      have c1_0_3 := (hb1.cell (p := ⟨w.heap.size, 3, none⟩) z0_0).trans c0_0_3
      have c1_0_4 := (hb1.cell (p := ⟨w.heap.size, 4, none⟩) z0_0).trans c0_0_4
      have c1_0_5 := (hb1.cell (p := ⟨w.heap.size, 5, none⟩) z0_0).trans c0_0_5
      have c1_0_6 := (hb1.cell (p := ⟨w.heap.size, 6, none⟩) z0_0).trans c0_0_6
      have c1_0_7 := (hb1.cell (p := ⟨w.heap.size, 7, none⟩) z0_0).trans c0_0_7
      have c1_1_0 := (hb1.cell (p := ⟨w.heap.size + 1, 0, none⟩) z0_1).trans c0_1_0
      have c1_1_1 := (hb1.cell (p := ⟨w.heap.size + 1, 1, none⟩) z0_1).trans c0_1_1
      have c1_1_2 := (hb1.cell (p := ⟨w.heap.size + 1, 2, none⟩) z0_1).trans c0_1_2
      have c1_1_3 := (hb1.cell (p := ⟨w.heap.size + 1, 3, none⟩) z0_1).trans c0_1_3
      have c1_2_0 := (hb1.cell (p := ⟨w.heap.size + 1 + 1, 0, none⟩) z0_2).trans c0_2_0
      have c1_2_1 := (hb1.cell (p := ⟨w.heap.size + 1 + 1, 1, none⟩) z0_2).trans c0_2_1
      have z1_0 : w.heap.size < w1.heap.size := Nat.lt_of_lt_of_le z0_0 hb1.size
      have z1_1 : w.heap.size + 1 < w1.heap.size := Nat.lt_of_lt_of_le z0_1 hb1.size
      have z1_2 : w.heap.size + 1 + 1 < w1.heap.size := Nat.lt_of_lt_of_le z0_2 hb1.size
      have hw1 := Lib.hid (hw0.out.trans (hb1.mono hw0.out.size))
      clear hb1 hw0 c0_0_0 c0_0_1 c0_0_2 c0_0_3 c0_0_4 c0_0_5 c0_0_6 c0_0_7 c0_1_0 c0_1_1 c0_1_2 c0_1_3 c0_2_0 c0_2_1 z0_0 z0_1 z0_2
      go_wp2_with fail
      refine (HR0.out _).mono ?_
      rintro e w2 ⟨u1, rfl, hr1, hb2⟩
      have c2_0_0 := (hb2.cell (p := ⟨w.heap.size, 0, none⟩) z1_0).trans c1_0_0
      have c2_0_1 := (hb2.cell (p := ⟨w.heap.size, 1, none⟩) z1_0).trans c1_0_1
      have c2_0_2 := (hb2.cell (p := ⟨w.heap.size, 2, none⟩) z1_0).trans c1_0_2
      have c2_0_3 := (hb2.cell (p := ⟨w.heap.size, 3, none⟩) z1_0).trans c1_0_3
      have c2_0_4 := (hb2.cell (p := ⟨w.heap.size, 4, none⟩) z1_0).trans c1_0_4
      have c2_0_5 := (hb2.cell (p := ⟨w.heap.size, 5, none⟩) z1_0).trans c1_0_5
      have c2_0_6 := (hb2.cell (p := ⟨w.heap.size, 6, none⟩) z1_0).trans c1_0_6
      have c2_0_7 := (hb2.cell (p := ⟨w.heap.size, 7, none⟩) z1_0).trans c1_0_7
      have c2_1_0 := (hb2.cell (p := ⟨w.heap.size + 1, 0, none⟩) z1_1).trans c1_1_0
      have c2_1_1 := (hb2.cell (p := ⟨w.heap.size + 1, 1, none⟩) z1_1).trans c1_1_1
      have c2_1_2 := (hb2.cell (p := ⟨w.heap.size + 1, 2, none⟩) z1_1).trans c1_1_2
      have c2_1_3 := (hb2.cell (p := ⟨w.heap.size + 1, 3, none⟩) z1_1).trans c1_1_3
      have c2_2_0 := (hb2.cell (p := ⟨w.heap.size + 1 + 1, 0, none⟩) z1_2).trans c1_2_0
      have c2_2_1 := (hb2.cell (p := ⟨w.heap.size + 1 + 1, 1, none⟩) z1_2).trans c1_2_1
      have z2_0 : w.heap.size < w2.heap.size := Nat.lt_of_lt_of_le z1_0 hb2.size
      have z2_1 : w.heap.size + 1 < w2.heap.size := Nat.lt_of_lt_of_le z1_1 hb2.size
      have z2_2 : w.heap.size + 1 + 1 < w2.heap.size := Nat.lt_of_lt_of_le z1_2 hb2.size
      have hw2 := Lib.hid (hw1.out.trans (hb2.mono hw1.out.size))
      clear hb2 hw1 c1_0_0 c1_0_1 c1_0_2 c1_0_3 c1_0_4 c1_0_5 c1_0_6 c1_0_7 c1_1_0 c1_1_1 c1_1_2 c1_1_3 c1_2_0 c1_2_1 z1_0 z1_1 z1_2
      have hu : ∃ k q : Nat, u1 = .slice (some ⟨k, 0, none⟩) q q := by
        rcases hsh with ⟨m, rfl⟩ | ⟨m, n, rfl⟩
        · obtain ⟨k1, h, -⟩ := rows_one hr1; exact ⟨k1, 1, h⟩
        · obtain ⟨k1, h, -⟩ := rows_two hr1; exact ⟨k1, 2, h⟩
      obtain ⟨k1, q1, rfl⟩ := hu
      clear hr1 hsh
      go_wp2_with fail
      refine (HG0.out _).mono ?_
      rintro e w3 ⟨rfl, hb3⟩
      have c3_0_0 := (hb3.cell (p := ⟨w.heap.size, 0, none⟩) z2_0).trans c2_0_0
      have c3_0_1 := (hb3.cell (p := ⟨w.heap.size, 1, none⟩) z2_0).trans c2_0_1
      have c3_0_2 := (hb3.cell (p := ⟨w.heap.size, 2, none⟩) z2_0).trans c2_0_2
      have c3_0_3 := (hb3.cell (p := ⟨w.heap.size, 3, none⟩) z2_0).trans c2_0_3
      have c3_0_4 := (hb3.cell (p := ⟨w.heap.size, 4, none⟩) z2_0).trans c2_0_4
      have c3_0_5 := (hb3.cell (p := ⟨w.heap.size, 5, none⟩) z2_0).trans c2_0_5
      have c3_0_6 := (hb3.cell (p := ⟨w.heap.size, 6, none⟩) z2_0).trans c2_0_6
      have c3_0_7 := (hb3.cell (p := ⟨w.heap.size, 7, none⟩) z2_0).trans c2_0_7
      have c3_1_0 := (hb3.cell (p := ⟨w.heap.size + 1, 0, none⟩) z2_1).trans c2_1_0
      have c3_1_1 := (hb3.cell (p := ⟨w.heap.size + 1, 1, none⟩) z2_1).trans c2_1_1
      have c3_1_2 := (hb3.cell (p := ⟨w.heap.size + 1, 2, none⟩) z2_1).trans c2_1_2
      have c3_1_3 := (hb3.cell (p := ⟨w.heap.size + 1, 3, none⟩) z2_1).trans c2_1_3
      have c3_2_0 := (hb3.cell (p := ⟨w.heap.size + 1 + 1, 0, none⟩) z2_2).trans c2_2_0
      have c3_2_1 := (hb3.cell (p := ⟨w.heap.size + 1 + 1, 1, none⟩) z2_2).trans c2_2_1
      have z3_0 : w.heap.size < w3.heap.size := Nat.lt_of_lt_of_le z2_0 hb3.size
      have z3_1 : w.heap.size + 1 < w3.heap.size := Nat.lt_of_lt_of_le z2_1 hb3.size
      have z3_2 : w.heap.size + 1 + 1 < w3.heap.size := Nat.lt_of_lt_of_le z2_2 hb3.size
      have hw3 := Lib.hid (hw2.out.trans (hb3.mono hw2.out.size))
      clear hb3 hw2 c2_0_0 c2_0_1 c2_0_2 c2_0_3 c2_0_4 c2_0_5 c2_0_6 c2_0_7 c2_1_0 c2_1_1 c2_1_2 c2_1_3 c2_2_0 c2_2_1 z2_0 z2_1 z2_2
      go_wp2
      go_ret
      exact ⟨rfl, hw3.out⟩
    | true =>
      cases gi with
      | false =>
        clear hce
        go_enter Tryd.func6, Tryd.ntmps6
        go_wp2_with fail
        have c0_0_0 : (((w.alloc (.cells #[.int .i64 s, .int .u8 k, .int .i64 x, .int .i64 y, .int .i64 v, .int .i64 b, .int .i64 wt, .int .i64 t] 26)).alloc (.cells #[.int .i64 cx, .int .i64 cy, .int .i64 bx, .int .i64 b2] 32)).alloc (.cells #[.int .i64 px, .int .i64 py] 24)).cell? ⟨w.heap.size, 0, none⟩ = some (.int .i64 s) := ((((Below.refl (w.heap.size + 1) (w.alloc (.cells #[.int .i64 s, .int .u8 k, .int .i64 x, .int .i64 y, .int .i64 v, .int .i64 b, .int .i64 wt, .int .i64 t] 26))).alloc (by simp; try omega) (.cells #[.int .i64 cx, .int .i64 cy, .int .i64 bx, .int .i64 b2] 32)).alloc (by simp; try omega) (.cells #[.int .i64 px, .int .i64 py] 24)).cell (p := ⟨w.heap.size, 0, none⟩) (by simp; try omega)).trans (by rw [World.cell?_alloc_at _ _ _ _ (by simp)]; rfl)
        have c0_0_1 : (((w.alloc (.cells #[.int .i64 s, .int .u8 k, .int .i64 x, .int .i64 y, .int .i64 v, .int .i64 b, .int .i64 wt, .int .i64 t] 26)).alloc (.cells #[.int .i64 cx, .int .i64 cy, .int .i64 bx, .int .i64 b2] 32)).alloc (.cells #[.int .i64 px, .int .i64 py] 24)).cell? ⟨w.heap.size, 1, none⟩ = some (.int .u8 k) := ((((Below.refl (w.heap.size + 1) (w.alloc (.cells #[.int .i64 s, .int .u8 k, .int .i64 x, .int .i64 y, .int .i64 v, .int .i64 b, .int .i64 wt, .int .i64 t] 26))).alloc (by simp; try omega) (.cells #[.int .i64 cx, .int .i64 cy, .int .i64 bx, .int .i64 b2] 32)).alloc (by simp; try omega) (.cells #[.int .i64 px, .int .i64 py] 24)).cell (p := ⟨w.heap.size, 1, none⟩) (by simp; try omega)).trans (by rw [World.cell?_alloc_at _ _ _ _ (by simp)]; rfl)
        have c0_0_2 : (((w.alloc (.cells #[.int .i64 s, .int .u8 k, .int .i64 x, .int .i64 y, .int .i64 v, .int .i64 b, .int .i64 wt, .int .i64 t] 26)).alloc (.cells #[.int .i64 cx, .int .i64 cy, .int .i64 bx, .int .i64 b2] 32)).alloc (.cells #[.int .i64 px, .int .i64 py] 24)).cell? ⟨w.heap.size, 2, none⟩ = some (.int .i64 x) := ((((Below.refl (w.heap.size + 1) (w.alloc (.cells #[.int .i64 s, .int .u8 k, .int .i64 x, .int .i64 y, .int .i64 v, .int .i64 b, .int .i64 wt, .int .i64 t] 26))).alloc (by simp; try omega) (.cells #[.int .i64 cx, .int .i64 cy, .int .i64 bx, .int .i64 b2] 32)).alloc (by simp; try omega) (.cells #[.int .i64 px, .int .i64 py] 24)).cell (p := ⟨w.heap.size, 2, none⟩) (by simp; try omega)).trans (by rw [World.cell?_alloc_at _ _ _ _ (by simp)]; rfl)
        have c0_0_3 : (((w.alloc (.cells #[.int .i64 s, .int .u8 k, .int .i64 x, .int .i64 y, .int .i64 v, .int .i64 b, .int .i64 wt, .int .i64 t] 26)).alloc (.cells #[.int .i64 cx, .int .i64 cy, .int .i64 bx, .int .i64 b2] 32)).alloc (.cells #[.int .i64 px, .int .i64 py] 24)).cell? ⟨w.heap.size, 3, none⟩ = some (.int .i64 y) := ((((Below.refl (w.heap.size + 1) (w.alloc (.cells #[.int .i64 s, .int .u8 k, .int .i64 x, .int .i64 y, .int .i64 v, .int .i64 b, .int .i64 wt, .int .i64 t] 26))).alloc (by simp; try omega) (.cells #[.int .i64 cx, .int .i64 cy, .int .i64 bx, .int .i64 b2] 32)).alloc (by simp; try omega) (.cells #[.int .i64 px, .int .i64 py] 24)).cell (p := ⟨w.heap.size, 3, none⟩) (by simp; try omega)).trans (by rw [World.cell?_alloc_at _ _ _ _ (by simp)]; rfl)
        have c0_0_4 : (((w.alloc (.cells #[.int .i64 s, .int .u8 k, .int .i64 x, .int .i64 y, .int .i64 v, .int .i64 b, .int .i64 wt, .int .i64 t] 26)).alloc (.cells #[.int .i64 cx, .int .i64 cy, .int .i64 bx, .int .i64 b2] 32)).alloc (.cells #[.int .i64 px, .int .i64 py] 24)).cell? ⟨w.heap.size, 4, none⟩ = some (.int .i64 v) := ((((Below.refl (w.heap.size + 1) (w.alloc (.cells #[.int .i64 s, .int .u8 k, .int .i64 x, .int .i64 y, .int .i64 v, .int .i64 b, .int .i64 wt, .int .i64 t] 26))).alloc (by simp; try omega) (.cells #[.int .i64 cx, .int .i64 cy, .int .i64 bx, .int .i64 b2] 32)).alloc (by simp; try omega) (.cells #[.int .i64 px, .int .i64 py] 24)).cell (p := ⟨w.heap.size, 4, none⟩) (by simp; try omega)).trans (by rw [World.cell?_alloc_at _ _ _ _ (by simp)]; rfl)
        have c0_0_5 : (((w.alloc (.cells #[.int .i64 s, .int .u8 k, .int .i64 x, .int .i64 y, .int .i64 v, .int .i64 b, .int .i64 wt, .int .i64 t] 26)).alloc (.cells #[.int .i64 cx, .int .i64 cy, .int .i64 bx, .int .i64 b2] 32)).alloc (.cells #[.int .i64 px, .int .i64 py] 24)).cell? ⟨w.heap.size, 5, none⟩ = some (.int .i64 b) := ((((Below.refl (w.heap.size + 1) (w.alloc (.cells #[.int .i64 s, .int .u8 k, .int .i64 x, .int .i64 y, .int .i64 v, .int .i64 b, .int .i64 wt, .int .i64 t] 26))).alloc (by simp; try omega) (.cells #[.int .i64 cx, .int .i64 cy, .int .i64 bx, .int .i64 b2] 32)).alloc (by simp; try omega) (.cells #[.int .i64 px, .int .i64 py] 24)).cell (p := ⟨w.heap.size, 5, none⟩) (by simp; try omega)).trans (by rw [World.cell?_alloc_at _ _ _ _ (by simp)]; rfl)
        have c0_0_6 : (((w.alloc (.cells #[.int .i64 s, .int .u8 k, .int .i64 x, .int .i64 y, .int .i64 v, .int .i64 b, .int .i64 wt, .int .i64 t] 26)).alloc (.cells #[.int .i64 cx, .int .i64 cy, .int .i64 bx, .int .i64 b2] 32)).alloc (.cells #[.int .i64 px, .int .i64 py] 24)).cell? ⟨w.heap.size, 6, none⟩ = some (.int .i64 wt) := ((((Below.refl (w.heap.size + 1) (w.alloc (.cells #[.int .i64 s, .int .u8 k, .int .i64 x, .int .i64 y, .int .i64 v, .int .i64 b, .int .i64 wt, .int .i64 t] 26))).alloc (by simp; try omega) (.cells #[.int .i64 cx, .int .i64 cy, .int .i64 bx, .int .i64 b2] 32)).alloc (by simp; try omega) (.cells #[.int .i64 px, .int .i64 py] 24)).cell (p := ⟨w.heap.size, 6, none⟩) (by simp; try omega)).trans (by rw [World.cell?_alloc_at _ _ _ _ (by simp)]; rfl)
        have c0_0_7 : (((w.alloc (.cells #[.int .i64 s, .int .u8 k, .int .i64 x, .int .i64 y, .int .i64 v, .int .i64 b, .int .i64 wt, .int .i64 t] 26)).alloc (.cells #[.int .i64 cx, .int .i64 cy, .int .i64 bx, .int .i64 b2] 32)).alloc (.cells #[.int .i64 px, .int .i64 py] 24)).cell? ⟨w.heap.size, 7, none⟩ = some (.int .i64 t) := ((((Below.refl (w.heap.size + 1) (w.alloc (.cells #[.int .i64 s, .int .u8 k, .int .i64 x, .int .i64 y, .int .i64 v, .int .i64 b, .int .i64 wt, .int .i64 t] 26))).alloc (by simp; try omega) (.cells #[.int .i64 cx, .int .i64 cy, .int .i64 bx, .int .i64 b2] 32)).alloc (by simp; try omega) (.cells #[.int .i64 px, .int .i64 py] 24)).cell (p := ⟨w.heap.size, 7, none⟩) (by simp; try omega)).trans (by rw [World.cell?_alloc_at _ _ _ _ (by simp)]; rfl)
        have c0_1_0 : (((w.alloc (.cells #[.int .i64 s, .int .u8 k, .int .i64 x, .int .i64 y, .int .i64 v, .int .i64 b, .int .i64 wt, .int .i64 t] 26)).alloc (.cells #[.int .i64 cx, .int .i64 cy, .int .i64 bx, .int .i64 b2] 32)).alloc (.cells #[.int .i64 px, .int .i64 py] 24)).cell? ⟨w.heap.size + 1, 0, none⟩ = some (.int .i64 cx) := (((Below.refl (w.heap.size + 1 + 1) ((w.alloc (.cells #[.int .i64 s, .int .u8 k, .int .i64 x, .int .i64 y, .int .i64 v, .int .i64 b, .int .i64 wt, .int .i64 t] 26)).alloc (.cells #[.int .i64 cx, .int .i64 cy, .int .i64 bx, .int .i64 b2] 32))).alloc (by simp; try omega) (.cells #[.int .i64 px, .int .i64 py] 24)).cell (p := ⟨w.heap.size + 1, 0, none⟩) (by simp; try omega)).trans (by rw [World.cell?_alloc_at _ _ _ _ (by simp)]; rfl)
        have c0_1_1 : (((w.alloc (.cells #[.int .i64 s, .int .u8 k, .int .i64 x, .int .i64 y, .int .i64 v, .int .i64 b, .int .i64 wt, .int .i64 t] 26)).alloc (.cells #[.int .i64 cx, .int .i64 cy, .int .i64 bx, .int .i64 b2] 32)).alloc (.cells #[.int .i64 px, .int .i64 py] 24)).cell? ⟨w.heap.size + 1, 1, none⟩ = some (.int .i64 cy) := (((Below.refl (w.heap.size + 1 + 1) ((w.alloc (.cells #[.int .i64 s, .int .u8 k, .int .i64 x, .int .i64 y, .int .i64 v, .int .i64 b, .int .i64 wt, .int .i64 t] 26)).alloc (.cells #[.int .i64 cx, .int .i64 cy, .int .i64 bx, .int .i64 b2] 32))).alloc (by simp; try omega) (.cells #[.int .i64 px, .int .i64 py] 24)).cell (p := ⟨w.heap.size + 1, 1, none⟩) (by simp; try omega)).trans (by rw [World.cell?_alloc_at _ _ _ _ (by simp)]; rfl)
        have c0_1_2 : (((w.alloc (.cells #[.int .i64 s, .int .u8 k, .int .i64 x, .int .i64 y, .int .i64 v, .int .i64 b, .int .i64 wt, .int .i64 t] 26)).alloc (.cells #[.int .i64 cx, .int .i64 cy, .int .i64 bx, .int .i64 b2] 32)).alloc (.cells #[.int .i64 px, .int .i64 py] 24)).cell? ⟨w.heap.size + 1, 2, none⟩ = some (.int .i64 bx) := (((Below.refl (w.heap.size + 1 + 1) ((w.alloc (.cells #[.int .i64 s, .int .u8 k, .int .i64 x, .int .i64 y, .int .i64 v, .int .i64 b, .int .i64 wt, .int .i64 t] 26)).alloc (.cells #[.int .i64 cx, .int .i64 cy, .int .i64 bx, .int .i64 b2] 32))).alloc (by simp; try omega) (.cells #[.int .i64 px, .int .i64 py] 24)).cell (p := ⟨w.heap.size + 1, 2, none⟩) (by simp; try omega)).trans (by rw [World.cell?_alloc_at _ _ _ _ (by simp)]; rfl)
        have c0_1_3 : (((w.alloc (.cells #[.int .i64 s, .int .u8 k, .int .i64 x, .int .i64 y, .int .i64 v, .int .i64 b, .int .i64 wt, .int .i64 t] 26)).alloc (.cells #[.int .i64 cx, .int .i64 cy, .int .i64 bx, .int .i64 b2] 32)).alloc (.cells #[.int .i64 px, .int .i64 py] 24)).cell? ⟨w.heap.size + 1, 3, none⟩ = some (.int .i64 b2) := (((Below.refl (w.heap.size + 1 + 1) ((w.alloc (.cells #[.int .i64 s, .int .u8 k, .int .i64 x, .int .i64 y, .int .i64 v, .int .i64 b, .int .i64 wt, .int .i64 t] 26)).alloc (.cells #[.int .i64 cx, .int .i64 cy, .int .i64 bx, .int .i64 b2] 32))).alloc (by simp; try omega) (.cells #[.int .i64 px, .int .i64 py] 24)).cell (p := ⟨w.heap.size + 1, 3, none⟩) (by simp; try omega)).trans (by rw [World.cell?_alloc_at _ _ _ _ (by simp)]; rfl)
        have c0_2_0 : (((w.alloc (.cells #[.int .i64 s, .int .u8 k, .int .i64 x, .int .i64 y, .int .i64 v, .int .i64 b, .int .i64 wt, .int .i64 t] 26)).alloc (.cells #[.int .i64 cx, .int .i64 cy, .int .i64 bx, .int .i64 b2] 32)).alloc (.cells #[.int .i64 px, .int .i64 py] 24)).cell? ⟨w.heap.size + 1 + 1, 0, none⟩ = some (.int .i64 px) := by rw [World.cell?_alloc_at _ _ _ _ (by simp)]; rfl
        have c0_2_1 : (((w.alloc (.cells #[.int .i64 s, .int .u8 k, .int .i64 x, .int .i64 y, .int .i64 v, .int .i64 b, .int .i64 wt, .int .i64 t] 26)).alloc (.cells #[.int .i64 cx, .int .i64 cy, .int .i64 bx, .int .i64 b2] 32)).alloc (.cells #[.int .i64 px, .int .i64 py] 24)).cell? ⟨w.heap.size + 1 + 1, 1, none⟩ = some (.int .i64 py) := by rw [World.cell?_alloc_at _ _ _ _ (by simp)]; rfl
        have z0_0 : w.heap.size < (((w.alloc (.cells #[.int .i64 s, .int .u8 k, .int .i64 x, .int .i64 y, .int .i64 v, .int .i64 b, .int .i64 wt, .int .i64 t] 26)).alloc (.cells #[.int .i64 cx, .int .i64 cy, .int .i64 bx, .int .i64 b2] 32)).alloc (.cells #[.int .i64 px, .int .i64 py] 24)).heap.size := by simp; try omega
        have z0_1 : w.heap.size + 1 < (((w.alloc (.cells #[.int .i64 s, .int .u8 k, .int .i64 x, .int .i64 y, .int .i64 v, .int .i64 b, .int .i64 wt, .int .i64 t] 26)).alloc (.cells #[.int .i64 cx, .int .i64 cy, .int .i64 bx, .int .i64 b2] 32)).alloc (.cells #[.int .i64 px, .int .i64 py] 24)).heap.size := by simp; try omega
        have z0_2 : w.heap.size + 1 + 1 < (((w.alloc (.cells #[.int .i64 s, .int .u8 k, .int .i64 x, .int .i64 y, .int .i64 v, .int .i64 b, .int .i64 wt, .int .i64 t] 26)).alloc (.cells #[.int .i64 cx, .int .i64 cy, .int .i64 bx, .int .i64 b2] 32)).alloc (.cells #[.int .i64 px, .int .i64 py] 24)).heap.size := by simp; try omega
        have hw0 := Lib.hid ((((Below.refl w.heap.size w).alloc (by simp; try omega) (.cells #[.int .i64 s, .int .u8 k, .int .i64 x, .int .i64 y, .int .i64 v, .int .i64 b, .int .i64 wt, .int .i64 t] 26)).alloc (by simp; try omega) (.cells #[.int .i64 cx, .int .i64 cy, .int .i64 bx, .int .i64 b2] 32)).alloc (by simp; try omega) (.cells #[.int .i64 px, .int .i64 py] 24))
        generalize hW0 : (((w.alloc (.cells #[.int .i64 s, .int .u8 k, .int .i64 x, .int .i64 y, .int .i64 v, .int .i64 b, .int .i64 wt, .int .i64 t] 26)).alloc (.cells #[.int .i64 cx, .int .i64 cy, .int .i64 bx, .int .i64 b2] 32)).alloc (.cells #[.int .i64 px, .int .i64 py] 24)) = w0 at *
        clear hW0
        refine (awake_any _ (HE.out.below hw0.out)).mono ?_
        rintro e w1 ⟨rfl, hb1⟩
        have c1_0_0 := (hb1.cell (p := ⟨w.heap.size, 0, none⟩) z0_0).trans c0_0_0
        have c1_0_1 := (hb1.cell (p := ⟨w.heap.size, 1, none⟩) z0_0).trans c0_0_1
        have c1_0_2 := (hb1.cell (p := ⟨w.heap.size, 2, none⟩) z0_0).trans c0_0_2
        have c1_0_3 := (hb1.cell (p := ⟨w.heap.size, 3, none⟩) z0_0).trans c0_0_3
        have c1_0_4 := (hb1.cell (p := ⟨w.heap.size, 4, none⟩) z0_0).trans c0_0_4
        have c1_0_5 := (hb1.cell (p := ⟨w.heap.size, 5, none⟩) z0_0).trans c0_0_5
        have c1_0_6 := (hb1.cell (p := ⟨w.heap.size, 6, none⟩) z0_0).trans c0_0_6
        have c1_0_7 := (hb1.cell (p := ⟨w.heap.size, 7, none⟩) z0_0).trans c0_0_7
        have c1_1_0 := (hb1.cell (p := ⟨w.heap.size + 1, 0, none⟩) z0_1).trans c0_1_0
        have c1_1_1 := (hb1.cell (p := ⟨w.heap.size + 1, 1, none⟩) z0_1).trans c0_1_1
        have c1_1_2 := (hb1.cell (p := ⟨w.heap.size + 1, 2, none⟩) z0_1).trans c0_1_2
        have c1_1_3 := (hb1.cell (p := ⟨w.heap.size + 1, 3, none⟩) z0_1).trans c0_1_3
        have c1_2_0 := (hb1.cell (p := ⟨w.heap.size + 1 + 1, 0, none⟩) z0_2).trans c0_2_0
        have c1_2_1 := (hb1.cell (p := ⟨w.heap.size + 1 + 1, 1, none⟩) z0_2).trans c0_2_1
        have z1_0 : w.heap.size < w1.heap.size := Nat.lt_of_lt_of_le z0_0 hb1.size
        have z1_1 : w.heap.size + 1 < w1.heap.size := Nat.lt_of_lt_of_le z0_1 hb1.size
        have z1_2 : w.heap.size + 1 + 1 < w1.heap.size := Nat.lt_of_lt_of_le z0_2 hb1.size
        have hw1 := Lib.hid (hw0.out.trans (hb1.mono hw0.out.size))
        clear hb1 hw0 c0_0_0 c0_0_1 c0_0_2 c0_0_3 c0_0_4 c0_0_5 c0_0_6 c0_0_7 c0_1_0 c0_1_1 c0_1_2 c0_1_3 c0_2_0 c0_2_1 z0_0 z0_1 z0_2
        go_wp2_with fail
        refine (HR0.out _).mono ?_
        rintro e w2 ⟨u1, rfl, hr1, hb2⟩
        have c2_0_0 := (hb2.cell (p := ⟨w.heap.size, 0, none⟩) z1_0).trans c1_0_0
        have c2_0_1 := (hb2.cell (p := ⟨w.heap.size, 1, none⟩) z1_0).trans c1_0_1
        have c2_0_2 := (hb2.cell (p := ⟨w.heap.size, 2, none⟩) z1_0).trans c1_0_2
        have c2_0_3 := (hb2.cell (p := ⟨w.heap.size, 3, none⟩) z1_0).trans c1_0_3
        have c2_0_4 := (hb2.cell (p := ⟨w.heap.size, 4, none⟩) z1_0).trans c1_0_4
        have c2_0_5 := (hb2.cell (p := ⟨w.heap.size, 5, none⟩) z1_0).trans c1_0_5
        have c2_0_6 := (hb2.cell (p := ⟨w.heap.size, 6, none⟩) z1_0).trans c1_0_6
        have c2_0_7 := (hb2.cell (p := ⟨w.heap.size, 7, none⟩) z1_0).trans c1_0_7
        have c2_1_0 := (hb2.cell (p := ⟨w.heap.size + 1, 0, none⟩) z1_1).trans c1_1_0
        have c2_1_1 := (hb2.cell (p := ⟨w.heap.size + 1, 1, none⟩) z1_1).trans c1_1_1
        have c2_1_2 := (hb2.cell (p := ⟨w.heap.size + 1, 2, none⟩) z1_1).trans c1_1_2
        have c2_1_3 := (hb2.cell (p := ⟨w.heap.size + 1, 3, none⟩) z1_1).trans c1_1_3
        have c2_2_0 := (hb2.cell (p := ⟨w.heap.size + 1 + 1, 0, none⟩) z1_2).trans c1_2_0
        have c2_2_1 := (hb2.cell (p := ⟨w.heap.size + 1 + 1, 1, none⟩) z1_2).trans c1_2_1
        have z2_0 : w.heap.size < w2.heap.size := Nat.lt_of_lt_of_le z1_0 hb2.size
        have z2_1 : w.heap.size + 1 < w2.heap.size := Nat.lt_of_lt_of_le z1_1 hb2.size
        have z2_2 : w.heap.size + 1 + 1 < w2.heap.size := Nat.lt_of_lt_of_le z1_2 hb2.size
        have hw2 := Lib.hid (hw1.out.trans (hb2.mono hw1.out.size))
        clear hb2 hw1 c1_0_0 c1_0_1 c1_0_2 c1_0_3 c1_0_4 c1_0_5 c1_0_6 c1_0_7 c1_1_0 c1_1_1 c1_1_2 c1_1_3 c1_2_0 c1_2_1 z1_0 z1_1 z1_2
        have hu : ∃ k q : Nat, u1 = .slice (some ⟨k, 0, none⟩) q q := by
          rcases hsh with ⟨m, rfl⟩ | ⟨m, n, rfl⟩
          · obtain ⟨k1, h, -⟩ := rows_one hr1; exact ⟨k1, 1, h⟩
          · obtain ⟨k1, h, -⟩ := rows_two hr1; exact ⟨k1, 2, h⟩
        obtain ⟨k1, q1, rfl⟩ := hu
        clear hr1 hsh
        go_wp2_with fail
        refine (HG0.out _).mono ?_
        rintro e w3 ⟨rfl, hb3⟩
        have c3_0_0 := (hb3.cell (p := ⟨w.heap.size, 0, none⟩) z2_0).trans c2_0_0
        have c3_0_1 := (hb3.cell (p := ⟨w.heap.size, 1, none⟩) z2_0).trans c2_0_1
        have c3_0_2 := (hb3.cell (p := ⟨w.heap.size, 2, none⟩) z2_0).trans c2_0_2
        have c3_0_3 := (hb3.cell (p := ⟨w.heap.size, 3, none⟩) z2_0).trans c2_0_3
        have c3_0_4 := (hb3.cell (p := ⟨w.heap.size, 4, none⟩) z2_0).trans c2_0_4
        have c3_0_5 := (hb3.cell (p := ⟨w.heap.size, 5, none⟩) z2_0).trans c2_0_5
        have c3_0_6 := (hb3.cell (p := ⟨w.heap.size, 6, none⟩) z2_0).trans c2_0_6
        have c3_0_7 := (hb3.cell (p := ⟨w.heap.size, 7, none⟩) z2_0).trans c2_0_7
        have c3_1_0 := (hb3.cell (p := ⟨w.heap.size + 1, 0, none⟩) z2_1).trans c2_1_0
        have c3_1_1 := (hb3.cell (p := ⟨w.heap.size + 1, 1, none⟩) z2_1).trans c2_1_1
        have c3_1_2 := (hb3.cell (p := ⟨w.heap.size + 1, 2, none⟩) z2_1).trans c2_1_2
        have c3_1_3 := (hb3.cell (p := ⟨w.heap.size + 1, 3, none⟩) z2_1).trans c2_1_3
        have c3_2_0 := (hb3.cell (p := ⟨w.heap.size + 1 + 1, 0, none⟩) z2_2).trans c2_2_0
        have c3_2_1 := (hb3.cell (p := ⟨w.heap.size + 1 + 1, 1, none⟩) z2_2).trans c2_2_1
        have z3_0 : w.heap.size < w3.heap.size := Nat.lt_of_lt_of_le z2_0 hb3.size
        have z3_1 : w.heap.size + 1 < w3.heap.size := Nat.lt_of_lt_of_le z2_1 hb3.size
        have z3_2 : w.heap.size + 1 + 1 < w3.heap.size := Nat.lt_of_lt_of_le z2_2 hb3.size
        have hw3 := Lib.hid (hw2.out.trans (hb3.mono hw2.out.size))
        clear hb3 hw2 c2_0_0 c2_0_1 c2_0_2 c2_0_3 c2_0_4 c2_0_5 c2_0_6 c2_0_7 c2_1_0 c2_1_1 c2_1_2 c2_1_3 c2_2_0 c2_2_1 z2_0 z2_1 z2_2
        go_wp2_with fail
        refine (HI0.out _).mono ?_
        rintro e w4 ⟨rfl, hb4⟩
        have c4_0_0 := (hb4.cell (p := ⟨w.heap.size, 0, none⟩) z3_0).trans c3_0_0
        have c4_0_1 := (hb4.cell (p := ⟨w.heap.size, 1, none⟩) z3_0).trans c3_0_1
        have c4_0_2 := (hb4.cell (p := ⟨w.heap.size, 2, none⟩) z3_0).trans c3_0_2
        have c4_0_3 := (hb4.cell (p := ⟨w.heap.size, 3, none⟩) z3_0).trans c3_0_3
        have c4_0_4 := (hb4.cell (p := ⟨w.heap.size, 4, none⟩) z3_0).trans c3_0_4
        have c4_0_5 := (hb4.cell (p := ⟨w.heap.size, 5, none⟩) z3_0).trans c3_0_5
        have c4_0_6 := (hb4.cell (p := ⟨w.heap.size, 6, none⟩) z3_0).trans c3_0_6
        have c4_0_7 := (hb4.cell (p := ⟨w.heap.size, 7, none⟩) z3_0).trans c3_0_7
        have c4_1_0 := (hb4.cell (p := ⟨w.heap.size + 1, 0, none⟩) z3_1).trans c3_1_0
        have c4_1_1 := (hb4.cell (p := ⟨w.heap.size + 1, 1, none⟩) z3_1).trans c3_1_1
        have c4_1_2 := (hb4.cell (p := ⟨w.heap.size + 1, 2, none⟩) z3_1).trans c3_1_2
        have c4_1_3 := (hb4.cell (p := ⟨w.heap.size + 1, 3, none⟩) z3_1).trans c3_1_3
        have c4_2_0 := (hb4.cell (p := ⟨w.heap.size + 1 + 1, 0, none⟩) z3_2).trans c3_2_0
        have c4_2_1 := (hb4.cell (p := ⟨w.heap.size + 1 + 1, 1, none⟩) z3_2).trans c3_2_1
        have z4_0 : w.heap.size < w4.heap.size := Nat.lt_of_lt_of_le z3_0 hb4.size
        have z4_1 : w.heap.size + 1 < w4.heap.size := Nat.lt_of_lt_of_le z3_1 hb4.size
        have z4_2 : w.heap.size + 1 + 1 < w4.heap.size := Nat.lt_of_lt_of_le z3_2 hb4.size
        have hw4 := Lib.hid (hw3.out.trans (hb4.mono hw3.out.size))
        clear hb4 hw3 c3_0_0 c3_0_1 c3_0_2 c3_0_3 c3_0_4 c3_0_5 c3_0_6 c3_0_7 c3_1_0 c3_1_1 c3_1_2 c3_1_3 c3_2_0 c3_2_1 z3_0 z3_1 z3_2
        go_wp2
        go_ret
        exact ⟨rfl, hw4.out⟩
      | true =>
        have hce := hce rfl rfl rfl
        clear hsh
        rcases hce with ⟨m, rfl, hm⟩ | ⟨m, n, rfl, hm, hn⟩
        · obtain ⟨ms, a, b', z, d, mw⟩ := m
          obtain ⟨⟨e0, e1⟩, hq0, hq1, ⟨a0, a1⟩, ⟨b0, b1⟩, z0, z1⟩ := hm
          simp only at e0 e1 a0 a1 b0 b1 z0 z1 hq0 hq1
          have hq2 := hq0.symm
          have hq3 := hq1.symm
          clear hq0 hq1
          subst hq2 hq3
          go_enter Tryd.func6, Tryd.ntmps6
          go_wp2_with fail
          have c0_0_0 : (((w.alloc (.cells #[.int .i64 s, .int .u8 k, .int .i64 x, .int .i64 y, .int .i64 v, .int .i64 b, .int .i64 wt, .int .i64 t] 26)).alloc (.cells #[.int .i64 cx, .int .i64 cy, .int .i64 bx, .int .i64 b2] 32)).alloc (.cells #[.int .i64 px, .int .i64 py] 24)).cell? ⟨w.heap.size, 0, none⟩ = some (.int .i64 s) := ((((Below.refl (w.heap.size + 1) (w.alloc (.cells #[.int .i64 s, .int .u8 k, .int .i64 x, .int .i64 y, .int .i64 v, .int .i64 b, .int .i64 wt, .int .i64 t] 26))).alloc (by simp; try omega) (.cells #[.int .i64 cx, .int .i64 cy, .int .i64 bx, .int .i64 b2] 32)).alloc (by simp; try omega) (.cells #[.int .i64 px, .int .i64 py] 24)).cell (p := ⟨w.heap.size, 0, none⟩) (by simp; try omega)).trans (by rw [World.cell?_alloc_at _ _ _ _ (by simp)]; rfl)
          have c0_0_1 : (((w.alloc (.cells #[.int .i64 s, .int .u8 k, .int .i64 x, .int .i64 y, .int .i64 v, .int .i64 b, .int .i64 wt, .int .i64 t] 26)).alloc (.cells #[.int .i64 cx, .int .i64 cy, .int .i64 bx, .int .i64 b2] 32)).alloc (.cells #[.int .i64 px, .int .i64 py] 24)).cell? ⟨w.heap.size, 1, none⟩ = some (.int .u8 k) := ((((Below.refl (w.heap.size + 1) (w.alloc (.cells #[.int .i64 s, .int .u8 k, .int .i64 x, .int .i64 y, .int .i64 v, .int .i64 b, .int .i64 wt, .int .i64 t] 26))).alloc (by simp; try omega) (.cells #[.int .i64 cx, .int .i64 cy, .int .i64 bx, .int .i64 b2] 32)).alloc (by simp; try omega) (.cells #[.int .i64 px, .int .i64 py] 24)).cell (p := ⟨w.heap.size, 1, none⟩) (by simp; try omega)).trans (by rw [World.cell?_alloc_at _ _ _ _ (by simp)]; rfl)
          have c0_0_2 : (((w.alloc (.cells #[.int .i64 s, .int .u8 k, .int .i64 x, .int .i64 y, .int .i64 v, .int .i64 b, .int .i64 wt, .int .i64 t] 26)).alloc (.cells #[.int .i64 cx, .int .i64 cy, .int .i64 bx, .int .i64 b2] 32)).alloc (.cells #[.int .i64 px, .int .i64 py] 24)).cell? ⟨w.heap.size, 2, none⟩ = some (.int .i64 x) := ((((Below.refl (w.heap.size + 1) (w.alloc (.cells #[.int .i64 s, .int .u8 k, .int .i64 x, .int .i64 y, .int .i64 v, .int .i64 b, .int .i64 wt, .int .i64 t] 26))).alloc (by simp; try omega) (.cells #[.int .i64 cx, .int .i64 cy, .int .i64 bx, .int .i64 b2] 32)).alloc (by simp; try omega) (.cells #[.int .i64 px, .int .i64 py] 24)).cell (p := ⟨w.heap.size, 2, none⟩) (by simp; try omega)).trans (by rw [World.cell?_alloc_at _ _ _ _ (by simp)]; rfl)
          have c0_0_3 : (((w.alloc (.cells #[.int .i64 s, .int .u8 k, .int .i64 x, .int .i64 y, .int .i64 v, .int .i64 b, .int .i64 wt, .int .i64 t] 26)).alloc (.cells #[.int .i64 cx, .int .i64 cy, .int .i64 bx, .int .i64 b2] 32)).alloc (.cells #[.int .i64 px, .int .i64 py] 24)).cell? ⟨w.heap.size, 3, none⟩ = some (.int .i64 y) := ((((Below.refl (w.heap.size + 1) (w.alloc (.cells #[.int .i64 s, .int .u8 k, .int .i64 x, .int .i64 y, .int .i64 v, .int .i64 b, .int .i64 wt, .int .i64 t] 26))).alloc (by simp; try omega) (.cells #[.int .i64 cx, .int .i64 cy, .int .i64 bx, .int .i64 b2] 32)).alloc (by simp; try omega) (.cells #[.int .i64 px, .int .i64 py] 24)).cell (p := ⟨w.heap.size, 3, none⟩) (by simp; try omega)).trans (by rw [World.cell?_alloc_at _ _ _ _ (by simp)]; rfl)
          have c0_0_4 : (((w.alloc (.cells #[.int .i64 s, .int .u8 k, .int .i64 x, .int .i64 y, .int .i64 v, .int .i64 b, .int .i64 wt, .int .i64 t] 26)).alloc (.cells #[.int .i64 cx, .int .i64 cy, .int .i64 bx, .int .i64 b2] 32)).alloc (.cells #[.int .i64 px, .int .i64 py] 24)).cell? ⟨w.heap.size, 4, none⟩ = some (.int .i64 v) := ((((Below.refl (w.heap.size + 1) (w.alloc (.cells #[.int .i64 s, .int .u8 k, .int .i64 x, .int .i64 y, .int .i64 v, .int .i64 b, .int .i64 wt, .int .i64 t] 26))).alloc (by simp; try omega) (.cells #[.int .i64 cx, .int .i64 cy, .int .i64 bx, .int .i64 b2] 32)).alloc (by simp; try omega) (.cells #[.int .i64 px, .int .i64 py] 24)).cell (p := ⟨w.heap.size, 4, none⟩) (by simp; try omega)).trans (by rw [World.cell?_alloc_at _ _ _ _ (by simp)]; rfl)
          have c0_0_5 : (((w.alloc (.cells #[.int .i64 s, .int .u8 k, .int .i64 x, .int .i64 y, .int .i64 v, .int .i64 b, .int .i64 wt, .int .i64 t] 26)).alloc (.cells #[.int .i64 cx, .int .i64 cy, .int .i64 bx, .int .i64 b2] 32)).alloc (.cells #[.int .i64 px, .int .i64 py] 24)).cell? ⟨w.heap.size, 5, none⟩ = some (.int .i64 b) := ((((Below.refl (w.heap.size + 1) (w.alloc (.cells #[.int .i64 s, .int .u8 k, .int .i64 x, .int .i64 y, .int .i64 v, .int .i64 b, .int .i64 wt, .int .i64 t] 26))).alloc (by simp; try omega) (.cells #[.int .i64 cx, .int .i64 cy, .int .i64 bx, .int .i64 b2] 32)).alloc (by simp; try omega) (.cells #[.int .i64 px, .int .i64 py] 24)).cell (p := ⟨w.heap.size, 5, none⟩) (by simp; try omega)).trans (by rw [World.cell?_alloc_at _ _ _ _ (by simp)]; rfl)
          have c0_0_6 : (((w.alloc (.cells #[.int .i64 s, .int .u8 k, .int .i64 x, .int .i64 y, .int .i64 v, .int .i64 b, .int .i64 wt, .int .i64 t] 26)).alloc (.cells #[.int .i64 cx, .int .i64 cy, .int .i64 bx, .int .i64 b2] 32)).alloc (.cells #[.int .i64 px, .int .i64 py] 24)).cell? ⟨w.heap.size, 6, none⟩ = some (.int .i64 wt) := ((((Below.refl (w.heap.size + 1) (w.alloc (.cells #[.int .i64 s, .int .u8 k, .int .i64 x, .int .i64 y, .int .i64 v, .int .i64 b, .int .i64 wt, .int .i64 t] 26))).alloc (by simp; try omega) (.cells #[.int .i64 cx, .int .i64 cy, .int .i64 bx, .int .i64 b2] 32)).alloc (by simp; try omega) (.cells #[.int .i64 px, .int .i64 py] 24)).cell (p := ⟨w.heap.size, 6, none⟩) (by simp; try omega)).trans (by rw [World.cell?_alloc_at _ _ _ _ (by simp)]; rfl)
          have c0_0_7 : (((w.alloc (.cells #[.int .i64 s, .int .u8 k, .int .i64 x, .int .i64 y, .int .i64 v, .int .i64 b, .int .i64 wt, .int .i64 t] 26)).alloc (.cells #[.int .i64 cx, .int .i64 cy, .int .i64 bx, .int .i64 b2] 32)).alloc (.cells #[.int .i64 px, .int .i64 py] 24)).cell? ⟨w.heap.size, 7, none⟩ = some (.int .i64 t) := ((((Below.refl (w.heap.size + 1) (w.alloc (.cells #[.int .i64 s, .int .u8 k, .int .i64 x, .int .i64 y, .int .i64 v, .int .i64 b, .int .i64 wt, .int .i64 t] 26))).alloc (by simp; try omega) (.cells #[.int .i64 cx, .int .i64 cy, .int .i64 bx, .int .i64 b2] 32)).alloc (by simp; try omega) (.cells #[.int .i64 px, .int .i64 py] 24)).cell (p := ⟨w.heap.size, 7, none⟩) (by simp; try omega)).trans (by rw [World.cell?_alloc_at _ _ _ _ (by simp)]; rfl)
          have c0_1_0 : (((w.alloc (.cells #[.int .i64 s, .int .u8 k, .int .i64 x, .int .i64 y, .int .i64 v, .int .i64 b, .int .i64 wt, .int .i64 t] 26)).alloc (.cells #[.int .i64 cx, .int .i64 cy, .int .i64 bx, .int .i64 b2] 32)).alloc (.cells #[.int .i64 px, .int .i64 py] 24)).cell? ⟨w.heap.size + 1, 0, none⟩ = some (.int .i64 cx) := (((Below.refl (w.heap.size + 1 + 1) ((w.alloc (.cells #[.int .i64 s, .int .u8 k, .int .i64 x, .int .i64 y, .int .i64 v, .int .i64 b, .int .i64 wt, .int .i64 t] 26)).alloc (.cells #[.int .i64 cx, .int .i64 cy, .int .i64 bx, .int .i64 b2] 32))).alloc (by simp; try omega) (.cells #[.int .i64 px, .int .i64 py] 24)).cell (p := ⟨w.heap.size + 1, 0, none⟩) (by simp; try omega)).trans (by rw [World.cell?_alloc_at _ _ _ _ (by simp)]; rfl)
          have c0_1_1 : (((w.alloc (.cells #[.int .i64 s, .int .u8 k, .int .i64 x, .int .i64 y, .int .i64 v, .int .i64 b, .int .i64 wt, .int .i64 t] 26)).alloc (.cells #[.int .i64 cx, .int .i64 cy, .int .i64 bx, .int .i64 b2] 32)).alloc (.cells #[.int .i64 px, .int .i64 py] 24)).cell? ⟨w.heap.size + 1, 1, none⟩ = some (.int .i64 cy) := (((Below.refl (w.heap.size + 1 + 1) ((w.alloc (.cells #[.int .i64 s, .int .u8 k, .int .i64 x, .int .i64 y, .int .i64 v, .int .i64 b, .int .i64 wt, .int .i64 t] 26)).alloc (.cells #[.int .i64 cx, .int .i64 cy, .int .i64 bx, .int .i64 b2] 32))).alloc (by simp; try omega) (.cells #[.int .i64 px, .int .i64 py] 24)).cell (p := ⟨w.heap.size + 1, 1, none⟩) (by simp; try omega)).trans (by rw [World.cell?_alloc_at _ _ _ _ (by simp)]; rfl)
          have c0_1_2 : (((w.alloc (.cells #[.int .i64 s, .int .u8 k, .int .i64 x, .int .i64 y, .int .i64 v, .int .i64 b, .int .i64 wt, .int .i64 t] 26)).alloc (.cells #[.int .i64 cx, .int .i64 cy, .int .i64 bx, .int .i64 b2] 32)).alloc (.cells #[.int .i64 px, .int .i64 py] 24)).cell? ⟨w.heap.size + 1, 2, none⟩ = some (.int .i64 bx) := (((Below.refl (w.heap.size + 1 + 1) ((w.alloc (.cells #[.int .i64 s, .int .u8 k, .int .i64 x, .int .i64 y, .int .i64 v, .int .i64 b, .int .i64 wt, .int .i64 t] 26)).alloc (.cells #[.int .i64 cx, .int .i64 cy, .int .i64 bx, .int .i64 b2] 32))).alloc (by simp; try omega) (.cells #[.int .i64 px, .int .i64 py] 24)).cell (p := ⟨w.heap.size + 1, 2, none⟩) (by simp; try omega)).trans (by rw [World.cell?_alloc_at _ _ _ _ (by simp)]; rfl)
          have c0_1_3 : (((w.alloc (.cells #[.int .i64 s, .int .u8 k, .int .i64 x, .int .i64 y, .int .i64 v, .int .i64 b, .int .i64 wt, .int .i64 t] 26)).alloc (.cells #[.int .i64 cx, .int .i64 cy, .int .i64 bx, .int .i64 b2] 32)).alloc (.cells #[.int .i64 px, .int .i64 py] 24)).cell? ⟨w.heap.size + 1, 3, none⟩ = some (.int .i64 b2) := (((Below.refl (w.heap.size + 1 + 1) ((w.alloc (.cells #[.int .i64 s, .int .u8 k, .int .i64 x, .int .i64 y, .int .i64 v, .int .i64 b, .int .i64 wt, .int .i64 t] 26)).alloc (.cells #[.int .i64 cx, .int .i64 cy, .int .i64 bx, .int .i64 b2] 32))).alloc (by simp; try omega) (.cells #[.int .i64 px, .int .i64 py] 24)).cell (p := ⟨w.heap.size + 1, 3, none⟩) (by simp; try omega)).trans (by rw [World.cell?_alloc_at _ _ _ _ (by simp)]; rfl)
          have c0_2_0 : (((w.alloc (.cells #[.int .i64 s, .int .u8 k, .int .i64 x, .int .i64 y, .int .i64 v, .int .i64 b, .int .i64 wt, .int .i64 t] 26)).alloc (.cells #[.int .i64 cx, .int .i64 cy, .int .i64 bx, .int .i64 b2] 32)).alloc (.cells #[.int .i64 px, .int .i64 py] 24)).cell? ⟨w.heap.size + 1 + 1, 0, none⟩ = some (.int .i64 px) := by rw [World.cell?_alloc_at _ _ _ _ (by simp)]; rfl
          have c0_2_1 : (((w.alloc (.cells #[.int .i64 s, .int .u8 k, .int .i64 x, .int .i64 y, .int .i64 v, .int .i64 b, .int .i64 wt, .int .i64 t] 26)).alloc (.cells #[.int .i64 cx, .int .i64 cy, .int .i64 bx, .int .i64 b2] 32)).alloc (.cells #[.int .i64 px, .int .i64 py] 24)).cell? ⟨w.heap.size + 1 + 1, 1, none⟩ = some (.int .i64 py) := by rw [World.cell?_alloc_at _ _ _ _ (by simp)]; rfl
          have z0_0 : w.heap.size < (((w.alloc (.cells #[.int .i64 s, .int .u8 k, .int .i64 x, .int .i64 y, .int .i64 v, .int .i64 b, .int .i64 wt, .int .i64 t] 26)).alloc (.cells #[.int .i64 cx, .int .i64 cy, .int .i64 bx, .int .i64 b2] 32)).alloc (.cells #[.int .i64 px, .int .i64 py] 24)).heap.size := by simp; try omega
          have z0_1 : w.heap.size + 1 < (((w.alloc (.cells #[.int .i64 s, .int .u8 k, .int .i64 x, .int .i64 y, .int .i64 v, .int .i64 b, .int .i64 wt, .int .i64 t] 26)).alloc (.cells #[.int .i64 cx, .int .i64 cy, .int .i64 bx, .int .i64 b2] 32)).alloc (.cells #[.int .i64 px, .int .i64 py] 24)).heap.size := by simp; try omega
          have z0_2 : w.heap.size + 1 + 1 < (((w.alloc (.cells #[.int .i64 s, .int .u8 k, .int .i64 x, .int .i64 y, .int .i64 v, .int .i64 b, .int .i64 wt, .int .i64 t] 26)).alloc (.cells #[.int .i64 cx, .int .i64 cy, .int .i64 bx, .int .i64 b2] 32)).alloc (.cells #[.int .i64 px, .int .i64 py] 24)).heap.size := by simp; try omega
          have hw0 := Lib.hid ((((Below.refl w.heap.size w).alloc (by simp; try omega) (.cells #[.int .i64 s, .int .u8 k, .int .i64 x, .int .i64 y, .int .i64 v, .int .i64 b, .int .i64 wt, .int .i64 t] 26)).alloc (by simp; try omega) (.cells #[.int .i64 cx, .int .i64 cy, .int .i64 bx, .int .i64 b2] 32)).alloc (by simp; try omega) (.cells #[.int .i64 px, .int .i64 py] 24))
          generalize hW0 : (((w.alloc (.cells #[.int .i64 s, .int .u8 k, .int .i64 x, .int .i64 y, .int .i64 v, .int .i64 b, .int .i64 wt, .int .i64 t] 26)).alloc (.cells #[.int .i64 cx, .int .i64 cy, .int .i64 bx, .int .i64 b2] 32)).alloc (.cells #[.int .i64 px, .int .i64 py] 24)) = w0 at *
          clear hW0
          refine (awake_any _ (HE.out.below hw0.out)).mono ?_
          rintro e w1 ⟨rfl, hb1⟩
          have c1_0_0 := (hb1.cell (p := ⟨w.heap.size, 0, none⟩) z0_0).trans c0_0_0
          have c1_0_1 := (hb1.cell (p := ⟨w.heap.size, 1, none⟩) z0_0).trans c0_0_1
          have c1_0_2 := (hb1.cell (p := ⟨w.heap.size, 2, none⟩) z0_0).trans c0_0_2
          have c1_0_3 := (hb1.cell (p := ⟨w.heap.size, 3, none⟩) z0_0).trans c0_0_3
          have c1_0_4 := (hb1.cell (p := ⟨w.heap.size, 4, none⟩) z0_0).trans c0_0_4
          have c1_0_5 := (hb1.cell (p := ⟨w.heap.size, 5, none⟩) z0_0).trans c0_0_5
          have c1_0_6 := (hb1.cell (p := ⟨w.heap.size, 6, none⟩) z0_0).trans c0_0_6
          have c1_0_7 := (hb1.cell (p := ⟨w.heap.size, 7, none⟩) z0_0).trans c0_0_7
          have c1_1_0 := (hb1.cell (p := ⟨w.heap.size + 1, 0, none⟩) z0_1).trans c0_1_0
          have c1_1_1 := (hb1.cell (p := ⟨w.heap.size + 1, 1, none⟩) z0_1).trans c0_1_1
          have c1_1_2 := (hb1.cell (p := ⟨w.heap.size + 1, 2, none⟩) z0_1).trans c0_1_2
          have c1_1_3 := (hb1.cell (p := ⟨w.heap.size + 1, 3, none⟩) z0_1).trans c0_1_3
          have c1_2_0 := (hb1.cell (p := ⟨w.heap.size + 1 + 1, 0, none⟩) z0_2).trans c0_2_0
          have c1_2_1 := (hb1.cell (p := ⟨w.heap.size + 1 + 1, 1, none⟩) z0_2).trans c0_2_1
          have z1_0 : w.heap.size < w1.heap.size := Nat.lt_of_lt_of_le z0_0 hb1.size
          have z1_1 : w.heap.size + 1 < w1.heap.size := Nat.lt_of_lt_of_le z0_1 hb1.size
          have z1_2 : w.heap.size + 1 + 1 < w1.heap.size := Nat.lt_of_lt_of_le z0_2 hb1.size
          have hw1 := Lib.hid (hw0.out.trans (hb1.mono hw0.out.size))
          clear hb1 hw0 c0_0_0 c0_0_1 c0_0_2 c0_0_3 c0_0_4 c0_0_5 c0_0_6 c0_0_7 c0_1_0 c0_1_1 c0_1_2 c0_1_3 c0_2_0 c0_2_1 z0_0 z0_1 z0_2
          go_wp2_with fail
          refine (HR0.out _).mono ?_
          rintro e w2 ⟨u1, rfl, hr1, hb2⟩
          have c2_0_0 := (hb2.cell (p := ⟨w.heap.size, 0, none⟩) z1_0).trans c1_0_0
          have c2_0_1 := (hb2.cell (p := ⟨w.heap.size, 1, none⟩) z1_0).trans c1_0_1
          have c2_0_2 := (hb2.cell (p := ⟨w.heap.size, 2, none⟩) z1_0).trans c1_0_2
          have c2_0_3 := (hb2.cell (p := ⟨w.heap.size, 3, none⟩) z1_0).trans c1_0_3
          have c2_0_4 := (hb2.cell (p := ⟨w.heap.size, 4, none⟩) z1_0).trans c1_0_4
          have c2_0_5 := (hb2.cell (p := ⟨w.heap.size, 5, none⟩) z1_0).trans c1_0_5
          have c2_0_6 := (hb2.cell (p := ⟨w.heap.size, 6, none⟩) z1_0).trans c1_0_6
          have c2_0_7 := (hb2.cell (p := ⟨w.heap.size, 7, none⟩) z1_0).trans c1_0_7
          have c2_1_0 := (hb2.cell (p := ⟨w.heap.size + 1, 0, none⟩) z1_1).trans c1_1_0
          have c2_1_1 := (hb2.cell (p := ⟨w.heap.size + 1, 1, none⟩) z1_1).trans c1_1_1
          have c2_1_2 := (hb2.cell (p := ⟨w.heap.size + 1, 2, none⟩) z1_1).trans c1_1_2
          have c2_1_3 := (hb2.cell (p := ⟨w.heap.size + 1, 3, none⟩) z1_1).trans c1_1_3
          have c2_2_0 := (hb2.cell (p := ⟨w.heap.size + 1 + 1, 0, none⟩) z1_2).trans c1_2_0
          have c2_2_1 := (hb2.cell (p := ⟨w.heap.size + 1 + 1, 1, none⟩) z1_2).trans c1_2_1
          have z2_0 : w.heap.size < w2.heap.size := Nat.lt_of_lt_of_le z1_0 hb2.size
          have z2_1 : w.heap.size + 1 < w2.heap.size := Nat.lt_of_lt_of_le z1_1 hb2.size
          have z2_2 : w.heap.size + 1 + 1 < w2.heap.size := Nat.lt_of_lt_of_le z1_2 hb2.size
          have hw2 := Lib.hid (hw1.out.trans (hb2.mono hw1.out.size))
          clear hb2 hw1 c1_0_0 c1_0_1 c1_0_2 c1_0_3 c1_0_4 c1_0_5 c1_0_6 c1_0_7 c1_1_0 c1_1_1 c1_1_2 c1_1_3 c1_2_0 c1_2_1 z1_0 z1_1 z1_2
          have X1 := Lib.hid hr1
          clear hr1
          go_wp2_with fail
          refine (HG0.out _).mono ?_
          rintro e w3 ⟨rfl, hb3⟩
          have X2 := Lib.hid (X1.out.keep hb3)
          clear X1
          have c3_0_0 := (hb3.cell (p := ⟨w.heap.size, 0, none⟩) z2_0).trans c2_0_0
          have c3_0_1 := (hb3.cell (p := ⟨w.heap.size, 1, none⟩) z2_0).trans c2_0_1
          have c3_0_2 := (hb3.cell (p := ⟨w.heap.size, 2, none⟩) z2_0).trans c2_0_2
          have c3_0_3 := (hb3.cell (p := ⟨w.heap.size, 3, none⟩) z2_0).trans c2_0_3
          have c3_0_4 := (hb3.cell (p := ⟨w.heap.size, 4, none⟩) z2_0).trans c2_0_4
          have c3_0_5 := (hb3.cell (p := ⟨w.heap.size, 5, none⟩) z2_0).trans c2_0_5
          have c3_0_6 := (hb3.cell (p := ⟨w.heap.size, 6, none⟩) z2_0).trans c2_0_6
          have c3_0_7 := (hb3.cell (p := ⟨w.heap.size, 7, none⟩) z2_0).trans c2_0_7
          have c3_1_0 := (hb3.cell (p := ⟨w.heap.size + 1, 0, none⟩) z2_1).trans c2_1_0
          have c3_1_1 := (hb3.cell (p := ⟨w.heap.size + 1, 1, none⟩) z2_1).trans c2_1_1
          have c3_1_2 := (hb3.cell (p := ⟨w.heap.size + 1, 2, none⟩) z2_1).trans c2_1_2
          have c3_1_3 := (hb3.cell (p := ⟨w.heap.size + 1, 3, none⟩) z2_1).trans c2_1_3
          have c3_2_0 := (hb3.cell (p := ⟨w.heap.size + 1 + 1, 0, none⟩) z2_2).trans c2_2_0
          have c3_2_1 := (hb3.cell (p := ⟨w.heap.size + 1 + 1, 1, none⟩) z2_2).trans c2_2_1
          have z3_0 : w.heap.size < w3.heap.size := Nat.lt_of_lt_of_le z2_0 hb3.size
          have z3_1 : w.heap.size + 1 < w3.heap.size := Nat.lt_of_lt_of_le z2_1 hb3.size
          have z3_2 : w.heap.size + 1 + 1 < w3.heap.size := Nat.lt_of_lt_of_le z2_2 hb3.size
          have hw3 := Lib.hid (hw2.out.trans (hb3.mono hw2.out.size))
          clear hb3 hw2 c2_0_0 c2_0_1 c2_0_2 c2_0_3 c2_0_4 c2_0_5 c2_0_6 c2_0_7 c2_1_0 c2_1_1 c2_1_2 c2_1_3 c2_2_0 c2_2_1 z2_0 z2_1 z2_2
          go_wp2_with fail
          refine (HI0.out _).mono ?_
          rintro e w4 ⟨rfl, hb4⟩
          have X3 := Lib.hid (X2.out.keep hb4)
          clear X2
          have c4_0_0 := (hb4.cell (p := ⟨w.heap.size, 0, none⟩) z3_0).trans c3_0_0
          have c4_0_1 := (hb4.cell (p := ⟨w.heap.size, 1, none⟩) z3_0).trans c3_0_1
          have c4_0_2 := (hb4.cell (p := ⟨w.heap.size, 2, none⟩) z3_0).trans c3_0_2
          have c4_0_3 := (hb4.cell (p := ⟨w.heap.size, 3, none⟩) z3_0).trans c3_0_3
          have c4_0_4 := (hb4.cell (p := ⟨w.heap.size, 4, none⟩) z3_0).trans c3_0_4
          have c4_0_5 := (hb4.cell (p := ⟨w.heap.size, 5, none⟩) z3_0).trans c3_0_5
          have c4_0_6 := (hb4.cell (p := ⟨w.heap.size, 6, none⟩) z3_0).trans c3_0_6
          have c4_0_7 := (hb4.cell (p := ⟨w.heap.size, 7, none⟩) z3_0).trans c3_0_7
          have c4_1_0 := (hb4.cell (p := ⟨w.heap.size + 1, 0, none⟩) z3_1).trans c3_1_0
          have c4_1_1 := (hb4.cell (p := ⟨w.heap.size + 1, 1, none⟩) z3_1).trans c3_1_1
          have c4_1_2 := (hb4.cell (p := ⟨w.heap.size + 1, 2, none⟩) z3_1).trans c3_1_2
          have c4_1_3 := (hb4.cell (p := ⟨w.heap.size + 1, 3, none⟩) z3_1).trans c3_1_3
          have c4_2_0 := (hb4.cell (p := ⟨w.heap.size + 1 + 1, 0, none⟩) z3_2).trans c3_2_0
          have c4_2_1 := (hb4.cell (p := ⟨w.heap.size + 1 + 1, 1, none⟩) z3_2).trans c3_2_1
          have z4_0 : w.heap.size < w4.heap.size := Nat.lt_of_lt_of_le z3_0 hb4.size
          have z4_1 : w.heap.size + 1 < w4.heap.size := Nat.lt_of_lt_of_le z3_1 hb4.size
          have z4_2 : w.heap.size + 1 + 1 < w4.heap.size := Nat.lt_of_lt_of_le z3_2 hb4.size
          have hw4 := Lib.hid (hw3.out.trans (hb4.mono hw3.out.size))
          clear hb4 hw3 c3_0_0 c3_0_1 c3_0_2 c3_0_3 c3_0_4 c3_0_5 c3_0_6 c3_0_7 c3_1_0 c3_1_1 c3_1_2 c3_1_3 c3_2_0 c3_2_1 z3_0 z3_1 z3_2
          obtain ⟨k1, rfl, -, hk1, p0, p1, p2, p3, p4, p5⟩ := rows_one X3.out
          clear X3
          go_wp2_with fail
          go_loopw [43] (CeR w4 1) (fun i _ => 1 - (intOf i).toNat)
          case atStart => exact ⟨0, by omega, rfl, Below.refl _ _⟩
          case round =>
            obtain ⟨j, hj, rfl, hbw⟩ := hrel
            rcases (show j = 0 ∨ j = 1 by omega) with rfl | rfl
            · have c0 := (hbw.cell (p := ⟨k1, 0, none⟩) hk1).trans p0
              have c1 := (hbw.cell (p := ⟨k1, 1, none⟩) hk1).trans p1
              have c2 := (hbw.cell (p := ⟨k1, 2, none⟩) hk1).trans p2
              have c3 := (hbw.cell (p := ⟨k1, 3, none⟩) hk1).trans p3
              have c4 := (hbw.cell (p := ⟨k1, 4, none⟩) hk1).trans p4
              have c5 := (hbw.cell (p := ⟨k1, 5, none⟩) hk1).trans p5
              have x0 := (hbw.cell (p := ⟨w.heap.size, 0, none⟩) z4_0).trans c4_0_0
              have x6 := (hbw.cell (p := ⟨w.heap.size, 6, none⟩) z4_0).trans c4_0_6
              have y0 := (hbw.cell (p := ⟨w.heap.size + 1 + 1, 0, none⟩) z4_2).trans c4_2_0
              have y1 := (hbw.cell (p := ⟨w.heap.size + 1 + 1, 1, none⟩) z4_2).trans c4_2_1
              have zz2 : w.heap.size + 1 + 1 < wr.heap.size := World.block_lt_of_cell? _ _ y0
              have zz0 : w.heap.size < wr.heap.size := World.block_lt_of_cell? _ _ x0
              have zzk : k1 < wr.heap.size := World.block_lt_of_cell? _ _ c0
              have HBW := Lib.hid hbw
              clear hbw
              have t1 : decide (d < a * px + b' * py - z) = false := by simp; omega
              have t2 : decide (d < -(a * px + b' * py - z)) = false := by simp; omega
              go_wp2
              go_roundw
              case rel => exact ⟨1, by omega, by go_num, HBW.out.alloc HBW.out.size _⟩
              case measure => simp [intOf]
            · have HBW := Lib.hid hbw
              clear hbw
              go_wp2
              go_ret
              exact ⟨rfl, hw4.out.trans (HBW.out.mono hw4.out.size)⟩
        · obtain ⟨ms, a, b', z, d, mw⟩ := m
          obtain ⟨⟨e0, e1⟩, hq0, hq1, ⟨a0, a1⟩, ⟨b0, b1⟩, z0, z1⟩ := hm
          simp only at e0 e1 a0 a1 b0 b1 z0 z1 hq0 hq1
          have hq2 := hq0.symm
          have hq3 := hq1.symm
          clear hq0 hq1
          subst hq2 hq3
          obtain ⟨ms', a', b'', z', d', mw'⟩ := n
          obtain ⟨⟨e0', e1'⟩, hs', hw', ⟨a0', a1'⟩, ⟨b0', b1'⟩, z0', z1'⟩ := hn
          simp only at e0' e1' a0' a1' b0' b1' z0' z1' hs' hw'
          have hq2 := hs'.symm
          have hq3 := hw'.symm
          clear hs' hw'
          subst hq2 hq3
          go_enter Tryd.func6, Tryd.ntmps6
          go_wp2_with fail
          have c0_0_0 : (((w.alloc (.cells #[.int .i64 s, .int .u8 k, .int .i64 x, .int .i64 y, .int .i64 v, .int .i64 b, .int .i64 wt, .int .i64 t] 26)).alloc (.cells #[.int .i64 cx, .int .i64 cy, .int .i64 bx, .int .i64 b2] 32)).alloc (.cells #[.int .i64 px, .int .i64 py] 24)).cell? ⟨w.heap.size, 0, none⟩ = some (.int .i64 s) := ((((Below.refl (w.heap.size + 1) (w.alloc (.cells #[.int .i64 s, .int .u8 k, .int .i64 x, .int .i64 y, .int .i64 v, .int .i64 b, .int .i64 wt, .int .i64 t] 26))).alloc (by simp; try omega) (.cells #[.int .i64 cx, .int .i64 cy, .int .i64 bx, .int .i64 b2] 32)).alloc (by simp; try omega) (.cells #[.int .i64 px, .int .i64 py] 24)).cell (p := ⟨w.heap.size, 0, none⟩) (by simp; try omega)).trans (by rw [World.cell?_alloc_at _ _ _ _ (by simp)]; rfl)
          have c0_0_1 : (((w.alloc (.cells #[.int .i64 s, .int .u8 k, .int .i64 x, .int .i64 y, .int .i64 v, .int .i64 b, .int .i64 wt, .int .i64 t] 26)).alloc (.cells #[.int .i64 cx, .int .i64 cy, .int .i64 bx, .int .i64 b2] 32)).alloc (.cells #[.int .i64 px, .int .i64 py] 24)).cell? ⟨w.heap.size, 1, none⟩ = some (.int .u8 k) := ((((Below.refl (w.heap.size + 1) (w.alloc (.cells #[.int .i64 s, .int .u8 k, .int .i64 x, .int .i64 y, .int .i64 v, .int .i64 b, .int .i64 wt, .int .i64 t] 26))).alloc (by simp; try omega) (.cells #[.int .i64 cx, .int .i64 cy, .int .i64 bx, .int .i64 b2] 32)).alloc (by simp; try omega) (.cells #[.int .i64 px, .int .i64 py] 24)).cell (p := ⟨w.heap.size, 1, none⟩) (by simp; try omega)).trans (by rw [World.cell?_alloc_at _ _ _ _ (by simp)]; rfl)
          have c0_0_2 : (((w.alloc (.cells #[.int .i64 s, .int .u8 k, .int .i64 x, .int .i64 y, .int .i64 v, .int .i64 b, .int .i64 wt, .int .i64 t] 26)).alloc (.cells #[.int .i64 cx, .int .i64 cy, .int .i64 bx, .int .i64 b2] 32)).alloc (.cells #[.int .i64 px, .int .i64 py] 24)).cell? ⟨w.heap.size, 2, none⟩ = some (.int .i64 x) := ((((Below.refl (w.heap.size + 1) (w.alloc (.cells #[.int .i64 s, .int .u8 k, .int .i64 x, .int .i64 y, .int .i64 v, .int .i64 b, .int .i64 wt, .int .i64 t] 26))).alloc (by simp; try omega) (.cells #[.int .i64 cx, .int .i64 cy, .int .i64 bx, .int .i64 b2] 32)).alloc (by simp; try omega) (.cells #[.int .i64 px, .int .i64 py] 24)).cell (p := ⟨w.heap.size, 2, none⟩) (by simp; try omega)).trans (by rw [World.cell?_alloc_at _ _ _ _ (by simp)]; rfl)
          have c0_0_3 : (((w.alloc (.cells #[.int .i64 s, .int .u8 k, .int .i64 x, .int .i64 y, .int .i64 v, .int .i64 b, .int .i64 wt, .int .i64 t] 26)).alloc (.cells #[.int .i64 cx, .int .i64 cy, .int .i64 bx, .int .i64 b2] 32)).alloc (.cells #[.int .i64 px, .int .i64 py] 24)).cell? ⟨w.heap.size, 3, none⟩ = some (.int .i64 y) := ((((Below.refl (w.heap.size + 1) (w.alloc (.cells #[.int .i64 s, .int .u8 k, .int .i64 x, .int .i64 y, .int .i64 v, .int .i64 b, .int .i64 wt, .int .i64 t] 26))).alloc (by simp; try omega) (.cells #[.int .i64 cx, .int .i64 cy, .int .i64 bx, .int .i64 b2] 32)).alloc (by simp; try omega) (.cells #[.int .i64 px, .int .i64 py] 24)).cell (p := ⟨w.heap.size, 3, none⟩) (by simp; try omega)).trans (by rw [World.cell?_alloc_at _ _ _ _ (by simp)]; rfl)
          have c0_0_4 : (((w.alloc (.cells #[.int .i64 s, .int .u8 k, .int .i64 x, .int .i64 y, .int .i64 v, .int .i64 b, .int .i64 wt, .int .i64 t] 26)).alloc (.cells #[.int .i64 cx, .int .i64 cy, .int .i64 bx, .int .i64 b2] 32)).alloc (.cells #[.int .i64 px, .int .i64 py] 24)).cell? ⟨w.heap.size, 4, none⟩ = some (.int .i64 v) := ((((Below.refl (w.heap.size + 1) (w.alloc (.cells #[.int .i64 s, .int .u8 k, .int .i64 x, .int .i64 y, .int .i64 v, .int .i64 b, .int .i64 wt, .int .i64 t] 26))).alloc (by simp; try omega) (.cells #[.int .i64 cx, .int .i64 cy, .int .i64 bx, .int .i64 b2] 32)).alloc (by simp; try omega) (.cells #[.int .i64 px, .int .i64 py] 24)).cell (p := ⟨w.heap.size, 4, none⟩) (by simp; try omega)).trans (by rw [World.cell?_alloc_at _ _ _ _ (by simp)]; rfl)
          have c0_0_5 : (((w.alloc (.cells #[.int .i64 s, .int .u8 k, .int .i64 x, .int .i64 y, .int .i64 v, .int .i64 b, .int .i64 wt, .int .i64 t] 26)).alloc (.cells #[.int .i64 cx, .int .i64 cy, .int .i64 bx, .int .i64 b2] 32)).alloc (.cells #[.int .i64 px, .int .i64 py] 24)).cell? ⟨w.heap.size, 5, none⟩ = some (.int .i64 b) := ((((Below.refl (w.heap.size + 1) (w.alloc (.cells #[.int .i64 s, .int .u8 k, .int .i64 x, .int .i64 y, .int .i64 v, .int .i64 b, .int .i64 wt, .int .i64 t] 26))).alloc (by simp; try omega) (.cells #[.int .i64 cx, .int .i64 cy, .int .i64 bx, .int .i64 b2] 32)).alloc (by simp; try omega) (.cells #[.int .i64 px, .int .i64 py] 24)).cell (p := ⟨w.heap.size, 5, none⟩) (by simp; try omega)).trans (by rw [World.cell?_alloc_at _ _ _ _ (by simp)]; rfl)
          have c0_0_6 : (((w.alloc (.cells #[.int .i64 s, .int .u8 k, .int .i64 x, .int .i64 y, .int .i64 v, .int .i64 b, .int .i64 wt, .int .i64 t] 26)).alloc (.cells #[.int .i64 cx, .int .i64 cy, .int .i64 bx, .int .i64 b2] 32)).alloc (.cells #[.int .i64 px, .int .i64 py] 24)).cell? ⟨w.heap.size, 6, none⟩ = some (.int .i64 wt) := ((((Below.refl (w.heap.size + 1) (w.alloc (.cells #[.int .i64 s, .int .u8 k, .int .i64 x, .int .i64 y, .int .i64 v, .int .i64 b, .int .i64 wt, .int .i64 t] 26))).alloc (by simp; try omega) (.cells #[.int .i64 cx, .int .i64 cy, .int .i64 bx, .int .i64 b2] 32)).alloc (by simp; try omega) (.cells #[.int .i64 px, .int .i64 py] 24)).cell (p := ⟨w.heap.size, 6, none⟩) (by simp; try omega)).trans (by rw [World.cell?_alloc_at _ _ _ _ (by simp)]; rfl)
          have c0_0_7 : (((w.alloc (.cells #[.int .i64 s, .int .u8 k, .int .i64 x, .int .i64 y, .int .i64 v, .int .i64 b, .int .i64 wt, .int .i64 t] 26)).alloc (.cells #[.int .i64 cx, .int .i64 cy, .int .i64 bx, .int .i64 b2] 32)).alloc (.cells #[.int .i64 px, .int .i64 py] 24)).cell? ⟨w.heap.size, 7, none⟩ = some (.int .i64 t) := ((((Below.refl (w.heap.size + 1) (w.alloc (.cells #[.int .i64 s, .int .u8 k, .int .i64 x, .int .i64 y, .int .i64 v, .int .i64 b, .int .i64 wt, .int .i64 t] 26))).alloc (by simp; try omega) (.cells #[.int .i64 cx, .int .i64 cy, .int .i64 bx, .int .i64 b2] 32)).alloc (by simp; try omega) (.cells #[.int .i64 px, .int .i64 py] 24)).cell (p := ⟨w.heap.size, 7, none⟩) (by simp; try omega)).trans (by rw [World.cell?_alloc_at _ _ _ _ (by simp)]; rfl)
          have c0_1_0 : (((w.alloc (.cells #[.int .i64 s, .int .u8 k, .int .i64 x, .int .i64 y, .int .i64 v, .int .i64 b, .int .i64 wt, .int .i64 t] 26)).alloc (.cells #[.int .i64 cx, .int .i64 cy, .int .i64 bx, .int .i64 b2] 32)).alloc (.cells #[.int .i64 px, .int .i64 py] 24)).cell? ⟨w.heap.size + 1, 0, none⟩ = some (.int .i64 cx) := (((Below.refl (w.heap.size + 1 + 1) ((w.alloc (.cells #[.int .i64 s, .int .u8 k, .int .i64 x, .int .i64 y, .int .i64 v, .int .i64 b, .int .i64 wt, .int .i64 t] 26)).alloc (.cells #[.int .i64 cx, .int .i64 cy, .int .i64 bx, .int .i64 b2] 32))).alloc (by simp; try omega) (.cells #[.int .i64 px, .int .i64 py] 24)).cell (p := ⟨w.heap.size + 1, 0, none⟩) (by simp; try omega)).trans (by rw [World.cell?_alloc_at _ _ _ _ (by simp)]; rfl)
          have c0_1_1 : (((w.alloc (.cells #[.int .i64 s, .int .u8 k, .int .i64 x, .int .i64 y, .int .i64 v, .int .i64 b, .int .i64 wt, .int .i64 t] 26)).alloc (.cells #[.int .i64 cx, .int .i64 cy, .int .i64 bx, .int .i64 b2] 32)).alloc (.cells #[.int .i64 px, .int .i64 py] 24)).cell? ⟨w.heap.size + 1, 1, none⟩ = some (.int .i64 cy) := (((Below.refl (w.heap.size + 1 + 1) ((w.alloc (.cells #[.int .i64 s, .int .u8 k, .int .i64 x, .int .i64 y, .int .i64 v, .int .i64 b, .int .i64 wt, .int .i64 t] 26)).alloc (.cells #[.int .i64 cx, .int .i64 cy, .int .i64 bx, .int .i64 b2] 32))).alloc (by simp; try omega) (.cells #[.int .i64 px, .int .i64 py] 24)).cell (p := ⟨w.heap.size + 1, 1, none⟩) (by simp; try omega)).trans (by rw [World.cell?_alloc_at _ _ _ _ (by simp)]; rfl)
          have c0_1_2 : (((w.alloc (.cells #[.int .i64 s, .int .u8 k, .int .i64 x, .int .i64 y, .int .i64 v, .int .i64 b, .int .i64 wt, .int .i64 t] 26)).alloc (.cells #[.int .i64 cx, .int .i64 cy, .int .i64 bx, .int .i64 b2] 32)).alloc (.cells #[.int .i64 px, .int .i64 py] 24)).cell? ⟨w.heap.size + 1, 2, none⟩ = some (.int .i64 bx) := (((Below.refl (w.heap.size + 1 + 1) ((w.alloc (.cells #[.int .i64 s, .int .u8 k, .int .i64 x, .int .i64 y, .int .i64 v, .int .i64 b, .int .i64 wt, .int .i64 t] 26)).alloc (.cells #[.int .i64 cx, .int .i64 cy, .int .i64 bx, .int .i64 b2] 32))).alloc (by simp; try omega) (.cells #[.int .i64 px, .int .i64 py] 24)).cell (p := ⟨w.heap.size + 1, 2, none⟩) (by simp; try omega)).trans (by rw [World.cell?_alloc_at _ _ _ _ (by simp)]; rfl)
          have c0_1_3 : (((w.alloc (.cells #[.int .i64 s, .int .u8 k, .int .i64 x, .int .i64 y, .int .i64 v, .int .i64 b, .int .i64 wt, .int .i64 t] 26)).alloc (.cells #[.int .i64 cx, .int .i64 cy, .int .i64 bx, .int .i64 b2] 32)).alloc (.cells #[.int .i64 px, .int .i64 py] 24)).cell? ⟨w.heap.size + 1, 3, none⟩ = some (.int .i64 b2) := (((Below.refl (w.heap.size + 1 + 1) ((w.alloc (.cells #[.int .i64 s, .int .u8 k, .int .i64 x, .int .i64 y, .int .i64 v, .int .i64 b, .int .i64 wt, .int .i64 t] 26)).alloc (.cells #[.int .i64 cx, .int .i64 cy, .int .i64 bx, .int .i64 b2] 32))).alloc (by simp; try omega) (.cells #[.int .i64 px, .int .i64 py] 24)).cell (p := ⟨w.heap.size + 1, 3, none⟩) (by simp; try omega)).trans (by rw [World.cell?_alloc_at _ _ _ _ (by simp)]; rfl)
          have c0_2_0 : (((w.alloc (.cells #[.int .i64 s, .int .u8 k, .int .i64 x, .int .i64 y, .int .i64 v, .int .i64 b, .int .i64 wt, .int .i64 t] 26)).alloc (.cells #[.int .i64 cx, .int .i64 cy, .int .i64 bx, .int .i64 b2] 32)).alloc (.cells #[.int .i64 px, .int .i64 py] 24)).cell? ⟨w.heap.size + 1 + 1, 0, none⟩ = some (.int .i64 px) := by rw [World.cell?_alloc_at _ _ _ _ (by simp)]; rfl
          have c0_2_1 : (((w.alloc (.cells #[.int .i64 s, .int .u8 k, .int .i64 x, .int .i64 y, .int .i64 v, .int .i64 b, .int .i64 wt, .int .i64 t] 26)).alloc (.cells #[.int .i64 cx, .int .i64 cy, .int .i64 bx, .int .i64 b2] 32)).alloc (.cells #[.int .i64 px, .int .i64 py] 24)).cell? ⟨w.heap.size + 1 + 1, 1, none⟩ = some (.int .i64 py) := by rw [World.cell?_alloc_at _ _ _ _ (by simp)]; rfl
          have z0_0 : w.heap.size < (((w.alloc (.cells #[.int .i64 s, .int .u8 k, .int .i64 x, .int .i64 y, .int .i64 v, .int .i64 b, .int .i64 wt, .int .i64 t] 26)).alloc (.cells #[.int .i64 cx, .int .i64 cy, .int .i64 bx, .int .i64 b2] 32)).alloc (.cells #[.int .i64 px, .int .i64 py] 24)).heap.size := by simp; try omega
          have z0_1 : w.heap.size + 1 < (((w.alloc (.cells #[.int .i64 s, .int .u8 k, .int .i64 x, .int .i64 y, .int .i64 v, .int .i64 b, .int .i64 wt, .int .i64 t] 26)).alloc (.cells #[.int .i64 cx, .int .i64 cy, .int .i64 bx, .int .i64 b2] 32)).alloc (.cells #[.int .i64 px, .int .i64 py] 24)).heap.size := by simp; try omega
          have z0_2 : w.heap.size + 1 + 1 < (((w.alloc (.cells #[.int .i64 s, .int .u8 k, .int .i64 x, .int .i64 y, .int .i64 v, .int .i64 b, .int .i64 wt, .int .i64 t] 26)).alloc (.cells #[.int .i64 cx, .int .i64 cy, .int .i64 bx, .int .i64 b2] 32)).alloc (.cells #[.int .i64 px, .int .i64 py] 24)).heap.size := by simp; try omega
          have hw0 := Lib.hid ((((Below.refl w.heap.size w).alloc (by simp; try omega) (.cells #[.int .i64 s, .int .u8 k, .int .i64 x, .int .i64 y, .int .i64 v, .int .i64 b, .int .i64 wt, .int .i64 t] 26)).alloc (by simp; try omega) (.cells #[.int .i64 cx, .int .i64 cy, .int .i64 bx, .int .i64 b2] 32)).alloc (by simp; try omega) (.cells #[.int .i64 px, .int .i64 py] 24))
          generalize hW0 : (((w.alloc (.cells #[.int .i64 s, .int .u8 k, .int .i64 x, .int .i64 y, .int .i64 v, .int .i64 b, .int .i64 wt, .int .i64 t] 26)).alloc (.cells #[.int .i64 cx, .int .i64 cy, .int .i64 bx, .int .i64 b2] 32)).alloc (.cells #[.int .i64 px, .int .i64 py] 24)) = w0 at *
          clear hW0
          refine (awake_any _ (HE.out.below hw0.out)).mono ?_
          rintro e w1 ⟨rfl, hb1⟩
          have c1_0_0 := (hb1.cell (p := ⟨w.heap.size, 0, none⟩) z0_0).trans c0_0_0
          have c1_0_1 := (hb1.cell (p := ⟨w.heap.size, 1, none⟩) z0_0).trans c0_0_1
          have c1_0_2 := (hb1.cell (p := ⟨w.heap.size, 2, none⟩) z0_0).trans c0_0_2
          have c1_0_3 := (hb1.cell (p := ⟨w.heap.size, 3, none⟩) z0_0).trans c0_0_3
          have c1_0_4 := (hb1.cell (p := ⟨w.heap.size, 4, none⟩) z0_0).trans c0_0_4
          have c1_0_5 := (hb1.cell (p := ⟨w.heap.size, 5, none⟩) z0_0).trans c0_0_5
          have c1_0_6 := (hb1.cell (p := ⟨w.heap.size, 6, none⟩) z0_0).trans c0_0_6
          have c1_0_7 := (hb1.cell (p := ⟨w.heap.size, 7, none⟩) z0_0).trans c0_0_7
          have c1_1_0 := (hb1.cell (p := ⟨w.heap.size + 1, 0, none⟩) z0_1).trans c0_1_0
          have c1_1_1 := (hb1.cell (p := ⟨w.heap.size + 1, 1, none⟩) z0_1).trans c0_1_1
          have c1_1_2 := (hb1.cell (p := ⟨w.heap.size + 1, 2, none⟩) z0_1).trans c0_1_2
          have c1_1_3 := (hb1.cell (p := ⟨w.heap.size + 1, 3, none⟩) z0_1).trans c0_1_3
          have c1_2_0 := (hb1.cell (p := ⟨w.heap.size + 1 + 1, 0, none⟩) z0_2).trans c0_2_0
          have c1_2_1 := (hb1.cell (p := ⟨w.heap.size + 1 + 1, 1, none⟩) z0_2).trans c0_2_1
          have z1_0 : w.heap.size < w1.heap.size := Nat.lt_of_lt_of_le z0_0 hb1.size
          have z1_1 : w.heap.size + 1 < w1.heap.size := Nat.lt_of_lt_of_le z0_1 hb1.size
          have z1_2 : w.heap.size + 1 + 1 < w1.heap.size := Nat.lt_of_lt_of_le z0_2 hb1.size
          have hw1 := Lib.hid (hw0.out.trans (hb1.mono hw0.out.size))
          clear hb1 hw0 c0_0_0 c0_0_1 c0_0_2 c0_0_3 c0_0_4 c0_0_5 c0_0_6 c0_0_7 c0_1_0 c0_1_1 c0_1_2 c0_1_3 c0_2_0 c0_2_1 z0_0 z0_1 z0_2
          go_wp2_with fail
          refine (HR0.out _).mono ?_
          rintro e w2 ⟨u1, rfl, hr1, hb2⟩
          have c2_0_0 := (hb2.cell (p := ⟨w.heap.size, 0, none⟩) z1_0).trans c1_0_0
          have c2_0_1 := (hb2.cell (p := ⟨w.heap.size, 1, none⟩) z1_0).trans c1_0_1
          have c2_0_2 := (hb2.cell (p := ⟨w.heap.size, 2, none⟩) z1_0).trans c1_0_2
          have c2_0_3 := (hb2.cell (p := ⟨w.heap.size, 3, none⟩) z1_0).trans c1_0_3
          have c2_0_4 := (hb2.cell (p := ⟨w.heap.size, 4, none⟩) z1_0).trans c1_0_4
          have c2_0_5 := (hb2.cell (p := ⟨w.heap.size, 5, none⟩) z1_0).trans c1_0_5
          have c2_0_6 := (hb2.cell (p := ⟨w.heap.size, 6, none⟩) z1_0).trans c1_0_6
          have c2_0_7 := (hb2.cell (p := ⟨w.heap.size, 7, none⟩) z1_0).trans c1_0_7
          have c2_1_0 := (hb2.cell (p := ⟨w.heap.size + 1, 0, none⟩) z1_1).trans c1_1_0
          have c2_1_1 := (hb2.cell (p := ⟨w.heap.size + 1, 1, none⟩) z1_1).trans c1_1_1
          have c2_1_2 := (hb2.cell (p := ⟨w.heap.size + 1, 2, none⟩) z1_1).trans c1_1_2
          have c2_1_3 := (hb2.cell (p := ⟨w.heap.size + 1, 3, none⟩) z1_1).trans c1_1_3
          have c2_2_0 := (hb2.cell (p := ⟨w.heap.size + 1 + 1, 0, none⟩) z1_2).trans c1_2_0
          have c2_2_1 := (hb2.cell (p := ⟨w.heap.size + 1 + 1, 1, none⟩) z1_2).trans c1_2_1
          have z2_0 : w.heap.size < w2.heap.size := Nat.lt_of_lt_of_le z1_0 hb2.size
          have z2_1 : w.heap.size + 1 < w2.heap.size := Nat.lt_of_lt_of_le z1_1 hb2.size
          have z2_2 : w.heap.size + 1 + 1 < w2.heap.size := Nat.lt_of_lt_of_le z1_2 hb2.size
          have hw2 := Lib.hid (hw1.out.trans (hb2.mono hw1.out.size))
          clear hb2 hw1 c1_0_0 c1_0_1 c1_0_2 c1_0_3 c1_0_4 c1_0_5 c1_0_6 c1_0_7 c1_1_0 c1_1_1 c1_1_2 c1_1_3 c1_2_0 c1_2_1 z1_0 z1_1 z1_2
          have X1 := Lib.hid hr1
          clear hr1
          go_wp2_with fail
          refine (HG0.out _).mono ?_
          rintro e w3 ⟨rfl, hb3⟩
          have X2 := Lib.hid (X1.out.keep hb3)
          clear X1
          have c3_0_0 := (hb3.cell (p := ⟨w.heap.size, 0, none⟩) z2_0).trans c2_0_0
          have c3_0_1 := (hb3.cell (p := ⟨w.heap.size, 1, none⟩) z2_0).trans c2_0_1
          have c3_0_2 := (hb3.cell (p := ⟨w.heap.size, 2, none⟩) z2_0).trans c2_0_2
          have c3_0_3 := (hb3.cell (p := ⟨w.heap.size, 3, none⟩) z2_0).trans c2_0_3
          have c3_0_4 := (hb3.cell (p := ⟨w.heap.size, 4, none⟩) z2_0).trans c2_0_4
          have c3_0_5 := (hb3.cell (p := ⟨w.heap.size, 5, none⟩) z2_0).trans c2_0_5
          have c3_0_6 := (hb3.cell (p := ⟨w.heap.size, 6, none⟩) z2_0).trans c2_0_6
          have c3_0_7 := (hb3.cell (p := ⟨w.heap.size, 7, none⟩) z2_0).trans c2_0_7
          have c3_1_0 := (hb3.cell (p := ⟨w.heap.size + 1, 0, none⟩) z2_1).trans c2_1_0
          have c3_1_1 := (hb3.cell (p := ⟨w.heap.size + 1, 1, none⟩) z2_1).trans c2_1_1
          have c3_1_2 := (hb3.cell (p := ⟨w.heap.size + 1, 2, none⟩) z2_1).trans c2_1_2
          have c3_1_3 := (hb3.cell (p := ⟨w.heap.size + 1, 3, none⟩) z2_1).trans c2_1_3
          have c3_2_0 := (hb3.cell (p := ⟨w.heap.size + 1 + 1, 0, none⟩) z2_2).trans c2_2_0
          have c3_2_1 := (hb3.cell (p := ⟨w.heap.size + 1 + 1, 1, none⟩) z2_2).trans c2_2_1
          have z3_0 : w.heap.size < w3.heap.size := Nat.lt_of_lt_of_le z2_0 hb3.size
          have z3_1 : w.heap.size + 1 < w3.heap.size := Nat.lt_of_lt_of_le z2_1 hb3.size
          have z3_2 : w.heap.size + 1 + 1 < w3.heap.size := Nat.lt_of_lt_of_le z2_2 hb3.size
          have hw3 := Lib.hid (hw2.out.trans (hb3.mono hw2.out.size))
          clear hb3 hw2 c2_0_0 c2_0_1 c2_0_2 c2_0_3 c2_0_4 c2_0_5 c2_0_6 c2_0_7 c2_1_0 c2_1_1 c2_1_2 c2_1_3 c2_2_0 c2_2_1 z2_0 z2_1 z2_2
          go_wp2_with fail
          refine (HI0.out _).mono ?_
          rintro e w4 ⟨rfl, hb4⟩
          have X3 := Lib.hid (X2.out.keep hb4)
          clear X2
          have c4_0_0 := (hb4.cell (p := ⟨w.heap.size, 0, none⟩) z3_0).trans c3_0_0
          have c4_0_1 := (hb4.cell (p := ⟨w.heap.size, 1, none⟩) z3_0).trans c3_0_1
          have c4_0_2 := (hb4.cell (p := ⟨w.heap.size, 2, none⟩) z3_0).trans c3_0_2
          have c4_0_3 := (hb4.cell (p := ⟨w.heap.size, 3, none⟩) z3_0).trans c3_0_3
          have c4_0_4 := (hb4.cell (p := ⟨w.heap.size, 4, none⟩) z3_0).trans c3_0_4
          have c4_0_5 := (hb4.cell (p := ⟨w.heap.size, 5, none⟩) z3_0).trans c3_0_5
          have c4_0_6 := (hb4.cell (p := ⟨w.heap.size, 6, none⟩) z3_0).trans c3_0_6
          have c4_0_7 := (hb4.cell (p := ⟨w.heap.size, 7, none⟩) z3_0).trans c3_0_7
          have c4_1_0 := (hb4.cell (p := ⟨w.heap.size + 1, 0, none⟩) z3_1).trans c3_1_0
          have c4_1_1 := (hb4.cell (p := ⟨w.heap.size + 1, 1, none⟩) z3_1).trans c3_1_1
          have c4_1_2 := (hb4.cell (p := ⟨w.heap.size + 1, 2, none⟩) z3_1).trans c3_1_2
          have c4_1_3 := (hb4.cell (p := ⟨w.heap.size + 1, 3, none⟩) z3_1).trans c3_1_3
          have c4_2_0 := (hb4.cell (p := ⟨w.heap.size + 1 + 1, 0, none⟩) z3_2).trans c3_2_0
          have c4_2_1 := (hb4.cell (p := ⟨w.heap.size + 1 + 1, 1, none⟩) z3_2).trans c3_2_1
          have z4_0 : w.heap.size < w4.heap.size := Nat.lt_of_lt_of_le z3_0 hb4.size
          have z4_1 : w.heap.size + 1 < w4.heap.size := Nat.lt_of_lt_of_le z3_1 hb4.size
          have z4_2 : w.heap.size + 1 + 1 < w4.heap.size := Nat.lt_of_lt_of_le z3_2 hb4.size
          have hw4 := Lib.hid (hw3.out.trans (hb4.mono hw3.out.size))
          clear hb4 hw3 c3_0_0 c3_0_1 c3_0_2 c3_0_3 c3_0_4 c3_0_5 c3_0_6 c3_0_7 c3_1_0 c3_1_1 c3_1_2 c3_1_3 c3_2_0 c3_2_1 z3_0 z3_1 z3_2
          obtain ⟨k1, rfl, -, hk1, p0, p1, p2, p3, p4, p5, p6, p7, p8, p9, p10, p11⟩ := rows_two X3.out
          clear X3
          go_wp2_with fail
          go_loopw [43] (CeR w4 2) (fun i _ => 2 - (intOf i).toNat)
          case atStart => exact ⟨0, by omega, rfl, Below.refl _ _⟩
          case round =>
            obtain ⟨j, hj, rfl, hbw⟩ := hrel
            rcases (show j = 0 ∨ j = 1 ∨ j = 2 by omega) with rfl | rfl | rfl
            · have c0 := (hbw.cell (p := ⟨k1, 0, none⟩) hk1).trans p0
              have c1 := (hbw.cell (p := ⟨k1, 1, none⟩) hk1).trans p1
              have c2 := (hbw.cell (p := ⟨k1, 2, none⟩) hk1).trans p2
              have c3 := (hbw.cell (p := ⟨k1, 3, none⟩) hk1).trans p3
              have c4 := (hbw.cell (p := ⟨k1, 4, none⟩) hk1).trans p4
              have c5 := (hbw.cell (p := ⟨k1, 5, none⟩) hk1).trans p5
              have x0 := (hbw.cell (p := ⟨w.heap.size, 0, none⟩) z4_0).trans c4_0_0
              have x6 := (hbw.cell (p := ⟨w.heap.size, 6, none⟩) z4_0).trans c4_0_6
              have y0 := (hbw.cell (p := ⟨w.heap.size + 1 + 1, 0, none⟩) z4_2).trans c4_2_0
              have y1 := (hbw.cell (p := ⟨w.heap.size + 1 + 1, 1, none⟩) z4_2).trans c4_2_1
              have zz2 : w.heap.size + 1 + 1 < wr.heap.size := World.block_lt_of_cell? _ _ y0
              have zz0 : w.heap.size < wr.heap.size := World.block_lt_of_cell? _ _ x0
              have zzk : k1 < wr.heap.size := World.block_lt_of_cell? _ _ c0
              have HBW := Lib.hid hbw
              clear hbw
              have t1 : decide (d < a * px + b' * py - z) = false := by simp; omega
              have t2 : decide (d < -(a * px + b' * py - z)) = false := by simp; omega
              go_wp2
              go_roundw
              case rel => exact ⟨1, by omega, by go_num, HBW.out.alloc HBW.out.size _⟩
              case measure => simp [intOf]
            · have c0 := (hbw.cell (p := ⟨k1, 6, none⟩) hk1).trans p6
              have c1 := (hbw.cell (p := ⟨k1, 7, none⟩) hk1).trans p7
              have c2 := (hbw.cell (p := ⟨k1, 8, none⟩) hk1).trans p8
              have c3 := (hbw.cell (p := ⟨k1, 9, none⟩) hk1).trans p9
              have c4 := (hbw.cell (p := ⟨k1, 10, none⟩) hk1).trans p10
              have c5 := (hbw.cell (p := ⟨k1, 11, none⟩) hk1).trans p11
              have x0 := (hbw.cell (p := ⟨w.heap.size, 0, none⟩) z4_0).trans c4_0_0
              have x6 := (hbw.cell (p := ⟨w.heap.size, 6, none⟩) z4_0).trans c4_0_6
              have y0 := (hbw.cell (p := ⟨w.heap.size + 1 + 1, 0, none⟩) z4_2).trans c4_2_0
              have y1 := (hbw.cell (p := ⟨w.heap.size + 1 + 1, 1, none⟩) z4_2).trans c4_2_1
              have zz2 : w.heap.size + 1 + 1 < wr.heap.size := World.block_lt_of_cell? _ _ y0
              have zz0 : w.heap.size < wr.heap.size := World.block_lt_of_cell? _ _ x0
              have zzk : k1 < wr.heap.size := World.block_lt_of_cell? _ _ c0
              have HBW := Lib.hid hbw
              clear hbw
              have t1 : decide (d' < a' * px + b'' * py - z') = false := by simp; omega
              have t2 : decide (d' < -(a' * px + b'' * py - z')) = false := by simp; omega
              go_wp2
              go_roundw
              case rel => exact ⟨2, by omega, by go_num, HBW.out.alloc HBW.out.size _⟩
              case measure => simp [intOf]
            · have HBW := Lib.hid hbw
              clear hbw
              go_wp2
              go_ret
              exact ⟨rfl, hw4.out.trans (HBW.out.mono hw4.out.size)⟩
  · have hl : l = [] := by
      rcases hsm with ⟨_, h⟩ | ⟨h, _⟩
      · exact h
      · exact absurd h he
    subst hl
    have g1 : (en == 0) = false := by simpa using he
    have g2 : (en != 0) = true := by simpa using he
    clear he hsm hce G0 I0
    go_enter Tryd.func6, Tryd.ntmps6
    go_wp2_with fail
    have c0_0_0 : (((w.alloc (.cells #[.int .i64 s, .int .u8 k, .int .i64 x, .int .i64 y, .int .i64 v, .int .i64 b, .int .i64 wt, .int .i64 t] 26)).alloc (.cells #[.int .i64 cx, .int .i64 cy, .int .i64 bx, .int .i64 b2] 32)).alloc (.cells #[.int .i64 px, .int .i64 py] 24)).cell? ⟨w.heap.size, 0, none⟩ = some (.int .i64 s) := ((((Below.refl (w.heap.size + 1) (w.alloc (.cells #[.int .i64 s, .int .u8 k, .int .i64 x, .int .i64 y, .int .i64 v, .int .i64 b, .int .i64 wt, .int .i64 t] 26))).alloc (by simp; try omega) (.cells #[.int .i64 cx, .int .i64 cy, .int .i64 bx, .int .i64 b2] 32)).alloc (by simp; try omega) (.cells #[.int .i64 px, .int .i64 py] 24)).cell (p := ⟨w.heap.size, 0, none⟩) (by simp; try omega)).trans (by rw [World.cell?_alloc_at _ _ _ _ (by simp)]; rfl)
    have c0_0_1 : (((w.alloc (.cells #[.int .i64 s, .int .u8 k, .int .i64 x, .int .i64 y, .int .i64 v, .int .i64 b, .int .i64 wt, .int .i64 t] 26)).alloc (.cells #[.int .i64 cx, .int .i64 cy, .int .i64 bx, .int .i64 b2] 32)).alloc (.cells #[.int .i64 px, .int .i64 py] 24)).cell? ⟨w.heap.size, 1, none⟩ = some (.int .u8 k) := ((((Below.refl (w.heap.size + 1) (w.alloc (.cells #[.int .i64 s, .int .u8 k, .int .i64 x, .int .i64 y, .int .i64 v, .int .i64 b, .int .i64 wt, .int .i64 t] 26))).alloc (by simp; try omega) (.cells #[.int .i64 cx, .int .i64 cy, .int .i64 bx, .int .i64 b2] 32)).alloc (by simp; try omega) (.cells #[.int .i64 px, .int .i64 py] 24)).cell (p := ⟨w.heap.size, 1, none⟩) (by simp; try omega)).trans (by rw [World.cell?_alloc_at _ _ _ _ (by simp)]; rfl)
    have c0_0_2 : (((w.alloc (.cells #[.int .i64 s, .int .u8 k, .int .i64 x, .int .i64 y, .int .i64 v, .int .i64 b, .int .i64 wt, .int .i64 t] 26)).alloc (.cells #[.int .i64 cx, .int .i64 cy, .int .i64 bx, .int .i64 b2] 32)).alloc (.cells #[.int .i64 px, .int .i64 py] 24)).cell? ⟨w.heap.size, 2, none⟩ = some (.int .i64 x) := ((((Below.refl (w.heap.size + 1) (w.alloc (.cells #[.int .i64 s, .int .u8 k, .int .i64 x, .int .i64 y, .int .i64 v, .int .i64 b, .int .i64 wt, .int .i64 t] 26))).alloc (by simp; try omega) (.cells #[.int .i64 cx, .int .i64 cy, .int .i64 bx, .int .i64 b2] 32)).alloc (by simp; try omega) (.cells #[.int .i64 px, .int .i64 py] 24)).cell (p := ⟨w.heap.size, 2, none⟩) (by simp; try omega)).trans (by rw [World.cell?_alloc_at _ _ _ _ (by simp)]; rfl)
    have c0_0_3 : (((w.alloc (.cells #[.int .i64 s, .int .u8 k, .int .i64 x, .int .i64 y, .int .i64 v, .int .i64 b, .int .i64 wt, .int .i64 t] 26)).alloc (.cells #[.int .i64 cx, .int .i64 cy, .int .i64 bx, .int .i64 b2] 32)).alloc (.cells #[.int .i64 px, .int .i64 py] 24)).cell? ⟨w.heap.size, 3, none⟩ = some (.int .i64 y) := ((((Below.refl (w.heap.size + 1) (w.alloc (.cells #[.int .i64 s, .int .u8 k, .int .i64 x, .int .i64 y, .int .i64 v, .int .i64 b, .int .i64 wt, .int .i64 t] 26))).alloc (by simp; try omega) (.cells #[.int .i64 cx, .int .i64 cy, .int .i64 bx, .int .i64 b2] 32)).alloc (by simp; try omega) (.cells #[.int .i64 px, .int .i64 py] 24)).cell (p := ⟨w.heap.size, 3, none⟩) (by simp; try omega)).trans (by rw [World.cell?_alloc_at _ _ _ _ (by simp)]; rfl)
    have c0_0_4 : (((w.alloc (.cells #[.int .i64 s, .int .u8 k, .int .i64 x, .int .i64 y, .int .i64 v, .int .i64 b, .int .i64 wt, .int .i64 t] 26)).alloc (.cells #[.int .i64 cx, .int .i64 cy, .int .i64 bx, .int .i64 b2] 32)).alloc (.cells #[.int .i64 px, .int .i64 py] 24)).cell? ⟨w.heap.size, 4, none⟩ = some (.int .i64 v) := ((((Below.refl (w.heap.size + 1) (w.alloc (.cells #[.int .i64 s, .int .u8 k, .int .i64 x, .int .i64 y, .int .i64 v, .int .i64 b, .int .i64 wt, .int .i64 t] 26))).alloc (by simp; try omega) (.cells #[.int .i64 cx, .int .i64 cy, .int .i64 bx, .int .i64 b2] 32)).alloc (by simp; try omega) (.cells #[.int .i64 px, .int .i64 py] 24)).cell (p := ⟨w.heap.size, 4, none⟩) (by simp; try omega)).trans (by rw [World.cell?_alloc_at _ _ _ _ (by simp)]; rfl)
    have c0_0_5 : (((w.alloc (.cells #[.int .i64 s, .int .u8 k, .int .i64 x, .int .i64 y, .int .i64 v, .int .i64 b, .int .i64 wt, .int .i64 t] 26)).alloc (.cells #[.int .i64 cx, .int .i64 cy, .int .i64 bx, .int .i64 b2] 32)).alloc (.cells #[.int .i64 px, .int .i64 py] 24)).cell? ⟨w.heap.size, 5, none⟩ = some (.int .i64 b) := ((((Below.refl (w.heap.size + 1) (w.alloc (.cells #[.int .i64 s, .int .u8 k, .int .i64 x, .int .i64 y, .int .i64 v, .int .i64 b, .int .i64 wt, .int .i64 t] 26))).alloc (by simp; try omega) (.cells #[.int .i64 cx, .int .i64 cy, .int .i64 bx, .int .i64 b2] 32)).alloc (by simp; try omega) (.cells #[.int .i64 px, .int .i64 py] 24)).cell (p := ⟨w.heap.size, 5, none⟩) (by simp; try omega)).trans (by rw [World.cell?_alloc_at _ _ _ _ (by simp)]; rfl)
    have c0_0_6 : (((w.alloc (.cells #[.int .i64 s, .int .u8 k, .int .i64 x, .int .i64 y, .int .i64 v, .int .i64 b, .int .i64 wt, .int .i64 t] 26)).alloc (.cells #[.int .i64 cx, .int .i64 cy, .int .i64 bx, .int .i64 b2] 32)).alloc (.cells #[.int .i64 px, .int .i64 py] 24)).cell? ⟨w.heap.size, 6, none⟩ = some (.int .i64 wt) := ((((Below.refl (w.heap.size + 1) (w.alloc (.cells #[.int .i64 s, .int .u8 k, .int .i64 x, .int .i64 y, .int .i64 v, .int .i64 b, .int .i64 wt, .int .i64 t] 26))).alloc (by simp; try omega) (.cells #[.int .i64 cx, .int .i64 cy, .int .i64 bx, .int .i64 b2] 32)).alloc (by simp; try omega) (.cells #[.int .i64 px, .int .i64 py] 24)).cell (p := ⟨w.heap.size, 6, none⟩) (by simp; try omega)).trans (by rw [World.cell?_alloc_at _ _ _ _ (by simp)]; rfl)
    have c0_0_7 : (((w.alloc (.cells #[.int .i64 s, .int .u8 k, .int .i64 x, .int .i64 y, .int .i64 v, .int .i64 b, .int .i64 wt, .int .i64 t] 26)).alloc (.cells #[.int .i64 cx, .int .i64 cy, .int .i64 bx, .int .i64 b2] 32)).alloc (.cells #[.int .i64 px, .int .i64 py] 24)).cell? ⟨w.heap.size, 7, none⟩ = some (.int .i64 t) := ((((Below.refl (w.heap.size + 1) (w.alloc (.cells #[.int .i64 s, .int .u8 k, .int .i64 x, .int .i64 y, .int .i64 v, .int .i64 b, .int .i64 wt, .int .i64 t] 26))).alloc (by simp; try omega) (.cells #[.int .i64 cx, .int .i64 cy, .int .i64 bx, .int .i64 b2] 32)).alloc (by simp; try omega) (.cells #[.int .i64 px, .int .i64 py] 24)).cell (p := ⟨w.heap.size, 7, none⟩) (by simp; try omega)).trans (by rw [World.cell?_alloc_at _ _ _ _ (by simp)]; rfl)
    have c0_1_0 : (((w.alloc (.cells #[.int .i64 s, .int .u8 k, .int .i64 x, .int .i64 y, .int .i64 v, .int .i64 b, .int .i64 wt, .int .i64 t] 26)).alloc (.cells #[.int .i64 cx, .int .i64 cy, .int .i64 bx, .int .i64 b2] 32)).alloc (.cells #[.int .i64 px, .int .i64 py] 24)).cell? ⟨w.heap.size + 1, 0, none⟩ = some (.int .i64 cx) := (((Below.refl (w.heap.size + 1 + 1) ((w.alloc (.cells #[.int .i64 s, .int .u8 k, .int .i64 x, .int .i64 y, .int .i64 v, .int .i64 b, .int .i64 wt, .int .i64 t] 26)).alloc (.cells #[.int .i64 cx, .int .i64 cy, .int .i64 bx, .int .i64 b2] 32))).alloc (by simp; try omega) (.cells #[.int .i64 px, .int .i64 py] 24)).cell (p := ⟨w.heap.size + 1, 0, none⟩) (by simp; try omega)).trans (by rw [World.cell?_alloc_at _ _ _ _ (by simp)]; rfl)
    have c0_1_1 : (((w.alloc (.cells #[.int .i64 s, .int .u8 k, .int .i64 x, .int .i64 y, .int .i64 v, .int .i64 b, .int .i64 wt, .int .i64 t] 26)).alloc (.cells #[.int .i64 cx, .int .i64 cy, .int .i64 bx, .int .i64 b2] 32)).alloc (.cells #[.int .i64 px, .int .i64 py] 24)).cell? ⟨w.heap.size + 1, 1, none⟩ = some (.int .i64 cy) := (((Below.refl (w.heap.size + 1 + 1) ((w.alloc (.cells #[.int .i64 s, .int .u8 k, .int .i64 x, .int .i64 y, .int .i64 v, .int .i64 b, .int .i64 wt, .int .i64 t] 26)).alloc (.cells #[.int .i64 cx, .int .i64 cy, .int .i64 bx, .int .i64 b2] 32))).alloc (by simp; try omega) (.cells #[.int .i64 px, .int .i64 py] 24)).cell (p := ⟨w.heap.size + 1, 1, none⟩) (by simp; try omega)).trans (by rw [World.cell?_alloc_at _ _ _ _ (by simp)]; rfl)
    have c0_1_2 : (((w.alloc (.cells #[.int .i64 s, .int .u8 k, .int .i64 x, .int .i64 y, .int .i64 v, .int .i64 b, .int .i64 wt, .int .i64 t] 26)).alloc (.cells #[.int .i64 cx, .int .i64 cy, .int .i64 bx, .int .i64 b2] 32)).alloc (.cells #[.int .i64 px, .int .i64 py] 24)).cell? ⟨w.heap.size + 1, 2, none⟩ = some (.int .i64 bx) := (((Below.refl (w.heap.size + 1 + 1) ((w.alloc (.cells #[.int .i64 s, .int .u8 k, .int .i64 x, .int .i64 y, .int .i64 v, .int .i64 b, .int .i64 wt, .int .i64 t] 26)).alloc (.cells #[.int .i64 cx, .int .i64 cy, .int .i64 bx, .int .i64 b2] 32))).alloc (by simp; try omega) (.cells #[.int .i64 px, .int .i64 py] 24)).cell (p := ⟨w.heap.size + 1, 2, none⟩) (by simp; try omega)).trans (by rw [World.cell?_alloc_at _ _ _ _ (by simp)]; rfl)
    have c0_1_3 : (((w.alloc (.cells #[.int .i64 s, .int .u8 k, .int .i64 x, .int .i64 y, .int .i64 v, .int .i64 b, .int .i64 wt, .int .i64 t] 26)).alloc (.cells #[.int .i64 cx, .int .i64 cy, .int .i64 bx, .int .i64 b2] 32)).alloc (.cells #[.int .i64 px, .int .i64 py] 24)).cell? ⟨w.heap.size + 1, 3, none⟩ = some (.int .i64 b2) := (((Below.refl (w.heap.size + 1 + 1) ((w.alloc (.cells #[.int .i64 s, .int .u8 k, .int .i64 x, .int .i64 y, .int .i64 v, .int .i64 b, .int .i64 wt, .int .i64 t] 26)).alloc (.cells #[.int .i64 cx, .int .i64 cy, .int .i64 bx, .int .i64 b2] 32))).alloc (by simp; try omega) (.cells #[.int .i64 px, .int .i64 py] 24)).cell (p := ⟨w.heap.size + 1, 3, none⟩) (by simp; try omega)).trans (by rw [World.cell?_alloc_at _ _ _ _ (by simp)]; rfl)
    have c0_2_0 : (((w.alloc (.cells #[.int .i64 s, .int .u8 k, .int .i64 x, .int .i64 y, .int .i64 v, .int .i64 b, .int .i64 wt, .int .i64 t] 26)).alloc (.cells #[.int .i64 cx, .int .i64 cy, .int .i64 bx, .int .i64 b2] 32)).alloc (.cells #[.int .i64 px, .int .i64 py] 24)).cell? ⟨w.heap.size + 1 + 1, 0, none⟩ = some (.int .i64 px) := by rw [World.cell?_alloc_at _ _ _ _ (by simp)]; rfl
    have c0_2_1 : (((w.alloc (.cells #[.int .i64 s, .int .u8 k, .int .i64 x, .int .i64 y, .int .i64 v, .int .i64 b, .int .i64 wt, .int .i64 t] 26)).alloc (.cells #[.int .i64 cx, .int .i64 cy, .int .i64 bx, .int .i64 b2] 32)).alloc (.cells #[.int .i64 px, .int .i64 py] 24)).cell? ⟨w.heap.size + 1 + 1, 1, none⟩ = some (.int .i64 py) := by rw [World.cell?_alloc_at _ _ _ _ (by simp)]; rfl
    have z0_0 : w.heap.size < (((w.alloc (.cells #[.int .i64 s, .int .u8 k, .int .i64 x, .int .i64 y, .int .i64 v, .int .i64 b, .int .i64 wt, .int .i64 t] 26)).alloc (.cells #[.int .i64 cx, .int .i64 cy, .int .i64 bx, .int .i64 b2] 32)).alloc (.cells #[.int .i64 px, .int .i64 py] 24)).heap.size := by simp; try omega
    have z0_1 : w.heap.size + 1 < (((w.alloc (.cells #[.int .i64 s, .int .u8 k, .int .i64 x, .int .i64 y, .int .i64 v, .int .i64 b, .int .i64 wt, .int .i64 t] 26)).alloc (.cells #[.int .i64 cx, .int .i64 cy, .int .i64 bx, .int .i64 b2] 32)).alloc (.cells #[.int .i64 px, .int .i64 py] 24)).heap.size := by simp; try omega
    have z0_2 : w.heap.size + 1 + 1 < (((w.alloc (.cells #[.int .i64 s, .int .u8 k, .int .i64 x, .int .i64 y, .int .i64 v, .int .i64 b, .int .i64 wt, .int .i64 t] 26)).alloc (.cells #[.int .i64 cx, .int .i64 cy, .int .i64 bx, .int .i64 b2] 32)).alloc (.cells #[.int .i64 px, .int .i64 py] 24)).heap.size := by simp; try omega
    have hw0 := Lib.hid ((((Below.refl w.heap.size w).alloc (by simp; try omega) (.cells #[.int .i64 s, .int .u8 k, .int .i64 x, .int .i64 y, .int .i64 v, .int .i64 b, .int .i64 wt, .int .i64 t] 26)).alloc (by simp; try omega) (.cells #[.int .i64 cx, .int .i64 cy, .int .i64 bx, .int .i64 b2] 32)).alloc (by simp; try omega) (.cells #[.int .i64 px, .int .i64 py] 24))
    generalize hW0 : (((w.alloc (.cells #[.int .i64 s, .int .u8 k, .int .i64 x, .int .i64 y, .int .i64 v, .int .i64 b, .int .i64 wt, .int .i64 t] 26)).alloc (.cells #[.int .i64 cx, .int .i64 cy, .int .i64 bx, .int .i64 b2] 32)).alloc (.cells #[.int .i64 px, .int .i64 py] 24)) = w0 at *
    clear hW0
    refine (awake_any _ (HE.out.below hw0.out)).mono ?_
    rintro e w1 ⟨rfl, hb1⟩
    have c1_0_0 := (hb1.cell (p := ⟨w.heap.size, 0, none⟩) z0_0).trans c0_0_0
    have c1_0_1 := (hb1.cell (p := ⟨w.heap.size, 1, none⟩) z0_0).trans c0_0_1
    have c1_0_2 := (hb1.cell (p := ⟨w.heap.size, 2, none⟩) z0_0).trans c0_0_2
    have c1_0_3 := (hb1.cell (p := ⟨w.heap.size, 3, none⟩) z0_0).trans c0_0_3
    have c1_0_4 := (hb1.cell (p := ⟨w.heap.size, 4, none⟩) z0_0).trans c0_0_4
    have c1_0_5 := (hb1.cell (p := ⟨w.heap.size, 5, none⟩) z0_0).trans c0_0_5
    have c1_0_6 := (hb1.cell (p := ⟨w.heap.size, 6, none⟩) z0_0).trans c0_0_6
    have c1_0_7 := (hb1.cell (p := ⟨w.heap.size, 7, none⟩) z0_0).trans c0_0_7
    have c1_1_0 := (hb1.cell (p := ⟨w.heap.size + 1, 0, none⟩) z0_1).trans c0_1_0
    have c1_1_1 := (hb1.cell (p := ⟨w.heap.size + 1, 1, none⟩) z0_1).trans c0_1_1
    have c1_1_2 := (hb1.cell (p := ⟨w.heap.size + 1, 2, none⟩) z0_1).trans c0_1_2
    have c1_1_3 := (hb1.cell (p := ⟨w.heap.size + 1, 3, none⟩) z0_1).trans c0_1_3
    have c1_2_0 := (hb1.cell (p := ⟨w.heap.size + 1 + 1, 0, none⟩) z0_2).trans c0_2_0
    have c1_2_1 := (hb1.cell (p := ⟨w.heap.size + 1 + 1, 1, none⟩) z0_2).trans c0_2_1
    have z1_0 : w.heap.size < w1.heap.size := Nat.lt_of_lt_of_le z0_0 hb1.size
    have z1_1 : w.heap.size + 1 < w1.heap.size := Nat.lt_of_lt_of_le z0_1 hb1.size
    have z1_2 : w.heap.size + 1 + 1 < w1.heap.size := Nat.lt_of_lt_of_le z0_2 hb1.size
    have hw1 := Lib.hid (hw0.out.trans (hb1.mono hw0.out.size))
    clear hb1 hw0 c0_0_0 c0_0_1 c0_0_2 c0_0_3 c0_0_4 c0_0_5 c0_0_6 c0_0_7 c0_1_0 c0_1_1 c0_1_2 c0_1_3 c0_2_0 c0_2_1 z0_0 z0_1 z0_2
    go_wp2_with fail
    refine (HR0.out _).mono ?_
    rintro e w2 ⟨u1, rfl, hr1, hb2⟩
    have c2_0_0 := (hb2.cell (p := ⟨w.heap.size, 0, none⟩) z1_0).trans c1_0_0
    have c2_0_1 := (hb2.cell (p := ⟨w.heap.size, 1, none⟩) z1_0).trans c1_0_1
    have c2_0_2 := (hb2.cell (p := ⟨w.heap.size, 2, none⟩) z1_0).trans c1_0_2
    have c2_0_3 := (hb2.cell (p := ⟨w.heap.size, 3, none⟩) z1_0).trans c1_0_3
    have c2_0_4 := (hb2.cell (p := ⟨w.heap.size, 4, none⟩) z1_0).trans c1_0_4
    have c2_0_5 := (hb2.cell (p := ⟨w.heap.size, 5, none⟩) z1_0).trans c1_0_5
    have c2_0_6 := (hb2.cell (p := ⟨w.heap.size, 6, none⟩) z1_0).trans c1_0_6
    have c2_0_7 := (hb2.cell (p := ⟨w.heap.size, 7, none⟩) z1_0).trans c1_0_7
    have c2_1_0 := (hb2.cell (p := ⟨w.heap.size + 1, 0, none⟩) z1_1).trans c1_1_0
    have c2_1_1 := (hb2.cell (p := ⟨w.heap.size + 1, 1, none⟩) z1_1).trans c1_1_1
    have c2_1_2 := (hb2.cell (p := ⟨w.heap.size + 1, 2, none⟩) z1_1).trans c1_1_2
    have c2_1_3 := (hb2.cell (p := ⟨w.heap.size + 1, 3, none⟩) z1_1).trans c1_1_3
    have c2_2_0 := (hb2.cell (p := ⟨w.heap.size + 1 + 1, 0, none⟩) z1_2).trans c1_2_0
    have c2_2_1 := (hb2.cell (p := ⟨w.heap.size + 1 + 1, 1, none⟩) z1_2).trans c1_2_1
    have z2_0 : w.heap.size < w2.heap.size := Nat.lt_of_lt_of_le z1_0 hb2.size
    have z2_1 : w.heap.size + 1 < w2.heap.size := Nat.lt_of_lt_of_le z1_1 hb2.size
    have z2_2 : w.heap.size + 1 + 1 < w2.heap.size := Nat.lt_of_lt_of_le z1_2 hb2.size
    have hw2 := Lib.hid (hw1.out.trans (hb2.mono hw1.out.size))
    clear hb2 hw1 c1_0_0 c1_0_1 c1_0_2 c1_0_3 c1_0_4 c1_0_5 c1_0_6 c1_0_7 c1_1_0 c1_1_1 c1_1_2 c1_1_3 c1_2_0 c1_2_1 z1_0 z1_1 z1_2
    have hu1 : u1 = .slice none 0 0 := by rcases hr1 with ⟨_, h⟩ | ⟨_, h, _⟩; exact h; exact absurd rfl h
    subst hu1
    clear hr1
    go_wp2
    go_ret
    exact ⟨rfl, hw2.out⟩
/-! ### the row's step -/
set_option maxRecDepth 100000 in
theorem contract (H : Type) (enc : TypeId × Value → H) (W : World) (base : Nat) (args : Array Value) (ds gs : List (DataW H)) (before : List MemPlace)
    (hval : ∀ (j : Nat) t v, Tryd.f6.params[j]? = some t → args[j]? = some v → Value.okWide Tryd.prog W .any base t v)
    (hW : DataW.Whole enc Tryd.prog Tryd.f6.params.toList Rows.sensorCertifiedSpec.vars false W args.toList ds gs before) (hL : laidMetH Tryd.prog Rows.sensorCertifiedRow.laid W) (hsh : W.ShapedOpen Tryd.prog) :
    Calls Tryd.prog 6 args W fun e W' => ∃ v, e = .returned v ∧ Rows.sensorCertifiedSpec.post enc Tryd.prog Tryd.f6 false true false false W args v W' := by
  have hW' := hW
  obtain ⟨p, q, hA0, hV, rfl, hfz, hnd⟩ := hW
  have hA : DataW.TrodAll enc Tryd.prog W 0 (fun _ => true) true Tryd.f6.params.toList args.toList ds p := hA0
  rw [Tryd.params6] at hA hval
  obtain ⟨v0, vs0, d0, ds0, p0, q0, hargs, rfl, rfl, h0, r0⟩ := trodAll_cons hA
  obtain ⟨v1, vs1, d1, ds1, p1, q1, rfl, rfl, rfl, h1, r1⟩ := trodAll_cons r0
  obtain ⟨v2, vs2, d2, ds2, p2, q2, rfl, rfl, rfl, h2, r2⟩ := trodAll_cons r1
  obtain ⟨rfl, rfl, rfl⟩ := trodAll_nil r2
  obtain rfl : args = #[v0, v1, v2] := by cases args; simp_all
  obtain ⟨rfl, rfl⟩ := trodVars_none hV
  obtain ⟨x0_0, x0_1, x0_2, x0_3, x0_4, x0_5, x0_6, x0_7, rfl, rfl, rfl, w0_0, w0_1, w0_2, w0_3, w0_4, w0_5, w0_6, w0_7⟩ := open_report (hval 0 26 v0 rfl rfl) h0
  obtain ⟨x1_0, x1_1, x1_2, x1_3, rfl, rfl, rfl, w1_0, w1_1, w1_2, w1_3⟩ := open_box (hval 1 32 v1 rfl rfl) h1
  obtain ⟨x2_0, x2_1, rfl, rfl, rfl, w2_0, w2_1⟩ := open_point (hval 2 24 v2 rfl rfl) h2
  clear hA0
  simp only [List.append_nil] at hW'
  refine (walk x0_0 x0_1 x0_2 x0_3 x0_4 x0_5 x0_6 x0_7 x1_0 x1_1 x1_2 x1_3 x2_0 x2_1 (bd64 w0_0).1 (bd64 w0_0).2 (bd8 w0_1).1 (bd8 w0_1).2 (bd64 w0_2).1 (bd64 w0_2).2 (bd64 w0_3).1 (bd64 w0_3).2 (bd64 w0_4).1 (bd64 w0_4).2 (bd64 w0_5).1 (bd64 w0_5).2 (bd64 w0_6).1 (bd64 w0_6).2 (bd64 w0_7).1 (bd64 w0_7).2 (bd64 w1_0).1 (bd64 w1_0).2 (bd64 w1_1).1 (bd64 w1_1).2 (bd64 w1_2).1 (bd64 w1_2).2 (bd64 w1_3).1 (bd64 w1_3).2 (bd64 w2_0).1 (bd64 w2_0).2 (bd64 w2_1).1 (bd64 w2_1).2 W (env_of hL hsh)).mono fun e W' ⟨he, hb⟩ => ?_
  subst he
  exact ⟨_, rfl, post_of_below (pa := []) (pv := []) hW' (fun _ _ _ => trodAll_cons_mk (shut_bool Tryd.underlying4 _) trodAll_mk0) (fun sp _ => (trodAll_cons_mk (shut_report w0_0 w0_1 w0_2 w0_3 w0_4 w0_5 w0_6 w0_7) (trodAll_cons_mk (shut_box w1_0 w1_1 w1_2 w1_3) (trodAll_cons_mk (shut_point w2_0 w2_1) trodAll_mk0)))) (fun _ _ => rfl) rfl
    hb (ok_one (by kernel_rfl) rfl (okWide_bool_mk Tryd.underlying4 _))⟩

theorem reads (os : Os) {H : Type} (enc : TypeId × Value → H) : ∃ places, DataW.whole enc Tryd.prog ((laidWorld os).forCall (fun _ _ => 0) ⟨#[], #[.agg #[.int .i64 0, .int .u8 0, .int .i64 0, .int .i64 0, .int .i64 0, .int .i64 0, .int .i64 0, .int .i64 0], .agg #[.int .i64 0, .int .i64 0, .int .i64 0, .int .i64 0], .agg #[.int .i64 0, .int .i64 0]], []⟩).memory Tryd.f6.params.toList Rows.sensorCertifiedSpec.vars false (#[.agg #[.int .i64 0, .int .u8 0, .int .i64 0, .int .i64 0, .int .i64 0, .int .i64 0, .int .i64 0, .int .i64 0], .agg #[.int .i64 0, .int .i64 0, .int .i64 0, .int .i64 0], .agg #[.int .i64 0, .int .i64 0]] : Array Value).toList 8 = some ([.agg [.lit (.int .i64 0), .lit (.int .u8 0), .agg [.lit (.int .i64 0), .lit (.int .i64 0)], .lit (.int .i64 0), .lit (.int .i64 0), .lit (.int .i64 0), .lit (.int .i64 0)], .agg [.agg [.lit (.int .i64 0), .lit (.int .i64 0)], .lit (.int .i64 0), .lit (.int .i64 0)], .agg [.lit (.int .i64 0), .lit (.int .i64 0)]], [], places) :=
  ⟨[], by kernel_rfl⟩

set_option maxRecDepth 100000 in
theorem lifted (os : Os) (started : os.Started) (H : Type) (enc : TypeId × Value → H) (F : Stop.Interp) :
    ReturnsInHanded {} Tryd.checked os 6 .any ((OpenSpec.ofChange Rows.sensorCertifiedSpec).preRow enc Tryd.prog Tryd.f6 Rows.sensorCertifiedRow.domain false Rows.sensorCertifiedRow.laid) (((OpenSpec.ofChange Rows.sensorCertifiedSpec).at F).post enc Tryd.prog Tryd.f6 false true false false) := by
  obtain ⟨places, hx⟩ := reads os enc
  refine returnsInHanded_of_row (C := Tryd.checked) (s := OpenSpec.ofChange Rows.sensorCertifiedSpec) own started (by kernel_rfl) Tryd.func6
    (witness_row_at (enc := enc) (C := Tryd.checked) false (laidWorld os) #[.agg #[.int .i64 0, .int .u8 0, .int .i64 0, .int .i64 0, .int .i64 0, .int .i64 0, .int .i64 0, .int .i64 0], .agg #[.int .i64 0, .int .i64 0, .int .i64 0, .int .i64 0], .agg #[.int .i64 0, .int .i64 0]] rfl (by kernel_rfl) (by kernel_rfl) (by kernel_rfl)
      (OpenSpec.preRow_of_cond 8 hx (by kernel_rfl) (fun k hk => by cases hk) (by kernel_rfl) (laid_met_any os _))) ?_
  intro W base args ds gs before hval hW _ _ _ hL hsh _
  exact contract H enc W base args ds gs before hval hW hL hsh

theorem said : Rows.SensorCertifiedSaid :=
  OpenClaim.holds_of_cond 6 Tryd.f6 rfl rfl rfl rfl rfl rfl rfl ⟨rfl, rfl, rfl, rfl, rfl⟩ rfl rfl rfl rfl rfl (by kernel_rfl) Tryd.func6 (by kernel_rfl)
    (of_decide_eq_true (by kernel_rfl)) (by unfold Func.isWrapper; first | (rw [if_pos (by decide +kernel)]; kernel_rfl) | (rw [if_neg (by decide +kernel)]; exact ⟨rfl, rfl⟩))
    (fun os started H enc _ F => by rw [OpenClaim.pre_eq_preRow]; exact lifted os started H enc F)

theorem plain (f : FuncId) (fn : Func) (hf : Tryd.pinned.checked.prog.funcNamed "flightdeck/flightdecklaw41.SensorCertified" = some f) (hfn : Tryd.pinned.checked.prog.funcs[f]? = some fn) :
    false = Tryd.pinned.checked.prog.looks [] ∧ ∀ (j : Nat) t, fn.params[j]? = some t → Tryd.pinned.checked.prog.wantsStandIn t = false := by
  obtain rfl : f = 6 := Option.some.inj ((show Tryd.prog.funcNamed "flightdeck/flightdecklaw41.SensorCertified" = some 6 by kernel_rfl).symm.trans hf) |>.symm
  obtain rfl : fn = Tryd.f6 := (Option.some.inj (Tryd.func6.symm.trans hfn)).symm
  refine ⟨by kernel_rfl, fun j t ht => ?_⟩
  rw [Tryd.params6] at ht
  have hm := Array.mem_of_getElem? ht
  simp only [List.mem_toArray, List.mem_cons, List.not_mem_nil, or_false] at hm
  rcases hm with rfl | rfl | rfl
  · exact (show Tryd.prog.wantsStandIn 26 = false by kernel_rfl)
  · exact (show Tryd.prog.wantsStandIn 32 = false by kernel_rfl)
  · exact (show Tryd.prog.wantsStandIn 24 = false by kernel_rfl)
/-- the law -/
theorem card : Rows.SensorCertifiedCardSaid :=
  Claim7.holds_tied_plain_at .later [] _ _ _ _ said (fun _ h => by cases h) (by kernel_rfl) (fun _ h => by cases h) sensorCertified_row_tie rfl ⟨rfl, rfl⟩ (by kernel_rfl) rfl plain (by kernel_rfl)
end Go.Proofs.YtnnafjmfbnnnjaaDoor.sensorCertified
