/-
  The law SensorMoves holds for every input: an aged report agrees with every point that is near enough to one with which the report agreed. No condition.
-/
import Derived.Test.YtnnafjmfbnnnjaaDoorStructs41
import Derived.Test.YtnnafjmfbnnnjaaDoorAwake41
import Derived.Test.YtnnafjmfbnnnjaaDoorAged
import Derived.Lib.QuietBelow
import Derived.Test.YtnnafjmfbnnnjaaDoorMovesPlain
import Derived.Deep.QuietTactic
import Derived.BigQuiet
namespace Go.Proofs.YtnnafjmfbnnnjaaDoor.sensorMoves
set_option linter.unusedVariables false
open Go.ChangeShapes Go.WideShapes Go.ChangeAt Go.RowKit Tr Sq

set_option maxHeartbeats 8000000 in
set_option maxRecDepth 100000 in
theorem walk (s k x y v b wt t p q p1 q1 m0 m1 : Int) (s_a : -9223372036854775808 ≤ s) (s_b : s ≤ 9223372036854775807) (k_a : 0 ≤ k) (k_b : k ≤ 255) (x_a : -9223372036854775808 ≤ x) (x_b : x ≤ 9223372036854775807) (y_a : -9223372036854775808 ≤ y) (y_b : y ≤ 9223372036854775807) (v_a : -9223372036854775808 ≤ v) (v_b : v ≤ 9223372036854775807) (b_a : -9223372036854775808 ≤ b) (b_b : b ≤ 9223372036854775807) (wt_a : -9223372036854775808 ≤ wt) (wt_b : wt ≤ 9223372036854775807) (t_a : -9223372036854775808 ≤ t) (t_b : t ≤ 9223372036854775807) (p_a : -9223372036854775808 ≤ p) (p_b : p ≤ 9223372036854775807) (q_a : -9223372036854775808 ≤ q) (q_b : q ≤ 9223372036854775807) (p1_a : -9223372036854775808 ≤ p1) (p1_b : p1 ≤ 9223372036854775807) (q1_a : -9223372036854775808 ≤ q1) (q1_b : q1 ≤ 9223372036854775807) (m0_a : -9223372036854775808 ≤ m0) (m0_b : m0 ≤ 9223372036854775807) (m1_a : -9223372036854775808 ≤ m1) (m1_b : m1 ≤ 9223372036854775807) (w : World) (hE : Env w) :
    Calls Tryd.prog 9 #[.agg #[.int .i64 s, .int .u8 k, .int .i64 x, .int .i64 y, .int .i64 v, .int .i64 b, .int .i64 wt, .int .i64 t], .agg #[.int .i64 p, .int .i64 q, .int .i64 p1, .int .i64 q1], .agg #[.int .i64 m0, .int .i64 m1]] w fun e w' => e = .returned (.bool true) ∧ Below w.heap.size w w' := by
  have HE := Lib.hid hE
  clear hE
  have A0 := fun w => aged_any s k x y v b wt t m0 m1 w k_a k_b
  have hno := aged_no (s := s) (k := k) (x := x) (y := y) (v := v) (b := b) (wt := wt) (t := t) (tick := m0) (speed := m1)
  have hmv := fun r => moves (s := s) (k := k) (x := x) (y := y) (v := v) (b := b) (wt := wt) (t := t) (tick := m0) (speed := m1) (p := p) (q := q) (p1 := p1) (q1 := q1) (r := r)
  have hok := fun r => aged_ok (s := s) (k := k) (x := x) (y := y) (v := v) (b := b) (wt := wt) (t := t) (tick := m0) (speed := m1) (r := r)
  obtain ⟨rr, en, hg⟩ : ∃ rr en, agedF s k x y v b wt t m0 m1 = (rr, en) := ⟨_, _, rfl⟩
  rw [hg] at A0 hno
  have G0 := fun w => agrees_any s k x y v b wt t p q w k_a k_b
  have V0 := fun w => pvalid_any p1 q1 w
  have hpq : agrB s k x y v b wt t p q = true → pvB p q = true := by
    intro h; unfold agrB at h; simp only [Bool.and_eq_true] at h; exact h.1.2
  by_cases he : en = 0
  · subst he
    have hok := hok rr hg
    have hmv := hmv rr hg
    obtain ⟨hck, ⟨i0, i1⟩, ⟨j0, j1⟩, ⟨l0, l1⟩, -, -, hr⟩ := hok
    have hbd := check_bd hck
    obtain ⟨s', k', x', y', v', b', w', t'⟩ := rr
    have hk' : 0 ≤ k' ∧ k' ≤ 255 := by simp only [Rp.mk.injEq] at hr; omega
    have G1 := fun w => agrees_any s' k' x' y' v' b' w' t' p1 q1 w hk'.1 hk'.2
    have hm0 : 0 ≤ m1 * (m0 - t) := Int.mul_nonneg j0 l0
    have hm1 : m1 * (m0 - t) ≤ 20000 := by have := Int.mul_le_mul j1 l1 l0 (by decide); omega
    have HA := Lib.hid A0
    obtain ⟨-, -, -, -, -, -, ⟨tb0, tb1⟩⟩ := hbd
    clear hno hg hck A0 hr
    generalize hga : agrB s k x y v b wt t p q = ga at *
    generalize hgv : pvB p1 q1 = gv at *
    have HG0 := Lib.hid G0
    have HV0 := Lib.hid V0
    clear G0 V0
    cases ga with
    | false =>
      clear hmv hpq hga hgv
      go_enter Tryd.func9, Tryd.ntmps9
      go_wp2_with fail
      have c0_0_0 : (((w.alloc (.cells #[.int .i64 s, .int .u8 k, .int .i64 x, .int .i64 y, .int .i64 v, .int .i64 b, .int .i64 wt, .int .i64 t] 26)).alloc (.cells #[.int .i64 p, .int .i64 q, .int .i64 p1, .int .i64 q1] 48)).alloc (.cells #[.int .i64 m0, .int .i64 m1] 49)).cell? ⟨w.heap.size, 0, none⟩ = some (.int .i64 s) := ((((Below.refl (w.heap.size + 1) (w.alloc (.cells #[.int .i64 s, .int .u8 k, .int .i64 x, .int .i64 y, .int .i64 v, .int .i64 b, .int .i64 wt, .int .i64 t] 26))).alloc (by simp; try omega) (.cells #[.int .i64 p, .int .i64 q, .int .i64 p1, .int .i64 q1] 48)).alloc (by simp; try omega) (.cells #[.int .i64 m0, .int .i64 m1] 49)).cell (p := ⟨w.heap.size, 0, none⟩) (by simp; try omega)).trans (by rw [World.cell?_alloc_at _ _ _ _ (by simp)]; rfl)
      have c0_0_1 : (((w.alloc (.cells #[.int .i64 s, .int .u8 k, .int .i64 x, .int .i64 y, .int .i64 v, .int .i64 b, .int .i64 wt, .int .i64 t] 26)).alloc (.cells #[.int .i64 p, .int .i64 q, .int .i64 p1, .int .i64 q1] 48)).alloc (.cells #[.int .i64 m0, .int .i64 m1] 49)).cell? ⟨w.heap.size, 1, none⟩ = some (.int .u8 k) := ((((Below.refl (w.heap.size + 1) (w.alloc (.cells #[.int .i64 s, .int .u8 k, .int .i64 x, .int .i64 y, .int .i64 v, .int .i64 b, .int .i64 wt, .int .i64 t] 26))).alloc (by simp; try omega) (.cells #[.int .i64 p, .int .i64 q, .int .i64 p1, .int .i64 q1] 48)).alloc (by simp; try omega) (.cells #[.int .i64 m0, .int .i64 m1] 49)).cell (p := ⟨w.heap.size, 1, none⟩) (by simp; try omega)).trans (by rw [World.cell?_alloc_at _ _ _ _ (by simp)]; rfl)
      have c0_0_2 : (((w.alloc (.cells #[.int .i64 s, .int .u8 k, .int .i64 x, .int .i64 y, .int .i64 v, .int .i64 b, .int .i64 wt, .int .i64 t] 26)).alloc (.cells #[.int .i64 p, .int .i64 q, .int .i64 p1, .int .i64 q1] 48)).alloc (.cells #[.int .i64 m0, .int .i64 m1] 49)).cell? ⟨w.heap.size, 2, none⟩ = some (.int .i64 x) := ((((Below.refl (w.heap.size + 1) (w.alloc (.cells #[.int .i64 s, .int .u8 k, .int .i64 x, .int .i64 y, .int .i64 v, .int .i64 b, .int .i64 wt, .int .i64 t] 26))).alloc (by simp; try omega) (.cells #[.int .i64 p, .int .i64 q, .int .i64 p1, .int .i64 q1] 48)).alloc (by simp; try omega) (.cells #[.int .i64 m0, .int .i64 m1] 49)).cell (p := ⟨w.heap.size, 2, none⟩) (by simp; try omega)).trans (by rw [World.cell?_alloc_at _ _ _ _ (by simp)]; rfl)
      have c0_0_3 : (((w.alloc (.cells #[.int .i64 s, .int .u8 k, .int .i64 x, .int .i64 y, .int .i64 v, .int .i64 b, .int .i64 wt, .int .i64 t] 26)).alloc (.cells #[.int .i64 p, .int .i64 q, .int .i64 p1, .int .i64 q1] 48)).alloc (.cells #[.int .i64 m0, .int .i64 m1] 49)).cell? ⟨w.heap.size, 3, none⟩ = some (.int .i64 y) := ((((Below.refl (w.heap.size + 1) (w.alloc (.cells #[.int .i64 s, .int .u8 k, .int .i64 x, .int .i64 y, .int .i64 v, .int .i64 b, .int .i64 wt, .int .i64 t] 26))).alloc (by simp; try omega) (.cells #[.int .i64 p, .int .i64 q, .int .i64 p1, .int .i64 q1] 48)).alloc (by simp; try omega) (.cells #[.int .i64 m0, .int .i64 m1] 49)).cell (p := ⟨w.heap.size, 3, none⟩) (by simp; try omega)).trans (by rw [World.cell?_alloc_at _ _ _ _ (by simp)]; rfl)
      have c0_0_4 : (((w.alloc (.cells #[.int .i64 s, .int .u8 k, .int .i64 x, .int .i64 y, .int .i64 v, .int .i64 b, .int .i64 wt, .int .i64 t] 26)).alloc (.cells #[.int .i64 p, .int .i64 q, .int .i64 p1, .int .i64 q1] 48)).alloc (.cells #[.int .i64 m0, .int .i64 m1] 49)).cell? ⟨w.heap.size, 4, none⟩ = some (.int .i64 v) := ((((Below.refl (w.heap.size + 1) (w.alloc (.cells #[.int .i64 s, .int .u8 k, .int .i64 x, .int .i64 y, .int .i64 v, .int .i64 b, .int .i64 wt, .int .i64 t] 26))).alloc (by simp; try omega) (.cells #[.int .i64 p, .int .i64 q, .int .i64 p1, .int .i64 q1] 48)).alloc (by simp; try omega) (.cells #[.int .i64 m0, .int .i64 m1] 49)).cell (p := ⟨w.heap.size, 4, none⟩) (by simp; try omega)).trans (by rw [World.cell?_alloc_at _ _ _ _ (by simp)]; rfl)
      have c0_0_5 : (((w.alloc (.cells #[.int .i64 s, .int .u8 k, .int .i64 x, .int .i64 y, .int .i64 v, .int .i64 b, .int .i64 wt, .int .i64 t] 26)).alloc (.cells #[.int .i64 p, .int .i64 q, .int .i64 p1, .int .i64 q1] 48)).alloc (.cells #[.int .i64 m0, .int .i64 m1] 49)).cell? ⟨w.heap.size, 5, none⟩ = some (.int .i64 b) := ((((Below.refl (w.heap.size + 1) (w.alloc (.cells #[.int .i64 s, .int .u8 k, .int .i64 x, .int .i64 y, .int .i64 v, .int .i64 b, .int .i64 wt, .int .i64 t] 26))).alloc (by simp; try omega) (.cells #[.int .i64 p, .int .i64 q, .int .i64 p1, .int .i64 q1] 48)).alloc (by simp; try omega) (.cells #[.int .i64 m0, .int .i64 m1] 49)).cell (p := ⟨w.heap.size, 5, none⟩) (by simp; try omega)).trans (by rw [World.cell?_alloc_at _ _ _ _ (by simp)]; rfl)
      have c0_0_6 : (((w.alloc (.cells #[.int .i64 s, .int .u8 k, .int .i64 x, .int .i64 y, .int .i64 v, .int .i64 b, .int .i64 wt, .int .i64 t] 26)).alloc (.cells #[.int .i64 p, .int .i64 q, .int .i64 p1, .int .i64 q1] 48)).alloc (.cells #[.int .i64 m0, .int .i64 m1] 49)).cell? ⟨w.heap.size, 6, none⟩ = some (.int .i64 wt) := ((((Below.refl (w.heap.size + 1) (w.alloc (.cells #[.int .i64 s, .int .u8 k, .int .i64 x, .int .i64 y, .int .i64 v, .int .i64 b, .int .i64 wt, .int .i64 t] 26))).alloc (by simp; try omega) (.cells #[.int .i64 p, .int .i64 q, .int .i64 p1, .int .i64 q1] 48)).alloc (by simp; try omega) (.cells #[.int .i64 m0, .int .i64 m1] 49)).cell (p := ⟨w.heap.size, 6, none⟩) (by simp; try omega)).trans (by rw [World.cell?_alloc_at _ _ _ _ (by simp)]; rfl)
      have c0_0_7 : (((w.alloc (.cells #[.int .i64 s, .int .u8 k, .int .i64 x, .int .i64 y, .int .i64 v, .int .i64 b, .int .i64 wt, .int .i64 t] 26)).alloc (.cells #[.int .i64 p, .int .i64 q, .int .i64 p1, .int .i64 q1] 48)).alloc (.cells #[.int .i64 m0, .int .i64 m1] 49)).cell? ⟨w.heap.size, 7, none⟩ = some (.int .i64 t) := ((((Below.refl (w.heap.size + 1) (w.alloc (.cells #[.int .i64 s, .int .u8 k, .int .i64 x, .int .i64 y, .int .i64 v, .int .i64 b, .int .i64 wt, .int .i64 t] 26))).alloc (by simp; try omega) (.cells #[.int .i64 p, .int .i64 q, .int .i64 p1, .int .i64 q1] 48)).alloc (by simp; try omega) (.cells #[.int .i64 m0, .int .i64 m1] 49)).cell (p := ⟨w.heap.size, 7, none⟩) (by simp; try omega)).trans (by rw [World.cell?_alloc_at _ _ _ _ (by simp)]; rfl)
      have c0_1_0 : (((w.alloc (.cells #[.int .i64 s, .int .u8 k, .int .i64 x, .int .i64 y, .int .i64 v, .int .i64 b, .int .i64 wt, .int .i64 t] 26)).alloc (.cells #[.int .i64 p, .int .i64 q, .int .i64 p1, .int .i64 q1] 48)).alloc (.cells #[.int .i64 m0, .int .i64 m1] 49)).cell? ⟨w.heap.size + 1, 0, none⟩ = some (.int .i64 p) := (((Below.refl (w.heap.size + 1 + 1) ((w.alloc (.cells #[.int .i64 s, .int .u8 k, .int .i64 x, .int .i64 y, .int .i64 v, .int .i64 b, .int .i64 wt, .int .i64 t] 26)).alloc (.cells #[.int .i64 p, .int .i64 q, .int .i64 p1, .int .i64 q1] 48))).alloc (by simp; try omega) (.cells #[.int .i64 m0, .int .i64 m1] 49)).cell (p := ⟨w.heap.size + 1, 0, none⟩) (by simp; try omega)).trans (by rw [World.cell?_alloc_at _ _ _ _ (by simp)]; rfl)
      have c0_1_1 : (((w.alloc (.cells #[.int .i64 s, .int .u8 k, .int .i64 x, .int .i64 y, .int .i64 v, .int .i64 b, .int .i64 wt, .int .i64 t] 26)).alloc (.cells #[.int .i64 p, .int .i64 q, .int .i64 p1, .int .i64 q1] 48)).alloc (.cells #[.int .i64 m0, .int .i64 m1] 49)).cell? ⟨w.heap.size + 1, 1, none⟩ = some (.int .i64 q) := (((Below.refl (w.heap.size + 1 + 1) ((w.alloc (.cells #[.int .i64 s, .int .u8 k, .int .i64 x, .int .i64 y, .int .i64 v, .int .i64 b, .int .i64 wt, .int .i64 t] 26)).alloc (.cells #[.int .i64 p, .int .i64 q, .int .i64 p1, .int .i64 q1] 48))).alloc (by simp; try omega) (.cells #[.int .i64 m0, .int .i64 m1] 49)).cell (p := ⟨w.heap.size + 1, 1, none⟩) (by simp; try omega)).trans (by rw [World.cell?_alloc_at _ _ _ _ (by simp)]; rfl)
      have c0_1_2 : (((w.alloc (.cells #[.int .i64 s, .int .u8 k, .int .i64 x, .int .i64 y, .int .i64 v, .int .i64 b, .int .i64 wt, .int .i64 t] 26)).alloc (.cells #[.int .i64 p, .int .i64 q, .int .i64 p1, .int .i64 q1] 48)).alloc (.cells #[.int .i64 m0, .int .i64 m1] 49)).cell? ⟨w.heap.size + 1, 2, none⟩ = some (.int .i64 p1) := (((Below.refl (w.heap.size + 1 + 1) ((w.alloc (.cells #[.int .i64 s, .int .u8 k, .int .i64 x, .int .i64 y, .int .i64 v, .int .i64 b, .int .i64 wt, .int .i64 t] 26)).alloc (.cells #[.int .i64 p, .int .i64 q, .int .i64 p1, .int .i64 q1] 48))).alloc (by simp; try omega) (.cells #[.int .i64 m0, .int .i64 m1] 49)).cell (p := ⟨w.heap.size + 1, 2, none⟩) (by simp; try omega)).trans (by rw [World.cell?_alloc_at _ _ _ _ (by simp)]; rfl)
      have c0_1_3 : (((w.alloc (.cells #[.int .i64 s, .int .u8 k, .int .i64 x, .int .i64 y, .int .i64 v, .int .i64 b, .int .i64 wt, .int .i64 t] 26)).alloc (.cells #[.int .i64 p, .int .i64 q, .int .i64 p1, .int .i64 q1] 48)).alloc (.cells #[.int .i64 m0, .int .i64 m1] 49)).cell? ⟨w.heap.size + 1, 3, none⟩ = some (.int .i64 q1) := (((Below.refl (w.heap.size + 1 + 1) ((w.alloc (.cells #[.int .i64 s, .int .u8 k, .int .i64 x, .int .i64 y, .int .i64 v, .int .i64 b, .int .i64 wt, .int .i64 t] 26)).alloc (.cells #[.int .i64 p, .int .i64 q, .int .i64 p1, .int .i64 q1] 48))).alloc (by simp; try omega) (.cells #[.int .i64 m0, .int .i64 m1] 49)).cell (p := ⟨w.heap.size + 1, 3, none⟩) (by simp; try omega)).trans (by rw [World.cell?_alloc_at _ _ _ _ (by simp)]; rfl)
      have c0_2_0 : (((w.alloc (.cells #[.int .i64 s, .int .u8 k, .int .i64 x, .int .i64 y, .int .i64 v, .int .i64 b, .int .i64 wt, .int .i64 t] 26)).alloc (.cells #[.int .i64 p, .int .i64 q, .int .i64 p1, .int .i64 q1] 48)).alloc (.cells #[.int .i64 m0, .int .i64 m1] 49)).cell? ⟨w.heap.size + 1 + 1, 0, none⟩ = some (.int .i64 m0) := by rw [World.cell?_alloc_at _ _ _ _ (by simp)]; rfl
      have c0_2_1 : (((w.alloc (.cells #[.int .i64 s, .int .u8 k, .int .i64 x, .int .i64 y, .int .i64 v, .int .i64 b, .int .i64 wt, .int .i64 t] 26)).alloc (.cells #[.int .i64 p, .int .i64 q, .int .i64 p1, .int .i64 q1] 48)).alloc (.cells #[.int .i64 m0, .int .i64 m1] 49)).cell? ⟨w.heap.size + 1 + 1, 1, none⟩ = some (.int .i64 m1) := by rw [World.cell?_alloc_at _ _ _ _ (by simp)]; rfl
      have z0_0 : w.heap.size < (((w.alloc (.cells #[.int .i64 s, .int .u8 k, .int .i64 x, .int .i64 y, .int .i64 v, .int .i64 b, .int .i64 wt, .int .i64 t] 26)).alloc (.cells #[.int .i64 p, .int .i64 q, .int .i64 p1, .int .i64 q1] 48)).alloc (.cells #[.int .i64 m0, .int .i64 m1] 49)).heap.size := by simp; try omega
      have z0_1 : w.heap.size + 1 < (((w.alloc (.cells #[.int .i64 s, .int .u8 k, .int .i64 x, .int .i64 y, .int .i64 v, .int .i64 b, .int .i64 wt, .int .i64 t] 26)).alloc (.cells #[.int .i64 p, .int .i64 q, .int .i64 p1, .int .i64 q1] 48)).alloc (.cells #[.int .i64 m0, .int .i64 m1] 49)).heap.size := by simp; try omega
      have z0_2 : w.heap.size + 1 + 1 < (((w.alloc (.cells #[.int .i64 s, .int .u8 k, .int .i64 x, .int .i64 y, .int .i64 v, .int .i64 b, .int .i64 wt, .int .i64 t] 26)).alloc (.cells #[.int .i64 p, .int .i64 q, .int .i64 p1, .int .i64 q1] 48)).alloc (.cells #[.int .i64 m0, .int .i64 m1] 49)).heap.size := by simp; try omega
      have hw0 := Lib.hid ((((Below.refl w.heap.size w).alloc (by simp; try omega) (.cells #[.int .i64 s, .int .u8 k, .int .i64 x, .int .i64 y, .int .i64 v, .int .i64 b, .int .i64 wt, .int .i64 t] 26)).alloc (by simp; try omega) (.cells #[.int .i64 p, .int .i64 q, .int .i64 p1, .int .i64 q1] 48)).alloc (by simp; try omega) (.cells #[.int .i64 m0, .int .i64 m1] 49))
      generalize hW0 : (((w.alloc (.cells #[.int .i64 s, .int .u8 k, .int .i64 x, .int .i64 y, .int .i64 v, .int .i64 b, .int .i64 wt, .int .i64 t] 26)).alloc (.cells #[.int .i64 p, .int .i64 q, .int .i64 p1, .int .i64 q1] 48)).alloc (.cells #[.int .i64 m0, .int .i64 m1] 49)) = w0 at *
      clear hW0
      refine (awake_any _ (HE.out.below hw0.out)).mono ?_
      rintro e w1 ⟨rfl, hb1⟩
      have c1_0_0 := (hb1.cell (p := ⟨w.heap.size, 0, none⟩) z0_0).trans c0_0_0
      have c1_0_1 := (hb1.cell (p := ⟨w.heap.size, 1, none⟩) z0_0).trans c0_0_1
      have c1_0_2 := (hb1.cell (p := ⟨w.heap.size, 2, none⟩) z0_0).trans c0_0_2
      have c1_0_3 := (hb1.cell (p := ⟨w.heap.size, 3, none⟩) z0_0).trans c0_0_3
      have c1_0_4 := (hb1.cell (p := ⟨w.heap.size, 4, none⟩) z0_0).trans c0_0_4
      have c1_0_5 := (hb1.cell (p := ⟨w.heap.size, 5, none⟩) z0_0).trans c0_0_5
      have c1_0_6 := (hb1.cell (p := ⟨w.heap.size, 6, none⟩) z0_0).trans c0_0_6
      have c1_0_7 := (hb1.cell (p := ⟨w.heap.size, 7, none⟩) z0_0).trans c0_0_7
      have c1_1_0 := (hb1.cell (p := ⟨w.heap.size + 1, 0, none⟩) z0_1).trans c0_1_0
      have c1_1_1 := (hb1.cell (p := ⟨w.heap.size + 1, 1, none⟩) z0_1).trans c0_1_1
      have c1_1_2 := (hb1.cell (p := ⟨w.heap.size + 1, 2, none⟩) z0_1).trans c0_1_2
      have c1_1_3 := (hb1.cell (p := ⟨w.heap.size + 1, 3, none⟩) z0_1).trans c0_1_3
      have c1_2_0 := (hb1.cell (p := ⟨w.heap.size + 1 + 1, 0, none⟩) z0_2).trans c0_2_0
      have c1_2_1 := (hb1.cell (p := ⟨w.heap.size + 1 + 1, 1, none⟩) z0_2).trans c0_2_1
      have z1_0 : w.heap.size < w1.heap.size := Nat.lt_of_lt_of_le z0_0 hb1.size
      have z1_1 : w.heap.size + 1 < w1.heap.size := Nat.lt_of_lt_of_le z0_1 hb1.size
      have z1_2 : w.heap.size + 1 + 1 < w1.heap.size := Nat.lt_of_lt_of_le z0_2 hb1.size
      have hw1 := Lib.hid (hw0.out.trans (hb1.mono hw0.out.size))
      clear hb1 hw0 c0_0_0 c0_0_1 c0_0_2 c0_0_3 c0_0_4 c0_0_5 c0_0_6 c0_0_7 c0_1_0 c0_1_1 c0_1_2 c0_1_3 c0_2_0 c0_2_1 z0_0 z0_1 z0_2
      go_wp2_with fail
      refine (HA.out _).mono ?_
      rintro e w2 ⟨rfl, hb2⟩
      have c2_0_0 := (hb2.cell (p := ⟨w.heap.size, 0, none⟩) z1_0).trans c1_0_0
      have c2_0_1 := (hb2.cell (p := ⟨w.heap.size, 1, none⟩) z1_0).trans c1_0_1
      have c2_0_2 := (hb2.cell (p := ⟨w.heap.size, 2, none⟩) z1_0).trans c1_0_2
      have c2_0_3 := (hb2.cell (p := ⟨w.heap.size, 3, none⟩) z1_0).trans c1_0_3
      have c2_0_4 := (hb2.cell (p := ⟨w.heap.size, 4, none⟩) z1_0).trans c1_0_4
      have c2_0_5 := (hb2.cell (p := ⟨w.heap.size, 5, none⟩) z1_0).trans c1_0_5
      have c2_0_6 := (hb2.cell (p := ⟨w.heap.size, 6, none⟩) z1_0).trans c1_0_6
      have c2_0_7 := (hb2.cell (p := ⟨w.heap.size, 7, none⟩) z1_0).trans c1_0_7
      have c2_1_0 := (hb2.cell (p := ⟨w.heap.size + 1, 0, none⟩) z1_1).trans c1_1_0
      have c2_1_1 := (hb2.cell (p := ⟨w.heap.size + 1, 1, none⟩) z1_1).trans c1_1_1
      have c2_1_2 := (hb2.cell (p := ⟨w.heap.size + 1, 2, none⟩) z1_1).trans c1_1_2
      have c2_1_3 := (hb2.cell (p := ⟨w.heap.size + 1, 3, none⟩) z1_1).trans c1_1_3
      have c2_2_0 := (hb2.cell (p := ⟨w.heap.size + 1 + 1, 0, none⟩) z1_2).trans c1_2_0
      have c2_2_1 := (hb2.cell (p := ⟨w.heap.size + 1 + 1, 1, none⟩) z1_2).trans c1_2_1
      have z2_0 : w.heap.size < w2.heap.size := Nat.lt_of_lt_of_le z1_0 hb2.size
      have z2_1 : w.heap.size + 1 < w2.heap.size := Nat.lt_of_lt_of_le z1_1 hb2.size
      have z2_2 : w.heap.size + 1 + 1 < w2.heap.size := Nat.lt_of_lt_of_le z1_2 hb2.size
      have hw2 := Lib.hid (hw1.out.trans (hb2.mono hw1.out.size))
      clear hb2 hw1 c1_0_0 c1_0_1 c1_0_2 c1_0_3 c1_0_4 c1_0_5 c1_0_6 c1_0_7 c1_1_0 c1_1_1 c1_1_2 c1_1_3 c1_2_0 c1_2_1 z1_0 z1_1 z1_2
      simp only [repV]
      go_wp2_with fail
      have hb3 : Below w2.heap.size w2 (w2.alloc (.cells #[.int .i64 s', .int .u8 k', .int .i64 x', .int .i64 y', .int .i64 v', .int .i64 b', .int .i64 w', .int .i64 t'] 26)) := (Below.refl w2.heap.size w2).alloc (Nat.le_refl _) _
      have c3_0_0 := (hb3.cell (p := ⟨w.heap.size, 0, none⟩) z2_0).trans c2_0_0
      have c3_0_1 := (hb3.cell (p := ⟨w.heap.size, 1, none⟩) z2_0).trans c2_0_1
      have c3_0_2 := (hb3.cell (p := ⟨w.heap.size, 2, none⟩) z2_0).trans c2_0_2
      have c3_0_3 := (hb3.cell (p := ⟨w.heap.size, 3, none⟩) z2_0).trans c2_0_3
      have c3_0_4 := (hb3.cell (p := ⟨w.heap.size, 4, none⟩) z2_0).trans c2_0_4
      have c3_0_5 := (hb3.cell (p := ⟨w.heap.size, 5, none⟩) z2_0).trans c2_0_5
      have c3_0_6 := (hb3.cell (p := ⟨w.heap.size, 6, none⟩) z2_0).trans c2_0_6
      have c3_0_7 := (hb3.cell (p := ⟨w.heap.size, 7, none⟩) z2_0).trans c2_0_7
      have c3_1_0 := (hb3.cell (p := ⟨w.heap.size + 1, 0, none⟩) z2_1).trans c2_1_0
      have c3_1_1 := (hb3.cell (p := ⟨w.heap.size + 1, 1, none⟩) z2_1).trans c2_1_1
      have c3_1_2 := (hb3.cell (p := ⟨w.heap.size + 1, 2, none⟩) z2_1).trans c2_1_2
      have c3_1_3 := (hb3.cell (p := ⟨w.heap.size + 1, 3, none⟩) z2_1).trans c2_1_3
      have c3_2_0 := (hb3.cell (p := ⟨w.heap.size + 1 + 1, 0, none⟩) z2_2).trans c2_2_0
      have c3_2_1 := (hb3.cell (p := ⟨w.heap.size + 1 + 1, 1, none⟩) z2_2).trans c2_2_1
      have z3_0 : w.heap.size < (w2.alloc (.cells #[.int .i64 s', .int .u8 k', .int .i64 x', .int .i64 y', .int .i64 v', .int .i64 b', .int .i64 w', .int .i64 t'] 26)).heap.size := Nat.lt_of_lt_of_le z2_0 hb3.size
      have z3_1 : w.heap.size + 1 < (w2.alloc (.cells #[.int .i64 s', .int .u8 k', .int .i64 x', .int .i64 y', .int .i64 v', .int .i64 b', .int .i64 w', .int .i64 t'] 26)).heap.size := Nat.lt_of_lt_of_le z2_1 hb3.size
      have z3_2 : w.heap.size + 1 + 1 < (w2.alloc (.cells #[.int .i64 s', .int .u8 k', .int .i64 x', .int .i64 y', .int .i64 v', .int .i64 b', .int .i64 w', .int .i64 t'] 26)).heap.size := Nat.lt_of_lt_of_le z2_2 hb3.size
      have c3_3_0 : (w2.alloc (.cells #[.int .i64 s', .int .u8 k', .int .i64 x', .int .i64 y', .int .i64 v', .int .i64 b', .int .i64 w', .int .i64 t'] 26)).cell? ⟨w2.heap.size, 0, none⟩ = some (.int .i64 s') := by rw [World.cell?_alloc_at _ _ _ _ (by simp)]; rfl
      have c3_3_1 : (w2.alloc (.cells #[.int .i64 s', .int .u8 k', .int .i64 x', .int .i64 y', .int .i64 v', .int .i64 b', .int .i64 w', .int .i64 t'] 26)).cell? ⟨w2.heap.size, 1, none⟩ = some (.int .u8 k') := by rw [World.cell?_alloc_at _ _ _ _ (by simp)]; rfl
      have c3_3_2 : (w2.alloc (.cells #[.int .i64 s', .int .u8 k', .int .i64 x', .int .i64 y', .int .i64 v', .int .i64 b', .int .i64 w', .int .i64 t'] 26)).cell? ⟨w2.heap.size, 2, none⟩ = some (.int .i64 x') := by rw [World.cell?_alloc_at _ _ _ _ (by simp)]; rfl
      have c3_3_3 : (w2.alloc (.cells #[.int .i64 s', .int .u8 k', .int .i64 x', .int .i64 y', .int .i64 v', .int .i64 b', .int .i64 w', .int .i64 t'] 26)).cell? ⟨w2.heap.size, 3, none⟩ = some (.int .i64 y') := by rw [World.cell?_alloc_at _ _ _ _ (by simp)]; rfl
      have c3_3_4 : (w2.alloc (.cells #[.int .i64 s', .int .u8 k', .int .i64 x', .int .i64 y', .int .i64 v', .int .i64 b', .int .i64 w', .int .i64 t'] 26)).cell? ⟨w2.heap.size, 4, none⟩ = some (.int .i64 v') := by rw [World.cell?_alloc_at _ _ _ _ (by simp)]; rfl
      have c3_3_5 : (w2.alloc (.cells #[.int .i64 s', .int .u8 k', .int .i64 x', .int .i64 y', .int .i64 v', .int .i64 b', .int .i64 w', .int .i64 t'] 26)).cell? ⟨w2.heap.size, 5, none⟩ = some (.int .i64 b') := by rw [World.cell?_alloc_at _ _ _ _ (by simp)]; rfl
      have c3_3_6 : (w2.alloc (.cells #[.int .i64 s', .int .u8 k', .int .i64 x', .int .i64 y', .int .i64 v', .int .i64 b', .int .i64 w', .int .i64 t'] 26)).cell? ⟨w2.heap.size, 6, none⟩ = some (.int .i64 w') := by rw [World.cell?_alloc_at _ _ _ _ (by simp)]; rfl
      have c3_3_7 : (w2.alloc (.cells #[.int .i64 s', .int .u8 k', .int .i64 x', .int .i64 y', .int .i64 v', .int .i64 b', .int .i64 w', .int .i64 t'] 26)).cell? ⟨w2.heap.size, 7, none⟩ = some (.int .i64 t') := by rw [World.cell?_alloc_at _ _ _ _ (by simp)]; rfl
      have z3_3 : w2.heap.size < (w2.alloc (.cells #[.int .i64 s', .int .u8 k', .int .i64 x', .int .i64 y', .int .i64 v', .int .i64 b', .int .i64 w', .int .i64 t'] 26)).heap.size := by simp
      have hw3 := Lib.hid (hw2.out.trans (hb3.mono hw2.out.size))
      generalize hW3 : (w2.alloc (.cells #[.int .i64 s', .int .u8 k', .int .i64 x', .int .i64 y', .int .i64 v', .int .i64 b', .int .i64 w', .int .i64 t'] 26)) = w3 at *
      clear hW3 hb3 hw2 c2_0_0 c2_0_1 c2_0_2 c2_0_3 c2_0_4 c2_0_5 c2_0_6 c2_0_7 c2_1_0 c2_1_1 c2_1_2 c2_1_3 c2_2_0 c2_2_1 z2_0 z2_1 z2_2
      refine (HG0.out _).mono ?_
      rintro e w4 ⟨rfl, hb4⟩
      have c4_0_0 := (hb4.cell (p := ⟨w.heap.size, 0, none⟩) z3_0).trans c3_0_0
      have c4_0_1 := (hb4.cell (p := ⟨w.heap.size, 1, none⟩) z3_0).trans c3_0_1
      have c4_0_2 := (hb4.cell (p := ⟨w.heap.size, 2, none⟩) z3_0).trans c3_0_2
      have c4_0_3 := (hb4.cell (p := ⟨w.heap.size, 3, none⟩) z3_0).trans c3_0_3
      have c4_0_4 := (hb4.cell (p := ⟨w.heap.size, 4, none⟩) z3_0).trans c3_0_4
      have c4_0_5 := (hb4.cell (p := ⟨w.heap.size, 5, none⟩) z3_0).trans c3_0_5
      have c4_0_6 := (hb4.cell (p := ⟨w.heap.size, 6, none⟩) z3_0).trans c3_0_6
      have c4_0_7 := (hb4.cell (p := ⟨w.heap.size, 7, none⟩) z3_0).trans c3_0_7
      have c4_1_0 := (hb4.cell (p := ⟨w.heap.size + 1, 0, none⟩) z3_1).trans c3_1_0
      have c4_1_1 := (hb4.cell (p := ⟨w.heap.size + 1, 1, none⟩) z3_1).trans c3_1_1
      have c4_1_2 := (hb4.cell (p := ⟨w.heap.size + 1, 2, none⟩) z3_1).trans c3_1_2
      have c4_1_3 := (hb4.cell (p := ⟨w.heap.size + 1, 3, none⟩) z3_1).trans c3_1_3
      have c4_2_0 := (hb4.cell (p := ⟨w.heap.size + 1 + 1, 0, none⟩) z3_2).trans c3_2_0
      have c4_2_1 := (hb4.cell (p := ⟨w.heap.size + 1 + 1, 1, none⟩) z3_2).trans c3_2_1
      have c4_3_0 := (hb4.cell (p := ⟨w2.heap.size, 0, none⟩) z3_3).trans c3_3_0
      have c4_3_1 := (hb4.cell (p := ⟨w2.heap.size, 1, none⟩) z3_3).trans c3_3_1
      have c4_3_2 := (hb4.cell (p := ⟨w2.heap.size, 2, none⟩) z3_3).trans c3_3_2
      have c4_3_3 := (hb4.cell (p := ⟨w2.heap.size, 3, none⟩) z3_3).trans c3_3_3
      have c4_3_4 := (hb4.cell (p := ⟨w2.heap.size, 4, none⟩) z3_3).trans c3_3_4
      have c4_3_5 := (hb4.cell (p := ⟨w2.heap.size, 5, none⟩) z3_3).trans c3_3_5
      have c4_3_6 := (hb4.cell (p := ⟨w2.heap.size, 6, none⟩) z3_3).trans c3_3_6
      have c4_3_7 := (hb4.cell (p := ⟨w2.heap.size, 7, none⟩) z3_3).trans c3_3_7
      have z4_0 : w.heap.size < w4.heap.size := Nat.lt_of_lt_of_le z3_0 hb4.size
      have z4_1 : w.heap.size + 1 < w4.heap.size := Nat.lt_of_lt_of_le z3_1 hb4.size
      have z4_2 : w.heap.size + 1 + 1 < w4.heap.size := Nat.lt_of_lt_of_le z3_2 hb4.size
      have z4_3 : w2.heap.size < w4.heap.size := Nat.lt_of_lt_of_le z3_3 hb4.size
      have hw4 := Lib.hid (hw3.out.trans (hb4.mono hw3.out.size))
      clear hb4 hw3 c3_0_0 c3_0_1 c3_0_2 c3_0_3 c3_0_4 c3_0_5 c3_0_6 c3_0_7 c3_1_0 c3_1_1 c3_1_2 c3_1_3 c3_2_0 c3_2_1 c3_3_0 c3_3_1 c3_3_2 c3_3_3 c3_3_4 c3_3_5 c3_3_6 c3_3_7 z3_0 z3_1 z3_2 z3_3
      go_wp2
      go_ret
      exact ⟨rfl, hw4.out⟩
    | true =>
      have hpq := pvB_iff.1 (hpq rfl)
      cases gv with
      | false =>
        clear hmv hpq hga hgv
        go_enter Tryd.func9, Tryd.ntmps9
        go_wp2_with fail
        have c0_0_0 : (((w.alloc (.cells #[.int .i64 s, .int .u8 k, .int .i64 x, .int .i64 y, .int .i64 v, .int .i64 b, .int .i64 wt, .int .i64 t] 26)).alloc (.cells #[.int .i64 p, .int .i64 q, .int .i64 p1, .int .i64 q1] 48)).alloc (.cells #[.int .i64 m0, .int .i64 m1] 49)).cell? ⟨w.heap.size, 0, none⟩ = some (.int .i64 s) := ((((Below.refl (w.heap.size + 1) (w.alloc (.cells #[.int .i64 s, .int .u8 k, .int .i64 x, .int .i64 y, .int .i64 v, .int .i64 b, .int .i64 wt, .int .i64 t] 26))).alloc (by simp; try omega) (.cells #[.int .i64 p, .int .i64 q, .int .i64 p1, .int .i64 q1] 48)).alloc (by simp; try omega) (.cells #[.int .i64 m0, .int .i64 m1] 49)).cell (p := ⟨w.heap.size, 0, none⟩) (by simp; try omega)).trans (by rw [World.cell?_alloc_at _ _ _ _ (by simp)]; rfl)
        have c0_0_1 : (((w.alloc (.cells #[.int .i64 s, .int .u8 k, .int .i64 x, .int .i64 y, .int .i64 v, .int .i64 b, .int .i64 wt, .int .i64 t] 26)).alloc (.cells #[.int .i64 p, .int .i64 q, .int .i64 p1, .int .i64 q1] 48)).alloc (.cells #[.int .i64 m0, .int .i64 m1] 49)).cell? ⟨w.heap.size, 1, none⟩ = some (.int .u8 k) := ((((Below.refl (w.heap.size + 1) (w.alloc (.cells #[.int .i64 s, .int .u8 k, .int .i64 x, .int .i64 y, .int .i64 v, .int .i64 b, .int .i64 wt, .int .i64 t] 26))).alloc (by simp; try omega) (.cells #[.int .i64 p, .int .i64 q, .int .i64 p1, .int .i64 q1] 48)).alloc (by simp; try omega) (.cells #[.int .i64 m0, .int .i64 m1] 49)).cell (p := ⟨w.heap.size, 1, none⟩) (by simp; try omega)).trans (by rw [World.cell?_alloc_at _ _ _ _ (by simp)]; rfl)
        have c0_0_2 : (((w.alloc (.cells #[.int .i64 s, .int .u8 k, .int .i64 x, .int .i64 y, .int .i64 v, .int .i64 b, .int .i64 wt, .int .i64 t] 26)).alloc (.cells #[.int .i64 p, .int .i64 q, .int .i64 p1, .int .i64 q1] 48)).alloc (.cells #[.int .i64 m0, .int .i64 m1] 49)).cell? ⟨w.heap.size, 2, none⟩ = some (.int .i64 x) := ((((Below.refl (w.heap.size + 1) (w.alloc (.cells #[.int .i64 s, .int .u8 k, .int .i64 x, .int .i64 y, .int .i64 v, .int .i64 b, .int .i64 wt, .int .i64 t] 26))).alloc (by simp; try omega) (.cells #[.int .i64 p, .int .i64 q, .int .i64 p1, .int .i64 q1] 48)).alloc (by simp; try omega) (.cells #[.int .i64 m0, .int .i64 m1] 49)).cell (p := ⟨w.heap.size, 2, none⟩) (by simp; try omega)).trans (by rw [World.cell?_alloc_at _ _ _ _ (by simp)]; rfl)
        have c0_0_3 : (((w.alloc (.cells #[.int .i64 s, .int .u8 k, .int .i64 x, .int .i64 y, .int .i64 v, .int .i64 b, .int .i64 wt, .int .i64 t] 26)).alloc (.cells #[.int .i64 p, .int .i64 q, .int .i64 p1, .int .i64 q1] 48)).alloc (.cells #[.int .i64 m0, .int .i64 m1] 49)).cell? ⟨w.heap.size, 3, none⟩ = some (.int .i64 y) := ((((Below.refl (w.heap.size + 1) (w.alloc (.cells #[.int .i64 s, .int .u8 k, .int .i64 x, .int .i64 y, .int .i64 v, .int .i64 b, .int .i64 wt, .int .i64 t] 26))).alloc (by simp; try omega) (.cells #[.int .i64 p, .int .i64 q, .int .i64 p1, .int .i64 q1] 48)).alloc (by simp; try omega) (.cells #[.int .i64 m0, .int .i64 m1] 49)).cell (p := ⟨w.heap.size, 3, none⟩) (by simp; try omega)).trans (by rw [World.cell?_alloc_at _ _ _ _ (by simp)]; rfl)
        have c0_0_4 : (((w.alloc (.cells #[.int .i64 s, .int .u8 k, .int .i64 x, .int .i64 y, .int .i64 v, .int .i64 b, .int .i64 wt, .int .i64 t] 26)).alloc (.cells #[.int .i64 p, .int .i64 q, .int .i64 p1, .int .i64 q1] 48)).alloc (.cells #[.int .i64 m0, .int .i64 m1] 49)).cell? ⟨w.heap.size, 4, none⟩ = some (.int .i64 v) := ((((Below.refl (w.heap.size + 1) (w.alloc (.cells #[.int .i64 s, .int .u8 k, .int .i64 x, .int .i64 y, .int .i64 v, .int .i64 b, .int .i64 wt, .int .i64 t] 26))).alloc (by simp; try omega) (.cells #[.int .i64 p, .int .i64 q, .int .i64 p1, .int .i64 q1] 48)).alloc (by simp; try omega) (.cells #[.int .i64 m0, .int .i64 m1] 49)).cell (p := ⟨w.heap.size, 4, none⟩) (by simp; try omega)).trans (by rw [World.cell?_alloc_at _ _ _ _ (by simp)]; rfl)
        have c0_0_5 : (((w.alloc (.cells #[.int .i64 s, .int .u8 k, .int .i64 x, .int .i64 y, .int .i64 v, .int .i64 b, .int .i64 wt, .int .i64 t] 26)).alloc (.cells #[.int .i64 p, .int .i64 q, .int .i64 p1, .int .i64 q1] 48)).alloc (.cells #[.int .i64 m0, .int .i64 m1] 49)).cell? ⟨w.heap.size, 5, none⟩ = some (.int .i64 b) := ((((Below.refl (w.heap.size + 1) (w.alloc (.cells #[.int .i64 s, .int .u8 k, .int .i64 x, .int .i64 y, .int .i64 v, .int .i64 b, .int .i64 wt, .int .i64 t] 26))).alloc (by simp; try omega) (.cells #[.int .i64 p, .int .i64 q, .int .i64 p1, .int .i64 q1] 48)).alloc (by simp; try omega) (.cells #[.int .i64 m0, .int .i64 m1] 49)).cell (p := ⟨w.heap.size, 5, none⟩) (by simp; try omega)).trans (by rw [World.cell?_alloc_at _ _ _ _ (by simp)]; rfl)
        have c0_0_6 : (((w.alloc (.cells #[.int .i64 s, .int .u8 k, .int .i64 x, .int .i64 y, .int .i64 v, .int .i64 b, .int .i64 wt, .int .i64 t] 26)).alloc (.cells #[.int .i64 p, .int .i64 q, .int .i64 p1, .int .i64 q1] 48)).alloc (.cells #[.int .i64 m0, .int .i64 m1] 49)).cell? ⟨w.heap.size, 6, none⟩ = some (.int .i64 wt) := ((((Below.refl (w.heap.size + 1) (w.alloc (.cells #[.int .i64 s, .int .u8 k, .int .i64 x, .int .i64 y, .int .i64 v, .int .i64 b, .int .i64 wt, .int .i64 t] 26))).alloc (by simp; try omega) (.cells #[.int .i64 p, .int .i64 q, .int .i64 p1, .int .i64 q1] 48)).alloc (by simp; try omega) (.cells #[.int .i64 m0, .int .i64 m1] 49)).cell (p := ⟨w.heap.size, 6, none⟩) (by simp; try omega)).trans (by rw [World.cell?_alloc_at _ _ _ _ (by simp)]; rfl)
        have c0_0_7 : (((w.alloc (.cells #[.int .i64 s, .int .u8 k, .int .i64 x, .int .i64 y, .int .i64 v, .int .i64 b, .int .i64 wt, .int .i64 t] 26)).alloc (.cells #[.int .i64 p, .int .i64 q, .int .i64 p1, .int .i64 q1] 48)).alloc (.cells #[.int .i64 m0, .int .i64 m1] 49)).cell? ⟨w.heap.size, 7, none⟩ = some (.int .i64 t) := ((((Below.refl (w.heap.size + 1) (w.alloc (.cells #[.int .i64 s, .int .u8 k, .int .i64 x, .int .i64 y, .int .i64 v, .int .i64 b, .int .i64 wt, .int .i64 t] 26))).alloc (by simp; try omega) (.cells #[.int .i64 p, .int .i64 q, .int .i64 p1, .int .i64 q1] 48)).alloc (by simp; try omega) (.cells #[.int .i64 m0, .int .i64 m1] 49)).cell (p := ⟨w.heap.size, 7, none⟩) (by simp; try omega)).trans (by rw [World.cell?_alloc_at _ _ _ _ (by simp)]; rfl)
        have c0_1_0 : (((w.alloc (.cells #[.int .i64 s, .int .u8 k, .int .i64 x, .int .i64 y, .int .i64 v, .int .i64 b, .int .i64 wt, .int .i64 t] 26)).alloc (.cells #[.int .i64 p, .int .i64 q, .int .i64 p1, .int .i64 q1] 48)).alloc (.cells #[.int .i64 m0, .int .i64 m1] 49)).cell? ⟨w.heap.size + 1, 0, none⟩ = some (.int .i64 p) := (((Below.refl (w.heap.size + 1 + 1) ((w.alloc (.cells #[.int .i64 s, .int .u8 k, .int .i64 x, .int .i64 y, .int .i64 v, .int .i64 b, .int .i64 wt, .int .i64 t] 26)).alloc (.cells #[.int .i64 p, .int .i64 q, .int .i64 p1, .int .i64 q1] 48))).alloc (by simp; try omega) (.cells #[.int .i64 m0, .int .i64 m1] 49)).cell (p := ⟨w.heap.size + 1, 0, none⟩) (by simp; try omega)).trans (by rw [World.cell?_alloc_at _ _ _ _ (by simp)]; rfl)
        have c0_1_1 : (((w.alloc (.cells #[.int .i64 s, .int .u8 k, .int .i64 x, .int .i64 y, .int .i64 v, .int .i64 b, .int .i64 wt, .int .i64 t] 26)).alloc (.cells #[.int .i64 p, .int .i64 q, .int .i64 p1, .int .i64 q1] 48)).alloc (.cells #[.int .i64 m0, .int .i64 m1] 49)).cell? ⟨w.heap.size + 1, 1, none⟩ = some (.int .i64 q) := (((Below.refl (w.heap.size + 1 + 1) ((w.alloc (.cells #[.int .i64 s, .int .u8 k, .int .i64 x, .int .i64 y, .int .i64 v, .int .i64 b, .int .i64 wt, .int .i64 t] 26)).alloc (.cells #[.int .i64 p, .int .i64 q, .int .i64 p1, .int .i64 q1] 48))).alloc (by simp; try omega) (.cells #[.int .i64 m0, .int .i64 m1] 49)).cell (p := ⟨w.heap.size + 1, 1, none⟩) (by simp; try omega)).trans (by rw [World.cell?_alloc_at _ _ _ _ (by simp)]; rfl)
        have c0_1_2 : (((w.alloc (.cells #[.int .i64 s, .int .u8 k, .int .i64 x, .int .i64 y, .int .i64 v, .int .i64 b, .int .i64 wt, .int .i64 t] 26)).alloc (.cells #[.int .i64 p, .int .i64 q, .int .i64 p1, .int .i64 q1] 48)).alloc (.cells #[.int .i64 m0, .int .i64 m1] 49)).cell? ⟨w.heap.size + 1, 2, none⟩ = some (.int .i64 p1) := (((Below.refl (w.heap.size + 1 + 1) ((w.alloc (.cells #[.int .i64 s, .int .u8 k, .int .i64 x, .int .i64 y, .int .i64 v, .int .i64 b, .int .i64 wt, .int .i64 t] 26)).alloc (.cells #[.int .i64 p, .int .i64 q, .int .i64 p1, .int .i64 q1] 48))).alloc (by simp; try omega) (.cells #[.int .i64 m0, .int .i64 m1] 49)).cell (p := ⟨w.heap.size + 1, 2, none⟩) (by simp; try omega)).trans (by rw [World.cell?_alloc_at _ _ _ _ (by simp)]; rfl)
        have c0_1_3 : (((w.alloc (.cells #[.int .i64 s, .int .u8 k, .int .i64 x, .int .i64 y, .int .i64 v, .int .i64 b, .int .i64 wt, .int .i64 t] 26)).alloc (.cells #[.int .i64 p, .int .i64 q, .int .i64 p1, .int .i64 q1] 48)).alloc (.cells #[.int .i64 m0, .int .i64 m1] 49)).cell? ⟨w.heap.size + 1, 3, none⟩ = some (.int .i64 q1) := (((Below.refl (w.heap.size + 1 + 1) ((w.alloc (.cells #[.int .i64 s, .int .u8 k, .int .i64 x, .int .i64 y, .int .i64 v, .int .i64 b, .int .i64 wt, .int .i64 t] 26)).alloc (.cells #[.int .i64 p, .int .i64 q, .int .i64 p1, .int .i64 q1] 48))).alloc (by simp; try omega) (.cells #[.int .i64 m0, .int .i64 m1] 49)).cell (p := ⟨w.heap.size + 1, 3, none⟩) (by simp; try omega)).trans (by rw [World.cell?_alloc_at _ _ _ _ (by simp)]; rfl)
        have c0_2_0 : (((w.alloc (.cells #[.int .i64 s, .int .u8 k, .int .i64 x, .int .i64 y, .int .i64 v, .int .i64 b, .int .i64 wt, .int .i64 t] 26)).alloc (.cells #[.int .i64 p, .int .i64 q, .int .i64 p1, .int .i64 q1] 48)).alloc (.cells #[.int .i64 m0, .int .i64 m1] 49)).cell? ⟨w.heap.size + 1 + 1, 0, none⟩ = some (.int .i64 m0) := by rw [World.cell?_alloc_at _ _ _ _ (by simp)]; rfl
        have c0_2_1 : (((w.alloc (.cells #[.int .i64 s, .int .u8 k, .int .i64 x, .int .i64 y, .int .i64 v, .int .i64 b, .int .i64 wt, .int .i64 t] 26)).alloc (.cells #[.int .i64 p, .int .i64 q, .int .i64 p1, .int .i64 q1] 48)).alloc (.cells #[.int .i64 m0, .int .i64 m1] 49)).cell? ⟨w.heap.size + 1 + 1, 1, none⟩ = some (.int .i64 m1) := by rw [World.cell?_alloc_at _ _ _ _ (by simp)]; rfl
        have z0_0 : w.heap.size < (((w.alloc (.cells #[.int .i64 s, .int .u8 k, .int .i64 x, .int .i64 y, .int .i64 v, .int .i64 b, .int .i64 wt, .int .i64 t] 26)).alloc (.cells #[.int .i64 p, .int .i64 q, .int .i64 p1, .int .i64 q1] 48)).alloc (.cells #[.int .i64 m0, .int .i64 m1] 49)).heap.size := by simp; try omega
        have z0_1 : w.heap.size + 1 < (((w.alloc (.cells #[.int .i64 s, .int .u8 k, .int .i64 x, .int .i64 y, .int .i64 v, .int .i64 b, .int .i64 wt, .int .i64 t] 26)).alloc (.cells #[.int .i64 p, .int .i64 q, .int .i64 p1, .int .i64 q1] 48)).alloc (.cells #[.int .i64 m0, .int .i64 m1] 49)).heap.size := by simp; try omega
        have z0_2 : w.heap.size + 1 + 1 < (((w.alloc (.cells #[.int .i64 s, .int .u8 k, .int .i64 x, .int .i64 y, .int .i64 v, .int .i64 b, .int .i64 wt, .int .i64 t] 26)).alloc (.cells #[.int .i64 p, .int .i64 q, .int .i64 p1, .int .i64 q1] 48)).alloc (.cells #[.int .i64 m0, .int .i64 m1] 49)).heap.size := by simp; try omega
        have hw0 := Lib.hid ((((Below.refl w.heap.size w).alloc (by simp; try omega) (.cells #[.int .i64 s, .int .u8 k, .int .i64 x, .int .i64 y, .int .i64 v, .int .i64 b, .int .i64 wt, .int .i64 t] 26)).alloc (by simp; try omega) (.cells #[.int .i64 p, .int .i64 q, .int .i64 p1, .int .i64 q1] 48)).alloc (by simp; try omega) (.cells #[.int .i64 m0, .int .i64 m1] 49))
        generalize hW0 : (((w.alloc (.cells #[.int .i64 s, .int .u8 k, .int .i64 x, .int .i64 y, .int .i64 v, .int .i64 b, .int .i64 wt, .int .i64 t] 26)).alloc (.cells #[.int .i64 p, .int .i64 q, .int .i64 p1, .int .i64 q1] 48)).alloc (.cells #[.int .i64 m0, .int .i64 m1] 49)) = w0 at *
        clear hW0
        refine (awake_any _ (HE.out.below hw0.out)).mono ?_
        rintro e w1 ⟨rfl, hb1⟩
        have c1_0_0 := (hb1.cell (p := ⟨w.heap.size, 0, none⟩) z0_0).trans c0_0_0
        have c1_0_1 := (hb1.cell (p := ⟨w.heap.size, 1, none⟩) z0_0).trans c0_0_1
        have c1_0_2 := (hb1.cell (p := ⟨w.heap.size, 2, none⟩) z0_0).trans c0_0_2
        have c1_0_3 := (hb1.cell (p := ⟨w.heap.size, 3, none⟩) z0_0).trans c0_0_3
        have c1_0_4 := (hb1.cell (p := ⟨w.heap.size, 4, none⟩) z0_0).trans c0_0_4
        have c1_0_5 := (hb1.cell (p := ⟨w.heap.size, 5, none⟩) z0_0).trans c0_0_5
        have c1_0_6 := (hb1.cell (p := ⟨w.heap.size, 6, none⟩) z0_0).trans c0_0_6
        have c1_0_7 := (hb1.cell (p := ⟨w.heap.size, 7, none⟩) z0_0).trans c0_0_7
        have c1_1_0 := (hb1.cell (p := ⟨w.heap.size + 1, 0, none⟩) z0_1).trans c0_1_0
        have c1_1_1 := (hb1.cell (p := ⟨w.heap.size + 1, 1, none⟩) z0_1).trans c0_1_1
        have c1_1_2 := (hb1.cell (p := ⟨w.heap.size + 1, 2, none⟩) z0_1).trans c0_1_2
        have c1_1_3 := (hb1.cell (p := ⟨w.heap.size + 1, 3, none⟩) z0_1).trans c0_1_3
        have c1_2_0 := (hb1.cell (p := ⟨w.heap.size + 1 + 1, 0, none⟩) z0_2).trans c0_2_0
        have c1_2_1 := (hb1.cell (p := ⟨w.heap.size + 1 + 1, 1, none⟩) z0_2).trans c0_2_1
        have z1_0 : w.heap.size < w1.heap.size := Nat.lt_of_lt_of_le z0_0 hb1.size
        have z1_1 : w.heap.size + 1 < w1.heap.size := Nat.lt_of_lt_of_le z0_1 hb1.size
        have z1_2 : w.heap.size + 1 + 1 < w1.heap.size := Nat.lt_of_lt_of_le z0_2 hb1.size
        have hw1 := Lib.hid (hw0.out.trans (hb1.mono hw0.out.size))
        clear hb1 hw0 c0_0_0 c0_0_1 c0_0_2 c0_0_3 c0_0_4 c0_0_5 c0_0_6 c0_0_7 c0_1_0 c0_1_1 c0_1_2 c0_1_3 c0_2_0 c0_2_1 z0_0 z0_1 z0_2
        go_wp2_with fail
        refine (HA.out _).mono ?_
        rintro e w2 ⟨rfl, hb2⟩
        have c2_0_0 := (hb2.cell (p := ⟨w.heap.size, 0, none⟩) z1_0).trans c1_0_0
        have c2_0_1 := (hb2.cell (p := ⟨w.heap.size, 1, none⟩) z1_0).trans c1_0_1
        have c2_0_2 := (hb2.cell (p := ⟨w.heap.size, 2, none⟩) z1_0).trans c1_0_2
        have c2_0_3 := (hb2.cell (p := ⟨w.heap.size, 3, none⟩) z1_0).trans c1_0_3
        have c2_0_4 := (hb2.cell (p := ⟨w.heap.size, 4, none⟩) z1_0).trans c1_0_4
        have c2_0_5 := (hb2.cell (p := ⟨w.heap.size, 5, none⟩) z1_0).trans c1_0_5
        have c2_0_6 := (hb2.cell (p := ⟨w.heap.size, 6, none⟩) z1_0).trans c1_0_6
        have c2_0_7 := (hb2.cell (p := ⟨w.heap.size, 7, none⟩) z1_0).trans c1_0_7
        have c2_1_0 := (hb2.cell (p := ⟨w.heap.size + 1, 0, none⟩) z1_1).trans c1_1_0
        have c2_1_1 := (hb2.cell (p := ⟨w.heap.size + 1, 1, none⟩) z1_1).trans c1_1_1
        have c2_1_2 := (hb2.cell (p := ⟨w.heap.size + 1, 2, none⟩) z1_1).trans c1_1_2
        have c2_1_3 := (hb2.cell (p := ⟨w.heap.size + 1, 3, none⟩) z1_1).trans c1_1_3
        have c2_2_0 := (hb2.cell (p := ⟨w.heap.size + 1 + 1, 0, none⟩) z1_2).trans c1_2_0
        have c2_2_1 := (hb2.cell (p := ⟨w.heap.size + 1 + 1, 1, none⟩) z1_2).trans c1_2_1
        have z2_0 : w.heap.size < w2.heap.size := Nat.lt_of_lt_of_le z1_0 hb2.size
        have z2_1 : w.heap.size + 1 < w2.heap.size := Nat.lt_of_lt_of_le z1_1 hb2.size
        have z2_2 : w.heap.size + 1 + 1 < w2.heap.size := Nat.lt_of_lt_of_le z1_2 hb2.size
        have hw2 := Lib.hid (hw1.out.trans (hb2.mono hw1.out.size))
        clear hb2 hw1 c1_0_0 c1_0_1 c1_0_2 c1_0_3 c1_0_4 c1_0_5 c1_0_6 c1_0_7 c1_1_0 c1_1_1 c1_1_2 c1_1_3 c1_2_0 c1_2_1 z1_0 z1_1 z1_2
        simp only [repV]
        go_wp2_with fail
        have hb3 : Below w2.heap.size w2 (w2.alloc (.cells #[.int .i64 s', .int .u8 k', .int .i64 x', .int .i64 y', .int .i64 v', .int .i64 b', .int .i64 w', .int .i64 t'] 26)) := (Below.refl w2.heap.size w2).alloc (Nat.le_refl _) _
        have c3_0_0 := (hb3.cell (p := ⟨w.heap.size, 0, none⟩) z2_0).trans c2_0_0
        have c3_0_1 := (hb3.cell (p := ⟨w.heap.size, 1, none⟩) z2_0).trans c2_0_1
        have c3_0_2 := (hb3.cell (p := ⟨w.heap.size, 2, none⟩) z2_0).trans c2_0_2
        have c3_0_3 := (hb3.cell (p := ⟨w.heap.size, 3, none⟩) z2_0).trans c2_0_3
        have c3_0_4 := (hb3.cell (p := ⟨w.heap.size, 4, none⟩) z2_0).trans c2_0_4
        have c3_0_5 := (hb3.cell (p := ⟨w.heap.size, 5, none⟩) z2_0).trans c2_0_5
        have c3_0_6 := (hb3.cell (p := ⟨w.heap.size, 6, none⟩) z2_0).trans c2_0_6
        have c3_0_7 := (hb3.cell (p := ⟨w.heap.size, 7, none⟩) z2_0).trans c2_0_7
        have c3_1_0 := (hb3.cell (p := ⟨w.heap.size + 1, 0, none⟩) z2_1).trans c2_1_0
        have c3_1_1 := (hb3.cell (p := ⟨w.heap.size + 1, 1, none⟩) z2_1).trans c2_1_1
        have c3_1_2 := (hb3.cell (p := ⟨w.heap.size + 1, 2, none⟩) z2_1).trans c2_1_2
        have c3_1_3 := (hb3.cell (p := ⟨w.heap.size + 1, 3, none⟩) z2_1).trans c2_1_3
        have c3_2_0 := (hb3.cell (p := ⟨w.heap.size + 1 + 1, 0, none⟩) z2_2).trans c2_2_0
        have c3_2_1 := (hb3.cell (p := ⟨w.heap.size + 1 + 1, 1, none⟩) z2_2).trans c2_2_1
        have z3_0 : w.heap.size < (w2.alloc (.cells #[.int .i64 s', .int .u8 k', .int .i64 x', .int .i64 y', .int .i64 v', .int .i64 b', .int .i64 w', .int .i64 t'] 26)).heap.size := Nat.lt_of_lt_of_le z2_0 hb3.size
        have z3_1 : w.heap.size + 1 < (w2.alloc (.cells #[.int .i64 s', .int .u8 k', .int .i64 x', .int .i64 y', .int .i64 v', .int .i64 b', .int .i64 w', .int .i64 t'] 26)).heap.size := Nat.lt_of_lt_of_le z2_1 hb3.size
        have z3_2 : w.heap.size + 1 + 1 < (w2.alloc (.cells #[.int .i64 s', .int .u8 k', .int .i64 x', .int .i64 y', .int .i64 v', .int .i64 b', .int .i64 w', .int .i64 t'] 26)).heap.size := Nat.lt_of_lt_of_le z2_2 hb3.size
        have c3_3_0 : (w2.alloc (.cells #[.int .i64 s', .int .u8 k', .int .i64 x', .int .i64 y', .int .i64 v', .int .i64 b', .int .i64 w', .int .i64 t'] 26)).cell? ⟨w2.heap.size, 0, none⟩ = some (.int .i64 s') := by rw [World.cell?_alloc_at _ _ _ _ (by simp)]; rfl
        have c3_3_1 : (w2.alloc (.cells #[.int .i64 s', .int .u8 k', .int .i64 x', .int .i64 y', .int .i64 v', .int .i64 b', .int .i64 w', .int .i64 t'] 26)).cell? ⟨w2.heap.size, 1, none⟩ = some (.int .u8 k') := by rw [World.cell?_alloc_at _ _ _ _ (by simp)]; rfl
        have c3_3_2 : (w2.alloc (.cells #[.int .i64 s', .int .u8 k', .int .i64 x', .int .i64 y', .int .i64 v', .int .i64 b', .int .i64 w', .int .i64 t'] 26)).cell? ⟨w2.heap.size, 2, none⟩ = some (.int .i64 x') := by rw [World.cell?_alloc_at _ _ _ _ (by simp)]; rfl
        have c3_3_3 : (w2.alloc (.cells #[.int .i64 s', .int .u8 k', .int .i64 x', .int .i64 y', .int .i64 v', .int .i64 b', .int .i64 w', .int .i64 t'] 26)).cell? ⟨w2.heap.size, 3, none⟩ = some (.int .i64 y') := by rw [World.cell?_alloc_at _ _ _ _ (by simp)]; rfl
        have c3_3_4 : (w2.alloc (.cells #[.int .i64 s', .int .u8 k', .int .i64 x', .int .i64 y', .int .i64 v', .int .i64 b', .int .i64 w', .int .i64 t'] 26)).cell? ⟨w2.heap.size, 4, none⟩ = some (.int .i64 v') := by rw [World.cell?_alloc_at _ _ _ _ (by simp)]; rfl
        have c3_3_5 : (w2.alloc (.cells #[.int .i64 s', .int .u8 k', .int .i64 x', .int .i64 y', .int .i64 v', .int .i64 b', .int .i64 w', .int .i64 t'] 26)).cell? ⟨w2.heap.size, 5, none⟩ = some (.int .i64 b') := by rw [World.cell?_alloc_at _ _ _ _ (by simp)]; rfl
        have c3_3_6 : (w2.alloc (.cells #[.int .i64 s', .int .u8 k', .int .i64 x', .int .i64 y', .int .i64 v', .int .i64 b', .int .i64 w', .int .i64 t'] 26)).cell? ⟨w2.heap.size, 6, none⟩ = some (.int .i64 w') := by rw [World.cell?_alloc_at _ _ _ _ (by simp)]; rfl
        have c3_3_7 : (w2.alloc (.cells #[.int .i64 s', .int .u8 k', .int .i64 x', .int .i64 y', .int .i64 v', .int .i64 b', .int .i64 w', .int .i64 t'] 26)).cell? ⟨w2.heap.size, 7, none⟩ = some (.int .i64 t') := by rw [World.cell?_alloc_at _ _ _ _ (by simp)]; rfl
        have z3_3 : w2.heap.size < (w2.alloc (.cells #[.int .i64 s', .int .u8 k', .int .i64 x', .int .i64 y', .int .i64 v', .int .i64 b', .int .i64 w', .int .i64 t'] 26)).heap.size := by simp
        have hw3 := Lib.hid (hw2.out.trans (hb3.mono hw2.out.size))
        generalize hW3 : (w2.alloc (.cells #[.int .i64 s', .int .u8 k', .int .i64 x', .int .i64 y', .int .i64 v', .int .i64 b', .int .i64 w', .int .i64 t'] 26)) = w3 at *
        clear hW3 hb3 hw2 c2_0_0 c2_0_1 c2_0_2 c2_0_3 c2_0_4 c2_0_5 c2_0_6 c2_0_7 c2_1_0 c2_1_1 c2_1_2 c2_1_3 c2_2_0 c2_2_1 z2_0 z2_1 z2_2
        refine (HG0.out _).mono ?_
        rintro e w4 ⟨rfl, hb4⟩
        have c4_0_0 := (hb4.cell (p := ⟨w.heap.size, 0, none⟩) z3_0).trans c3_0_0
        have c4_0_1 := (hb4.cell (p := ⟨w.heap.size, 1, none⟩) z3_0).trans c3_0_1
        have c4_0_2 := (hb4.cell (p := ⟨w.heap.size, 2, none⟩) z3_0).trans c3_0_2
        have c4_0_3 := (hb4.cell (p := ⟨w.heap.size, 3, none⟩) z3_0).trans c3_0_3
        have c4_0_4 := (hb4.cell (p := ⟨w.heap.size, 4, none⟩) z3_0).trans c3_0_4
        have c4_0_5 := (hb4.cell (p := ⟨w.heap.size, 5, none⟩) z3_0).trans c3_0_5
        have c4_0_6 := (hb4.cell (p := ⟨w.heap.size, 6, none⟩) z3_0).trans c3_0_6
        have c4_0_7 := (hb4.cell (p := ⟨w.heap.size, 7, none⟩) z3_0).trans c3_0_7
        have c4_1_0 := (hb4.cell (p := ⟨w.heap.size + 1, 0, none⟩) z3_1).trans c3_1_0
        have c4_1_1 := (hb4.cell (p := ⟨w.heap.size + 1, 1, none⟩) z3_1).trans c3_1_1
        have c4_1_2 := (hb4.cell (p := ⟨w.heap.size + 1, 2, none⟩) z3_1).trans c3_1_2
        have c4_1_3 := (hb4.cell (p := ⟨w.heap.size + 1, 3, none⟩) z3_1).trans c3_1_3
        have c4_2_0 := (hb4.cell (p := ⟨w.heap.size + 1 + 1, 0, none⟩) z3_2).trans c3_2_0
        have c4_2_1 := (hb4.cell (p := ⟨w.heap.size + 1 + 1, 1, none⟩) z3_2).trans c3_2_1
        have c4_3_0 := (hb4.cell (p := ⟨w2.heap.size, 0, none⟩) z3_3).trans c3_3_0
        have c4_3_1 := (hb4.cell (p := ⟨w2.heap.size, 1, none⟩) z3_3).trans c3_3_1
        have c4_3_2 := (hb4.cell (p := ⟨w2.heap.size, 2, none⟩) z3_3).trans c3_3_2
        have c4_3_3 := (hb4.cell (p := ⟨w2.heap.size, 3, none⟩) z3_3).trans c3_3_3
        have c4_3_4 := (hb4.cell (p := ⟨w2.heap.size, 4, none⟩) z3_3).trans c3_3_4
        have c4_3_5 := (hb4.cell (p := ⟨w2.heap.size, 5, none⟩) z3_3).trans c3_3_5
        have c4_3_6 := (hb4.cell (p := ⟨w2.heap.size, 6, none⟩) z3_3).trans c3_3_6
        have c4_3_7 := (hb4.cell (p := ⟨w2.heap.size, 7, none⟩) z3_3).trans c3_3_7
        have z4_0 : w.heap.size < w4.heap.size := Nat.lt_of_lt_of_le z3_0 hb4.size
        have z4_1 : w.heap.size + 1 < w4.heap.size := Nat.lt_of_lt_of_le z3_1 hb4.size
        have z4_2 : w.heap.size + 1 + 1 < w4.heap.size := Nat.lt_of_lt_of_le z3_2 hb4.size
        have z4_3 : w2.heap.size < w4.heap.size := Nat.lt_of_lt_of_le z3_3 hb4.size
        have hw4 := Lib.hid (hw3.out.trans (hb4.mono hw3.out.size))
        clear hb4 hw3 c3_0_0 c3_0_1 c3_0_2 c3_0_3 c3_0_4 c3_0_5 c3_0_6 c3_0_7 c3_1_0 c3_1_1 c3_1_2 c3_1_3 c3_2_0 c3_2_1 c3_3_0 c3_3_1 c3_3_2 c3_3_3 c3_3_4 c3_3_5 c3_3_6 c3_3_7 z3_0 z3_1 z3_2 z3_3
        go_wp2_with fail
        refine (HV0.out _).mono ?_
        rintro e w5 ⟨rfl, hb5⟩
        have c5_0_0 := (hb5.cell (p := ⟨w.heap.size, 0, none⟩) z4_0).trans c4_0_0
        have c5_0_1 := (hb5.cell (p := ⟨w.heap.size, 1, none⟩) z4_0).trans c4_0_1
        have c5_0_2 := (hb5.cell (p := ⟨w.heap.size, 2, none⟩) z4_0).trans c4_0_2
        have c5_0_3 := (hb5.cell (p := ⟨w.heap.size, 3, none⟩) z4_0).trans c4_0_3
        have c5_0_4 := (hb5.cell (p := ⟨w.heap.size, 4, none⟩) z4_0).trans c4_0_4
        have c5_0_5 := (hb5.cell (p := ⟨w.heap.size, 5, none⟩) z4_0).trans c4_0_5
        have c5_0_6 := (hb5.cell (p := ⟨w.heap.size, 6, none⟩) z4_0).trans c4_0_6
        have c5_0_7 := (hb5.cell (p := ⟨w.heap.size, 7, none⟩) z4_0).trans c4_0_7
        have c5_1_0 := (hb5.cell (p := ⟨w.heap.size + 1, 0, none⟩) z4_1).trans c4_1_0
        have c5_1_1 := (hb5.cell (p := ⟨w.heap.size + 1, 1, none⟩) z4_1).trans c4_1_1
        have c5_1_2 := (hb5.cell (p := ⟨w.heap.size + 1, 2, none⟩) z4_1).trans c4_1_2
        have c5_1_3 := (hb5.cell (p := ⟨w.heap.size + 1, 3, none⟩) z4_1).trans c4_1_3
        have c5_2_0 := (hb5.cell (p := ⟨w.heap.size + 1 + 1, 0, none⟩) z4_2).trans c4_2_0
        have c5_2_1 := (hb5.cell (p := ⟨w.heap.size + 1 + 1, 1, none⟩) z4_2).trans c4_2_1
        have c5_3_0 := (hb5.cell (p := ⟨w2.heap.size, 0, none⟩) z4_3).trans c4_3_0
        have c5_3_1 := (hb5.cell (p := ⟨w2.heap.size, 1, none⟩) z4_3).trans c4_3_1
        have c5_3_2 := (hb5.cell (p := ⟨w2.heap.size, 2, none⟩) z4_3).trans c4_3_2
        have c5_3_3 := (hb5.cell (p := ⟨w2.heap.size, 3, none⟩) z4_3).trans c4_3_3
        have c5_3_4 := (hb5.cell (p := ⟨w2.heap.size, 4, none⟩) z4_3).trans c4_3_4
        have c5_3_5 := (hb5.cell (p := ⟨w2.heap.size, 5, none⟩) z4_3).trans c4_3_5
        have c5_3_6 := (hb5.cell (p := ⟨w2.heap.size, 6, none⟩) z4_3).trans c4_3_6
        have c5_3_7 := (hb5.cell (p := ⟨w2.heap.size, 7, none⟩) z4_3).trans c4_3_7
        have z5_0 : w.heap.size < w5.heap.size := Nat.lt_of_lt_of_le z4_0 hb5.size
        have z5_1 : w.heap.size + 1 < w5.heap.size := Nat.lt_of_lt_of_le z4_1 hb5.size
        have z5_2 : w.heap.size + 1 + 1 < w5.heap.size := Nat.lt_of_lt_of_le z4_2 hb5.size
        have z5_3 : w2.heap.size < w5.heap.size := Nat.lt_of_lt_of_le z4_3 hb5.size
        have hw5 := Lib.hid (hw4.out.trans (hb5.mono hw4.out.size))
        clear hb5 hw4 c4_0_0 c4_0_1 c4_0_2 c4_0_3 c4_0_4 c4_0_5 c4_0_6 c4_0_7 c4_1_0 c4_1_1 c4_1_2 c4_1_3 c4_2_0 c4_2_1 c4_3_0 c4_3_1 c4_3_2 c4_3_3 c4_3_4 c4_3_5 c4_3_6 c4_3_7 z4_0 z4_1 z4_2 z4_3
        go_wp2
        go_ret
        exact ⟨rfl, hw5.out⟩
      | true =>
        have hp1 := pvB_iff.1 hgv
        obtain ⟨a0, a1, a2, a3⟩ := hpq
        obtain ⟨b0, b1, b2, b3⟩ := hp1
        have sx := sq_bd (x := p1 - p) (k := 4000000) (by omega) (by omega)
        have sy := sq_bd (x := q1 - q) (k := 4000000) (by omega) (by omega)
        have sm := sq_bd (x := m1 * (m0 - t)) (k := 20000) (by omega) hm1
        obtain ⟨sx0, sx1⟩ := sx
        obtain ⟨sy0, sy1⟩ := sy
        obtain ⟨sm0, sm1⟩ := sm
        unfold d2 at hmv
        by_cases hd : (p1 - p) * (p1 - p) + (q1 - q) * (q1 - q) ≤ m1 * (m0 - t) * (m1 * (m0 - t))
        · have f1 : decide (m1 * (m0 - t) * (m1 * (m0 - t)) < (p1 - p) * (p1 - p) + (q1 - q) * (q1 - q)) = false := by simp; omega
          rw [hmv rfl rfl hd] at G1
          have HG1 := Lib.hid G1
          clear G1 hmv hd hga hgv
          go_enter Tryd.func9, Tryd.ntmps9
          go_wp2_with fail
          have c0_0_0 : (((w.alloc (.cells #[.int .i64 s, .int .u8 k, .int .i64 x, .int .i64 y, .int .i64 v, .int .i64 b, .int .i64 wt, .int .i64 t] 26)).alloc (.cells #[.int .i64 p, .int .i64 q, .int .i64 p1, .int .i64 q1] 48)).alloc (.cells #[.int .i64 m0, .int .i64 m1] 49)).cell? ⟨w.heap.size, 0, none⟩ = some (.int .i64 s) := ((((Below.refl (w.heap.size + 1) (w.alloc (.cells #[.int .i64 s, .int .u8 k, .int .i64 x, .int .i64 y, .int .i64 v, .int .i64 b, .int .i64 wt, .int .i64 t] 26))).alloc (by simp; try omega) (.cells #[.int .i64 p, .int .i64 q, .int .i64 p1, .int .i64 q1] 48)).alloc (by simp; try omega) (.cells #[.int .i64 m0, .int .i64 m1] 49)).cell (p := ⟨w.heap.size, 0, none⟩) (by simp; try omega)).trans (by rw [World.cell?_alloc_at _ _ _ _ (by simp)]; rfl)
          have c0_0_1 : (((w.alloc (.cells #[.int .i64 s, .int .u8 k, .int .i64 x, .int .i64 y, .int .i64 v, .int .i64 b, .int .i64 wt, .int .i64 t] 26)).alloc (.cells #[.int .i64 p, .int .i64 q, .int .i64 p1, .int .i64 q1] 48)).alloc (.cells #[.int .i64 m0, .int .i64 m1] 49)).cell? ⟨w.heap.size, 1, none⟩ = some (.int .u8 k) := ((((Below.refl (w.heap.size + 1) (w.alloc (.cells #[.int .i64 s, .int .u8 k, .int .i64 x, .int .i64 y, .int .i64 v, .int .i64 b, .int .i64 wt, .int .i64 t] 26))).alloc (by simp; try omega) (.cells #[.int .i64 p, .int .i64 q, .int .i64 p1, .int .i64 q1] 48)).alloc (by simp; try omega) (.cells #[.int .i64 m0, .int .i64 m1] 49)).cell (p := ⟨w.heap.size, 1, none⟩) (by simp; try omega)).trans (by rw [World.cell?_alloc_at _ _ _ _ (by simp)]; rfl)
          have c0_0_2 : (((w.alloc (.cells #[.int .i64 s, .int .u8 k, .int .i64 x, .int .i64 y, .int .i64 v, .int .i64 b, .int .i64 wt, .int .i64 t] 26)).alloc (.cells #[.int .i64 p, .int .i64 q, .int .i64 p1, .int .i64 q1] 48)).alloc (.cells #[.int .i64 m0, .int .i64 m1] 49)).cell? ⟨w.heap.size, 2, none⟩ = some (.int .i64 x) := ((((Below.refl (w.heap.size + 1) (w.alloc (.cells #[.int .i64 s, .int .u8 k, .int .i64 x, .int .i64 y, .int .i64 v, .int .i64 b, .int .i64 wt, .int .i64 t] 26))).alloc (by simp; try omega) (.cells #[.int .i64 p, .int .i64 q, .int .i64 p1, .int .i64 q1] 48)).alloc (by simp; try omega) (.cells #[.int .i64 m0, .int .i64 m1] 49)).cell (p := ⟨w.heap.size, 2, none⟩) (by simp; try omega)).trans (by rw [World.cell?_alloc_at _ _ _ _ (by simp)]; rfl)
          have c0_0_3 : (((w.alloc (.cells #[.int .i64 s, .int .u8 k, .int .i64 x, .int .i64 y, .int .i64 v, .int .i64 b, .int .i64 wt, .int .i64 t] 26)).alloc (.cells #[.int .i64 p, .int .i64 q, .int .i64 p1, .int .i64 q1] 48)).alloc (.cells #[.int .i64 m0, .int .i64 m1] 49)).cell? ⟨w.heap.size, 3, none⟩ = some (.int .i64 y) := ((((Below.refl (w.heap.size + 1) (w.alloc (.cells #[.int .i64 s, .int .u8 k, .int .i64 x, .int .i64 y, .int .i64 v, .int .i64 b, .int .i64 wt, .int .i64 t] 26))).alloc (by simp; try omega) (.cells #[.int .i64 p, .int .i64 q, .int .i64 p1, .int .i64 q1] 48)).alloc (by simp; try omega) (.cells #[.int .i64 m0, .int .i64 m1] 49)).cell (p := ⟨w.heap.size, 3, none⟩) (by simp; try omega)).trans (by rw [World.cell?_alloc_at _ _ _ _ (by simp)]; rfl)
          have c0_0_4 : (((w.alloc (.cells #[.int .i64 s, .int .u8 k, .int .i64 x, .int .i64 y, .int .i64 v, .int .i64 b, .int .i64 wt, .int .i64 t] 26)).alloc (.cells #[.int .i64 p, .int .i64 q, .int .i64 p1, .int .i64 q1] 48)).alloc (.cells #[.int .i64 m0, .int .i64 m1] 49)).cell? ⟨w.heap.size, 4, none⟩ = some (.int .i64 v) := ((((Below.refl (w.heap.size + 1) (w.alloc (.cells #[.int .i64 s, .int .u8 k, .int .i64 x, .int .i64 y, .int .i64 v, .int .i64 b, .int .i64 wt, .int .i64 t] 26))).alloc (by simp; try omega) (.cells #[.int .i64 p, .int .i64 q, .int .i64 p1, .int .i64 q1] 48)).alloc (by simp; try omega) (.cells #[.int .i64 m0, .int .i64 m1] 49)).cell (p := ⟨w.heap.size, 4, none⟩) (by simp; try omega)).trans (by rw [World.cell?_alloc_at _ _ _ _ (by simp)]; rfl)
          have c0_0_5 : (((w.alloc (.cells #[.int .i64 s, .int .u8 k, .int .i64 x, .int .i64 y, .int .i64 v, .int .i64 b, .int .i64 wt, .int .i64 t] 26)).alloc (.cells #[.int .i64 p, .int .i64 q, .int .i64 p1, .int .i64 q1] 48)).alloc (.cells #[.int .i64 m0, .int .i64 m1] 49)).cell? ⟨w.heap.size, 5, none⟩ = some (.int .i64 b) := ((((Below.refl (w.heap.size + 1) (w.alloc (.cells #[.int .i64 s, .int .u8 k, .int .i64 x, .int .i64 y, .int .i64 v, .int .i64 b, .int .i64 wt, .int .i64 t] 26))).alloc (by simp; try omega) (.cells #[.int .i64 p, .int .i64 q, .int .i64 p1, .int .i64 q1] 48)).alloc (by simp; try omega) (.cells #[.int .i64 m0, .int .i64 m1] 49)).cell (p := ⟨w.heap.size, 5, none⟩) (by simp; try omega)).trans (by rw [World.cell?_alloc_at _ _ _ _ (by simp)]; rfl)
          have c0_0_6 : (((w.alloc (.cells #[.int .i64 s, .int .u8 k, .int .i64 x, .int .i64 y, .int .i64 v, .int .i64 b, .int .i64 wt, .int .i64 t] 26)).alloc (.cells #[.int .i64 p, .int .i64 q, .int .i64 p1, .int .i64 q1] 48)).alloc (.cells #[.int .i64 m0, .int .i64 m1] 49)).cell? ⟨w.heap.size, 6, none⟩ = some (.int .i64 wt) := ((((Below.refl (w.heap.size + 1) (w.alloc (.cells #[.int .i64 s, .int .u8 k, .int .i64 x, .int .i64 y, .int .i64 v, .int .i64 b, .int .i64 wt, .int .i64 t] 26))).alloc (by simp; try omega) (.cells #[.int .i64 p, .int .i64 q, .int .i64 p1, .int .i64 q1] 48)).alloc (by simp; try omega) (.cells #[.int .i64 m0, .int .i64 m1] 49)).cell (p := ⟨w.heap.size, 6, none⟩) (by simp; try omega)).trans (by rw [World.cell?_alloc_at _ _ _ _ (by simp)]; rfl)
          have c0_0_7 : (((w.alloc (.cells #[.int .i64 s, .int .u8 k, .int .i64 x, .int .i64 y, .int .i64 v, .int .i64 b, .int .i64 wt, .int .i64 t] 26)).alloc (.cells #[.int .i64 p, .int .i64 q, .int .i64 p1, .int .i64 q1] 48)).alloc (.cells #[.int .i64 m0, .int .i64 m1] 49)).cell? ⟨w.heap.size, 7, none⟩ = some (.int .i64 t) := ((((Below.refl (w.heap.size + 1) (w.alloc (.cells #[.int .i64 s, .int .u8 k, .int .i64 x, .int .i64 y, .int .i64 v, .int .i64 b, .int .i64 wt, .int .i64 t] 26))).alloc (by simp; try omega) (.cells #[.int .i64 p, .int .i64 q, .int .i64 p1, .int .i64 q1] 48)).alloc (by simp; try omega) (.cells #[.int .i64 m0, .int .i64 m1] 49)).cell (p := ⟨w.heap.size, 7, none⟩) (by simp; try omega)).trans (by rw [World.cell?_alloc_at _ _ _ _ (by simp)]; rfl)
          have c0_1_0 : (((w.alloc (.cells #[.int .i64 s, .int .u8 k, .int .i64 x, .int .i64 y, .int .i64 v, .int .i64 b, .int .i64 wt, .int .i64 t] 26)).alloc (.cells #[.int .i64 p, .int .i64 q, .int .i64 p1, .int .i64 q1] 48)).alloc (.cells #[.int .i64 m0, .int .i64 m1] 49)).cell? ⟨w.heap.size + 1, 0, none⟩ = some (.int .i64 p) := (((Below.refl (w.heap.size + 1 + 1) ((w.alloc (.cells #[.int .i64 s, .int .u8 k, .int .i64 x, .int .i64 y, .int .i64 v, .int .i64 b, .int .i64 wt, .int .i64 t] 26)).alloc (.cells #[.int .i64 p, .int .i64 q, .int .i64 p1, .int .i64 q1] 48))).alloc (by simp; try omega) (.cells #[.int .i64 m0, .int .i64 m1] 49)).cell (p := ⟨w.heap.size + 1, 0, none⟩) (by simp; try omega)).trans (by rw [World.cell?_alloc_at _ _ _ _ (by simp)]; rfl)
          have c0_1_1 : (((w.alloc (.cells #[.int .i64 s, .int .u8 k, .int .i64 x, .int .i64 y, .int .i64 v, .int .i64 b, .int .i64 wt, .int .i64 t] 26)).alloc (.cells #[.int .i64 p, .int .i64 q, .int .i64 p1, .int .i64 q1] 48)).alloc (.cells #[.int .i64 m0, .int .i64 m1] 49)).cell? ⟨w.heap.size + 1, 1, none⟩ = some (.int .i64 q) := (((Below.refl (w.heap.size + 1 + 1) ((w.alloc (.cells #[.int .i64 s, .int .u8 k, .int .i64 x, .int .i64 y, .int .i64 v, .int .i64 b, .int .i64 wt, .int .i64 t] 26)).alloc (.cells #[.int .i64 p, .int .i64 q, .int .i64 p1, .int .i64 q1] 48))).alloc (by simp; try omega) (.cells #[.int .i64 m0, .int .i64 m1] 49)).cell (p := ⟨w.heap.size + 1, 1, none⟩) (by simp; try omega)).trans (by rw [World.cell?_alloc_at _ _ _ _ (by simp)]; rfl)
          have c0_1_2 : (((w.alloc (.cells #[.int .i64 s, .int .u8 k, .int .i64 x, .int .i64 y, .int .i64 v, .int .i64 b, .int .i64 wt, .int .i64 t] 26)).alloc (.cells #[.int .i64 p, .int .i64 q, .int .i64 p1, .int .i64 q1] 48)).alloc (.cells #[.int .i64 m0, .int .i64 m1] 49)).cell? ⟨w.heap.size + 1, 2, none⟩ = some (.int .i64 p1) := (((Below.refl (w.heap.size + 1 + 1) ((w.alloc (.cells #[.int .i64 s, .int .u8 k, .int .i64 x, .int .i64 y, .int .i64 v, .int .i64 b, .int .i64 wt, .int .i64 t] 26)).alloc (.cells #[.int .i64 p, .int .i64 q, .int .i64 p1, .int .i64 q1] 48))).alloc (by simp; try omega) (.cells #[.int .i64 m0, .int .i64 m1] 49)).cell (p := ⟨w.heap.size + 1, 2, none⟩) (by simp; try omega)).trans (by rw [World.cell?_alloc_at _ _ _ _ (by simp)]; rfl)
          have c0_1_3 : (((w.alloc (.cells #[.int .i64 s, .int .u8 k, .int .i64 x, .int .i64 y, .int .i64 v, .int .i64 b, .int .i64 wt, .int .i64 t] 26)).alloc (.cells #[.int .i64 p, .int .i64 q, .int .i64 p1, .int .i64 q1] 48)).alloc (.cells #[.int .i64 m0, .int .i64 m1] 49)).cell? ⟨w.heap.size + 1, 3, none⟩ = some (.int .i64 q1) := (((Below.refl (w.heap.size + 1 + 1) ((w.alloc (.cells #[.int .i64 s, .int .u8 k, .int .i64 x, .int .i64 y, .int .i64 v, .int .i64 b, .int .i64 wt, .int .i64 t] 26)).alloc (.cells #[.int .i64 p, .int .i64 q, .int .i64 p1, .int .i64 q1] 48))).alloc (by simp; try omega) (.cells #[.int .i64 m0, .int .i64 m1] 49)).cell (p := ⟨w.heap.size + 1, 3, none⟩) (by simp; try omega)).trans (by rw [World.cell?_alloc_at _ _ _ _ (by simp)]; rfl)
          have c0_2_0 : (((w.alloc (.cells #[.int .i64 s, .int .u8 k, .int .i64 x, .int .i64 y, .int .i64 v, .int .i64 b, .int .i64 wt, .int .i64 t] 26)).alloc (.cells #[.int .i64 p, .int .i64 q, .int .i64 p1, .int .i64 q1] 48)).alloc (.cells #[.int .i64 m0, .int .i64 m1] 49)).cell? ⟨w.heap.size + 1 + 1, 0, none⟩ = some (.int .i64 m0) := by rw [World.cell?_alloc_at _ _ _ _ (by simp)]; rfl
          have c0_2_1 : (((w.alloc (.cells #[.int .i64 s, .int .u8 k, .int .i64 x, .int .i64 y, .int .i64 v, .int .i64 b, .int .i64 wt, .int .i64 t] 26)).alloc (.cells #[.int .i64 p, .int .i64 q, .int .i64 p1, .int .i64 q1] 48)).alloc (.cells #[.int .i64 m0, .int .i64 m1] 49)).cell? ⟨w.heap.size + 1 + 1, 1, none⟩ = some (.int .i64 m1) := by rw [World.cell?_alloc_at _ _ _ _ (by simp)]; rfl
          have z0_0 : w.heap.size < (((w.alloc (.cells #[.int .i64 s, .int .u8 k, .int .i64 x, .int .i64 y, .int .i64 v, .int .i64 b, .int .i64 wt, .int .i64 t] 26)).alloc (.cells #[.int .i64 p, .int .i64 q, .int .i64 p1, .int .i64 q1] 48)).alloc (.cells #[.int .i64 m0, .int .i64 m1] 49)).heap.size := by simp; try omega
          have z0_1 : w.heap.size + 1 < (((w.alloc (.cells #[.int .i64 s, .int .u8 k, .int .i64 x, .int .i64 y, .int .i64 v, .int .i64 b, .int .i64 wt, .int .i64 t] 26)).alloc (.cells #[.int .i64 p, .int .i64 q, .int .i64 p1, .int .i64 q1] 48)).alloc (.cells #[.int .i64 m0, .int .i64 m1] 49)).heap.size := by simp; try omega
          have z0_2 : w.heap.size + 1 + 1 < (((w.alloc (.cells #[.int .i64 s, .int .u8 k, .int .i64 x, .int .i64 y, .int .i64 v, .int .i64 b, .int .i64 wt, .int .i64 t] 26)).alloc (.cells #[.int .i64 p, .int .i64 q, .int .i64 p1, .int .i64 q1] 48)).alloc (.cells #[.int .i64 m0, .int .i64 m1] 49)).heap.size := by simp; try omega
          have hw0 := Lib.hid ((((Below.refl w.heap.size w).alloc (by simp; try omega) (.cells #[.int .i64 s, .int .u8 k, .int .i64 x, .int .i64 y, .int .i64 v, .int .i64 b, .int .i64 wt, .int .i64 t] 26)).alloc (by simp; try omega) (.cells #[.int .i64 p, .int .i64 q, .int .i64 p1, .int .i64 q1] 48)).alloc (by simp; try omega) (.cells #[.int .i64 m0, .int .i64 m1] 49))
          generalize hW0 : (((w.alloc (.cells #[.int .i64 s, .int .u8 k, .int .i64 x, .int .i64 y, .int .i64 v, .int .i64 b, .int .i64 wt, .int .i64 t] 26)).alloc (.cells #[.int .i64 p, .int .i64 q, .int .i64 p1, .int .i64 q1] 48)).alloc (.cells #[.int .i64 m0, .int .i64 m1] 49)) = w0 at *
          clear hW0
          refine (awake_any _ (HE.out.below hw0.out)).mono ?_
          rintro e w1 ⟨rfl, hb1⟩
          have c1_0_0 := (hb1.cell (p := ⟨w.heap.size, 0, none⟩) z0_0).trans c0_0_0
          have c1_0_1 := (hb1.cell (p := ⟨w.heap.size, 1, none⟩) z0_0).trans c0_0_1
          have c1_0_2 := (hb1.cell (p := ⟨w.heap.size, 2, none⟩) z0_0).trans c0_0_2
          have c1_0_3 := (hb1.cell (p := ⟨w.heap.size, 3, none⟩) z0_0).trans c0_0_3
          have c1_0_4 := (hb1.cell (p := ⟨w.heap.size, 4, none⟩) z0_0).trans c0_0_4
          have c1_0_5 := (hb1.cell (p := ⟨w.heap.size, 5, none⟩) z0_0).trans c0_0_5
          have c1_0_6 := (hb1.cell (p := ⟨w.heap.size, 6, none⟩) z0_0).trans c0_0_6
          have c1_0_7 := (hb1.cell (p := ⟨w.heap.size, 7, none⟩) z0_0).trans c0_0_7
          have c1_1_0 := (hb1.cell (p := ⟨w.heap.size + 1, 0, none⟩) z0_1).trans c0_1_0
          have c1_1_1 := (hb1.cell (p := ⟨w.heap.size + 1, 1, none⟩) z0_1).trans c0_1_1
          have c1_1_2 := (hb1.cell (p := ⟨w.heap.size + 1, 2, none⟩) z0_1).trans c0_1_2
          have c1_1_3 := (hb1.cell (p := ⟨w.heap.size + 1, 3, none⟩) z0_1).trans c0_1_3
          have c1_2_0 := (hb1.cell (p := ⟨w.heap.size + 1 + 1, 0, none⟩) z0_2).trans c0_2_0
          have c1_2_1 := (hb1.cell (p := ⟨w.heap.size + 1 + 1, 1, none⟩) z0_2).trans c0_2_1
          have z1_0 : w.heap.size < w1.heap.size := Nat.lt_of_lt_of_le z0_0 hb1.size
          have z1_1 : w.heap.size + 1 < w1.heap.size := Nat.lt_of_lt_of_le z0_1 hb1.size
          have z1_2 : w.heap.size + 1 + 1 < w1.heap.size := Nat.lt_of_lt_of_le z0_2 hb1.size
          have hw1 := Lib.hid (hw0.out.trans (hb1.mono hw0.out.size))
          clear hb1 hw0 c0_0_0 c0_0_1 c0_0_2 c0_0_3 c0_0_4 c0_0_5 c0_0_6 c0_0_7 c0_1_0 c0_1_1 c0_1_2 c0_1_3 c0_2_0 c0_2_1 z0_0 z0_1 z0_2
          go_wp2_with fail
          refine (HA.out _).mono ?_
          rintro e w2 ⟨rfl, hb2⟩
          have c2_0_0 := (hb2.cell (p := ⟨w.heap.size, 0, none⟩) z1_0).trans c1_0_0
          have c2_0_1 := (hb2.cell (p := ⟨w.heap.size, 1, none⟩) z1_0).trans c1_0_1
          have c2_0_2 := (hb2.cell (p := ⟨w.heap.size, 2, none⟩) z1_0).trans c1_0_2
          have c2_0_3 := (hb2.cell (p := ⟨w.heap.size, 3, none⟩) z1_0).trans c1_0_3
          have c2_0_4 := (hb2.cell (p := ⟨w.heap.size, 4, none⟩) z1_0).trans c1_0_4
          have c2_0_5 := (hb2.cell (p := ⟨w.heap.size, 5, none⟩) z1_0).trans c1_0_5
          have c2_0_6 := (hb2.cell (p := ⟨w.heap.size, 6, none⟩) z1_0).trans c1_0_6
          have c2_0_7 := (hb2.cell (p := ⟨w.heap.size, 7, none⟩) z1_0).trans c1_0_7
          have c2_1_0 := (hb2.cell (p := ⟨w.heap.size + 1, 0, none⟩) z1_1).trans c1_1_0
          have c2_1_1 := (hb2.cell (p := ⟨w.heap.size + 1, 1, none⟩) z1_1).trans c1_1_1
          have c2_1_2 := (hb2.cell (p := ⟨w.heap.size + 1, 2, none⟩) z1_1).trans c1_1_2
          have c2_1_3 := (hb2.cell (p := ⟨w.heap.size + 1, 3, none⟩) z1_1).trans c1_1_3
          have c2_2_0 := (hb2.cell (p := ⟨w.heap.size + 1 + 1, 0, none⟩) z1_2).trans c1_2_0
          have c2_2_1 := (hb2.cell (p := ⟨w.heap.size + 1 + 1, 1, none⟩) z1_2).trans c1_2_1
          have z2_0 : w.heap.size < w2.heap.size := Nat.lt_of_lt_of_le z1_0 hb2.size
          have z2_1 : w.heap.size + 1 < w2.heap.size := Nat.lt_of_lt_of_le z1_1 hb2.size
          have z2_2 : w.heap.size + 1 + 1 < w2.heap.size := Nat.lt_of_lt_of_le z1_2 hb2.size
          have hw2 := Lib.hid (hw1.out.trans (hb2.mono hw1.out.size))
          clear hb2 hw1 c1_0_0 c1_0_1 c1_0_2 c1_0_3 c1_0_4 c1_0_5 c1_0_6 c1_0_7 c1_1_0 c1_1_1 c1_1_2 c1_1_3 c1_2_0 c1_2_1 z1_0 z1_1 z1_2
          simp only [repV]
          go_wp2_with fail
          have hb3 : Below w2.heap.size w2 (w2.alloc (.cells #[.int .i64 s', .int .u8 k', .int .i64 x', .int .i64 y', .int .i64 v', .int .i64 b', .int .i64 w', .int .i64 t'] 26)) := (Below.refl w2.heap.size w2).alloc (Nat.le_refl _) _
          have c3_0_0 := (hb3.cell (p := ⟨w.heap.size, 0, none⟩) z2_0).trans c2_0_0
          have c3_0_1 := (hb3.cell (p := ⟨w.heap.size, 1, none⟩) z2_0).trans c2_0_1
          have c3_0_2 := (hb3.cell (p := ⟨w.heap.size, 2, none⟩) z2_0).trans c2_0_2
          have c3_0_3 := (hb3.cell (p := ⟨w.heap.size, 3, none⟩) z2_0).trans c2_0_3
          have c3_0_4 := (hb3.cell (p := ⟨w.heap.size, 4, none⟩) z2_0).trans c2_0_4
          have c3_0_5 := (hb3.cell (p := ⟨w.heap.size, 5, none⟩) z2_0).trans c2_0_5
          have c3_0_6 := (hb3.cell (p := ⟨w.heap.size, 6, none⟩) z2_0).trans c2_0_6
          have c3_0_7 := (hb3.cell (p := ⟨w.heap.size, 7, none⟩) z2_0).trans c2_0_7
          have c3_1_0 := (hb3.cell (p := ⟨w.heap.size + 1, 0, none⟩) z2_1).trans c2_1_0
          have c3_1_1 := (hb3.cell (p := ⟨w.heap.size + 1, 1, none⟩) z2_1).trans c2_1_1
          have c3_1_2 := (hb3.cell (p := ⟨w.heap.size + 1, 2, none⟩) z2_1).trans c2_1_2
          have c3_1_3 := (hb3.cell (p := ⟨w.heap.size + 1, 3, none⟩) z2_1).trans c2_1_3
          have c3_2_0 := (hb3.cell (p := ⟨w.heap.size + 1 + 1, 0, none⟩) z2_2).trans c2_2_0
          have c3_2_1 := (hb3.cell (p := ⟨w.heap.size + 1 + 1, 1, none⟩) z2_2).trans c2_2_1
          have z3_0 : w.heap.size < (w2.alloc (.cells #[.int .i64 s', .int .u8 k', .int .i64 x', .int .i64 y', .int .i64 v', .int .i64 b', .int .i64 w', .int .i64 t'] 26)).heap.size := Nat.lt_of_lt_of_le z2_0 hb3.size
          have z3_1 : w.heap.size + 1 < (w2.alloc (.cells #[.int .i64 s', .int .u8 k', .int .i64 x', .int .i64 y', .int .i64 v', .int .i64 b', .int .i64 w', .int .i64 t'] 26)).heap.size := Nat.lt_of_lt_of_le z2_1 hb3.size
          have z3_2 : w.heap.size + 1 + 1 < (w2.alloc (.cells #[.int .i64 s', .int .u8 k', .int .i64 x', .int .i64 y', .int .i64 v', .int .i64 b', .int .i64 w', .int .i64 t'] 26)).heap.size := Nat.lt_of_lt_of_le z2_2 hb3.size
          have c3_3_0 : (w2.alloc (.cells #[.int .i64 s', .int .u8 k', .int .i64 x', .int .i64 y', .int .i64 v', .int .i64 b', .int .i64 w', .int .i64 t'] 26)).cell? ⟨w2.heap.size, 0, none⟩ = some (.int .i64 s') := by rw [World.cell?_alloc_at _ _ _ _ (by simp)]; rfl
          have c3_3_1 : (w2.alloc (.cells #[.int .i64 s', .int .u8 k', .int .i64 x', .int .i64 y', .int .i64 v', .int .i64 b', .int .i64 w', .int .i64 t'] 26)).cell? ⟨w2.heap.size, 1, none⟩ = some (.int .u8 k') := by rw [World.cell?_alloc_at _ _ _ _ (by simp)]; rfl
          have c3_3_2 : (w2.alloc (.cells #[.int .i64 s', .int .u8 k', .int .i64 x', .int .i64 y', .int .i64 v', .int .i64 b', .int .i64 w', .int .i64 t'] 26)).cell? ⟨w2.heap.size, 2, none⟩ = some (.int .i64 x') := by rw [World.cell?_alloc_at _ _ _ _ (by simp)]; rfl
          have c3_3_3 : (w2.alloc (.cells #[.int .i64 s', .int .u8 k', .int .i64 x', .int .i64 y', .int .i64 v', .int .i64 b', .int .i64 w', .int .i64 t'] 26)).cell? ⟨w2.heap.size, 3, none⟩ = some (.int .i64 y') := by rw [World.cell?_alloc_at _ _ _ _ (by simp)]; rfl
          have c3_3_4 : (w2.alloc (.cells #[.int .i64 s', .int .u8 k', .int .i64 x', .int .i64 y', .int .i64 v', .int .i64 b', .int .i64 w', .int .i64 t'] 26)).cell? ⟨w2.heap.size, 4, none⟩ = some (.int .i64 v') := by rw [World.cell?_alloc_at _ _ _ _ (by simp)]; rfl
          have c3_3_5 : (w2.alloc (.cells #[.int .i64 s', .int .u8 k', .int .i64 x', .int .i64 y', .int .i64 v', .int .i64 b', .int .i64 w', .int .i64 t'] 26)).cell? ⟨w2.heap.size, 5, none⟩ = some (.int .i64 b') := by rw [World.cell?_alloc_at _ _ _ _ (by simp)]; rfl
          have c3_3_6 : (w2.alloc (.cells #[.int .i64 s', .int .u8 k', .int .i64 x', .int .i64 y', .int .i64 v', .int .i64 b', .int .i64 w', .int .i64 t'] 26)).cell? ⟨w2.heap.size, 6, none⟩ = some (.int .i64 w') := by rw [World.cell?_alloc_at _ _ _ _ (by simp)]; rfl
          have c3_3_7 : (w2.alloc (.cells #[.int .i64 s', .int .u8 k', .int .i64 x', .int .i64 y', .int .i64 v', .int .i64 b', .int .i64 w', .int .i64 t'] 26)).cell? ⟨w2.heap.size, 7, none⟩ = some (.int .i64 t') := by rw [World.cell?_alloc_at _ _ _ _ (by simp)]; rfl
          have z3_3 : w2.heap.size < (w2.alloc (.cells #[.int .i64 s', .int .u8 k', .int .i64 x', .int .i64 y', .int .i64 v', .int .i64 b', .int .i64 w', .int .i64 t'] 26)).heap.size := by simp
          have hw3 := Lib.hid (hw2.out.trans (hb3.mono hw2.out.size))
          generalize hW3 : (w2.alloc (.cells #[.int .i64 s', .int .u8 k', .int .i64 x', .int .i64 y', .int .i64 v', .int .i64 b', .int .i64 w', .int .i64 t'] 26)) = w3 at *
          clear hW3 hb3 hw2 c2_0_0 c2_0_1 c2_0_2 c2_0_3 c2_0_4 c2_0_5 c2_0_6 c2_0_7 c2_1_0 c2_1_1 c2_1_2 c2_1_3 c2_2_0 c2_2_1 z2_0 z2_1 z2_2
          refine (HG0.out _).mono ?_
          rintro e w4 ⟨rfl, hb4⟩
          have c4_0_0 := (hb4.cell (p := ⟨w.heap.size, 0, none⟩) z3_0).trans c3_0_0
          have c4_0_1 := (hb4.cell (p := ⟨w.heap.size, 1, none⟩) z3_0).trans c3_0_1
          have c4_0_2 := (hb4.cell (p := ⟨w.heap.size, 2, none⟩) z3_0).trans c3_0_2
          have c4_0_3 := (hb4.cell (p := ⟨w.heap.size, 3, none⟩) z3_0).trans c3_0_3
          have c4_0_4 := (hb4.cell (p := ⟨w.heap.size, 4, none⟩) z3_0).trans c3_0_4
          have c4_0_5 := (hb4.cell (p := ⟨w.heap.size, 5, none⟩) z3_0).trans c3_0_5
          have c4_0_6 := (hb4.cell (p := ⟨w.heap.size, 6, none⟩) z3_0).trans c3_0_6
          have c4_0_7 := (hb4.cell (p := ⟨w.heap.size, 7, none⟩) z3_0).trans c3_0_7
          have c4_1_0 := (hb4.cell (p := ⟨w.heap.size + 1, 0, none⟩) z3_1).trans c3_1_0
          have c4_1_1 := (hb4.cell (p := ⟨w.heap.size + 1, 1, none⟩) z3_1).trans c3_1_1
          have c4_1_2 := (hb4.cell (p := ⟨w.heap.size + 1, 2, none⟩) z3_1).trans c3_1_2
          have c4_1_3 := (hb4.cell (p := ⟨w.heap.size + 1, 3, none⟩) z3_1).trans c3_1_3
          have c4_2_0 := (hb4.cell (p := ⟨w.heap.size + 1 + 1, 0, none⟩) z3_2).trans c3_2_0
          have c4_2_1 := (hb4.cell (p := ⟨w.heap.size + 1 + 1, 1, none⟩) z3_2).trans c3_2_1
          have c4_3_0 := (hb4.cell (p := ⟨w2.heap.size, 0, none⟩) z3_3).trans c3_3_0
          have c4_3_1 := (hb4.cell (p := ⟨w2.heap.size, 1, none⟩) z3_3).trans c3_3_1
          have c4_3_2 := (hb4.cell (p := ⟨w2.heap.size, 2, none⟩) z3_3).trans c3_3_2
          have c4_3_3 := (hb4.cell (p := ⟨w2.heap.size, 3, none⟩) z3_3).trans c3_3_3
          have c4_3_4 := (hb4.cell (p := ⟨w2.heap.size, 4, none⟩) z3_3).trans c3_3_4
          have c4_3_5 := (hb4.cell (p := ⟨w2.heap.size, 5, none⟩) z3_3).trans c3_3_5
          have c4_3_6 := (hb4.cell (p := ⟨w2.heap.size, 6, none⟩) z3_3).trans c3_3_6
          have c4_3_7 := (hb4.cell (p := ⟨w2.heap.size, 7, none⟩) z3_3).trans c3_3_7
          have z4_0 : w.heap.size < w4.heap.size := Nat.lt_of_lt_of_le z3_0 hb4.size
          have z4_1 : w.heap.size + 1 < w4.heap.size := Nat.lt_of_lt_of_le z3_1 hb4.size
          have z4_2 : w.heap.size + 1 + 1 < w4.heap.size := Nat.lt_of_lt_of_le z3_2 hb4.size
          have z4_3 : w2.heap.size < w4.heap.size := Nat.lt_of_lt_of_le z3_3 hb4.size
          have hw4 := Lib.hid (hw3.out.trans (hb4.mono hw3.out.size))
          clear hb4 hw3 c3_0_0 c3_0_1 c3_0_2 c3_0_3 c3_0_4 c3_0_5 c3_0_6 c3_0_7 c3_1_0 c3_1_1 c3_1_2 c3_1_3 c3_2_0 c3_2_1 c3_3_0 c3_3_1 c3_3_2 c3_3_3 c3_3_4 c3_3_5 c3_3_6 c3_3_7 z3_0 z3_1 z3_2 z3_3
          go_wp2_with fail
          refine (HV0.out _).mono ?_
          rintro e w5 ⟨rfl, hb5⟩
          have c5_0_0 := (hb5.cell (p := ⟨w.heap.size, 0, none⟩) z4_0).trans c4_0_0
          have c5_0_1 := (hb5.cell (p := ⟨w.heap.size, 1, none⟩) z4_0).trans c4_0_1
          have c5_0_2 := (hb5.cell (p := ⟨w.heap.size, 2, none⟩) z4_0).trans c4_0_2
          have c5_0_3 := (hb5.cell (p := ⟨w.heap.size, 3, none⟩) z4_0).trans c4_0_3
          have c5_0_4 := (hb5.cell (p := ⟨w.heap.size, 4, none⟩) z4_0).trans c4_0_4
          have c5_0_5 := (hb5.cell (p := ⟨w.heap.size, 5, none⟩) z4_0).trans c4_0_5
          have c5_0_6 := (hb5.cell (p := ⟨w.heap.size, 6, none⟩) z4_0).trans c4_0_6
          have c5_0_7 := (hb5.cell (p := ⟨w.heap.size, 7, none⟩) z4_0).trans c4_0_7
          have c5_1_0 := (hb5.cell (p := ⟨w.heap.size + 1, 0, none⟩) z4_1).trans c4_1_0
          have c5_1_1 := (hb5.cell (p := ⟨w.heap.size + 1, 1, none⟩) z4_1).trans c4_1_1
          have c5_1_2 := (hb5.cell (p := ⟨w.heap.size + 1, 2, none⟩) z4_1).trans c4_1_2
          have c5_1_3 := (hb5.cell (p := ⟨w.heap.size + 1, 3, none⟩) z4_1).trans c4_1_3
          have c5_2_0 := (hb5.cell (p := ⟨w.heap.size + 1 + 1, 0, none⟩) z4_2).trans c4_2_0
          have c5_2_1 := (hb5.cell (p := ⟨w.heap.size + 1 + 1, 1, none⟩) z4_2).trans c4_2_1
          have c5_3_0 := (hb5.cell (p := ⟨w2.heap.size, 0, none⟩) z4_3).trans c4_3_0
          have c5_3_1 := (hb5.cell (p := ⟨w2.heap.size, 1, none⟩) z4_3).trans c4_3_1
          have c5_3_2 := (hb5.cell (p := ⟨w2.heap.size, 2, none⟩) z4_3).trans c4_3_2
          have c5_3_3 := (hb5.cell (p := ⟨w2.heap.size, 3, none⟩) z4_3).trans c4_3_3
          have c5_3_4 := (hb5.cell (p := ⟨w2.heap.size, 4, none⟩) z4_3).trans c4_3_4
          have c5_3_5 := (hb5.cell (p := ⟨w2.heap.size, 5, none⟩) z4_3).trans c4_3_5
          have c5_3_6 := (hb5.cell (p := ⟨w2.heap.size, 6, none⟩) z4_3).trans c4_3_6
          have c5_3_7 := (hb5.cell (p := ⟨w2.heap.size, 7, none⟩) z4_3).trans c4_3_7
          have z5_0 : w.heap.size < w5.heap.size := Nat.lt_of_lt_of_le z4_0 hb5.size
          have z5_1 : w.heap.size + 1 < w5.heap.size := Nat.lt_of_lt_of_le z4_1 hb5.size
          have z5_2 : w.heap.size + 1 + 1 < w5.heap.size := Nat.lt_of_lt_of_le z4_2 hb5.size
          have z5_3 : w2.heap.size < w5.heap.size := Nat.lt_of_lt_of_le z4_3 hb5.size
          have hw5 := Lib.hid (hw4.out.trans (hb5.mono hw4.out.size))
          clear hb5 hw4 c4_0_0 c4_0_1 c4_0_2 c4_0_3 c4_0_4 c4_0_5 c4_0_6 c4_0_7 c4_1_0 c4_1_1 c4_1_2 c4_1_3 c4_2_0 c4_2_1 c4_3_0 c4_3_1 c4_3_2 c4_3_3 c4_3_4 c4_3_5 c4_3_6 c4_3_7 z4_0 z4_1 z4_2 z4_3
          go_wp2_with fail
          go_quiet (fail)
          go_wp2_with fail
          refine (HG1.out _).mono ?_
          rintro e w9 ⟨rfl, hb9⟩
          have hw9 := Lib.hid (hw5.out.trans ((below_drewN (Below.refl _ _) _).trans hb9 |>.mono hw5.out.size))
          clear hb9
          go_wp2
          go_ret
          exact ⟨rfl, hw9.out⟩
        · have f1 : decide (m1 * (m0 - t) * (m1 * (m0 - t)) < (p1 - p) * (p1 - p) + (q1 - q) * (q1 - q)) = true := by simp; omega
          clear G1 hmv hd hga hgv
          go_enter Tryd.func9, Tryd.ntmps9
          go_wp2_with fail
          have c0_0_0 : (((w.alloc (.cells #[.int .i64 s, .int .u8 k, .int .i64 x, .int .i64 y, .int .i64 v, .int .i64 b, .int .i64 wt, .int .i64 t] 26)).alloc (.cells #[.int .i64 p, .int .i64 q, .int .i64 p1, .int .i64 q1] 48)).alloc (.cells #[.int .i64 m0, .int .i64 m1] 49)).cell? ⟨w.heap.size, 0, none⟩ = some (.int .i64 s) := ((((Below.refl (w.heap.size + 1) (w.alloc (.cells #[.int .i64 s, .int .u8 k, .int .i64 x, .int .i64 y, .int .i64 v, .int .i64 b, .int .i64 wt, .int .i64 t] 26))).alloc (by simp; try omega) (.cells #[.int .i64 p, .int .i64 q, .int .i64 p1, .int .i64 q1] 48)).alloc (by simp; try omega) (.cells #[.int .i64 m0, .int .i64 m1] 49)).cell (p := ⟨w.heap.size, 0, none⟩) (by simp; try omega)).trans (by rw [World.cell?_alloc_at _ _ _ _ (by simp)]; rfl)
          have c0_0_1 : (((w.alloc (.cells #[.int .i64 s, .int .u8 k, .int .i64 x, .int .i64 y, .int .i64 v, .int .i64 b, .int .i64 wt, .int .i64 t] 26)).alloc (.cells #[.int .i64 p, .int .i64 q, .int .i64 p1, .int .i64 q1] 48)).alloc (.cells #[.int .i64 m0, .int .i64 m1] 49)).cell? ⟨w.heap.size, 1, none⟩ = some (.int .u8 k) := ((((Below.refl (w.heap.size + 1) (w.alloc (.cells #[.int .i64 s, .int .u8 k, .int .i64 x, .int .i64 y, .int .i64 v, .int .i64 b, .int .i64 wt, .int .i64 t] 26))).alloc (by simp; try omega) (.cells #[.int .i64 p, .int .i64 q, .int .i64 p1, .int .i64 q1] 48)).alloc (by simp; try omega) (.cells #[.int .i64 m0, .int .i64 m1] 49)).cell (p := ⟨w.heap.size, 1, none⟩) (by simp; try omega)).trans (by rw [World.cell?_alloc_at _ _ _ _ (by simp)]; rfl)
          have c0_0_2 : (((w.alloc (.cells #[.int .i64 s, .int .u8 k, .int .i64 x, .int .i64 y, .int .i64 v, .int .i64 b, .int .i64 wt, .int .i64 t] 26)).alloc (.cells #[.int .i64 p, .int .i64 q, .int .i64 p1, .int .i64 q1] 48)).alloc (.cells #[.int .i64 m0, .int .i64 m1] 49)).cell? ⟨w.heap.size, 2, none⟩ = some (.int .i64 x) := ((((Below.refl (w.heap.size + 1) (w.alloc (.cells #[.int .i64 s, .int .u8 k, .int .i64 x, .int .i64 y, .int .i64 v, .int .i64 b, .int .i64 wt, .int .i64 t] 26))).alloc (by simp; try omega) (.cells #[.int .i64 p, .int .i64 q, .int .i64 p1, .int .i64 q1] 48)).alloc (by simp; try omega) (.cells #[.int .i64 m0, .int .i64 m1] 49)).cell (p := ⟨w.heap.size, 2, none⟩) (by simp; try omega)).trans (by rw [World.cell?_alloc_at _ _ _ _ (by simp)]; rfl)
          have c0_0_3 : (((w.alloc (.cells #[.int .i64 s, .int .u8 k, .int .i64 x, .int .i64 y, .int .i64 v, .int .i64 b, .int .i64 wt, .int .i64 t] 26)).alloc (.cells #[.int .i64 p, .int .i64 q, .int .i64 p1, .int .i64 q1] 48)).alloc (.cells #[.int .i64 m0, .int .i64 m1] 49)).cell? ⟨w.heap.size, 3, none⟩ = some (.int .i64 y) := ((((Below.refl (w.heap.size + 1) (w.alloc (.cells #[.int .i64 s, .int .u8 k, .int .i64 x, .int .i64 y, .int .i64 v, .int .i64 b, .int .i64 wt, .int .i64 t] 26))).alloc (by simp; try omega) (.cells #[.int .i64 p, .int .i64 q, .int .i64 p1, .int .i64 q1] 48)).alloc (by simp; try omega) (.cells #[.int .i64 m0, .int .i64 m1] 49)).cell (p := ⟨w.heap.size, 3, none⟩) (by simp; try omega)).trans (by rw [World.cell?_alloc_at _ _ _ _ (by simp)]; rfl)
          have c0_0_4 : (((w.alloc (.cells #[.int .i64 s, .int .u8 k, .int .i64 x, .int .i64 y, .int .i64 v, .int .i64 b, .int .i64 wt, .int .i64 t] 26)).alloc (.cells #[.int .i64 p, .int .i64 q, .int .i64 p1, .int .i64 q1] 48)).alloc (.cells #[.int .i64 m0, .int .i64 m1] 49)).cell? ⟨w.heap.size, 4, none⟩ = some (.int .i64 v) := ((((Below.refl (w.heap.size + 1) (w.alloc (.cells #[.int .i64 s, .int .u8 k, .int .i64 x, .int .i64 y, .int .i64 v, .int .i64 b, .int .i64 wt, .int .i64 t] 26))).alloc (by simp; try omega) (.cells #[.int .i64 p, .int .i64 q, .int .i64 p1, .int .i64 q1] 48)).alloc (by simp; try omega) (.cells #[.int .i64 m0, .int .i64 m1] 49)).cell (p := ⟨w.heap.size, 4, none⟩) (by simp; try omega)).trans (by rw [World.cell?_alloc_at _ _ _ _ (by simp)]; rfl)
          have c0_0_5 : (((w.alloc (.cells #[.int .i64 s, .int .u8 k, .int .i64 x, .int .i64 y, .int .i64 v, .int .i64 b, .int .i64 wt, .int .i64 t] 26)).alloc (.cells #[.int .i64 p, .int .i64 q, .int .i64 p1, .int .i64 q1] 48)).alloc (.cells #[.int .i64 m0, .int .i64 m1] 49)).cell? ⟨w.heap.size, 5, none⟩ = some (.int .i64 b) := ((((Below.refl (w.heap.size + 1) (w.alloc (.cells #[.int .i64 s, .int .u8 k, .int .i64 x, .int .i64 y, .int .i64 v, .int .i64 b, .int .i64 wt, .int .i64 t] 26))).alloc (by simp; try omega) (.cells #[.int .i64 p, .int .i64 q, .int .i64 p1, .int .i64 q1] 48)).alloc (by simp; try omega) (.cells #[.int .i64 m0, .int .i64 m1] 49)).cell (p := ⟨w.heap.size, 5, none⟩) (by simp; try omega)).trans (by rw [World.cell?_alloc_at _ _ _ _ (by simp)]; rfl)
          have c0_0_6 : (((w.alloc (.cells #[.int .i64 s, .int .u8 k, .int .i64 x, .int .i64 y, .int .i64 v, .int .i64 b, .int .i64 wt, .int .i64 t] 26)).alloc (.cells #[.int .i64 p, .int .i64 q, .int .i64 p1, .int .i64 q1] 48)).alloc (.cells #[.int .i64 m0, .int .i64 m1] 49)).cell? ⟨w.heap.size, 6, none⟩ = some (.int .i64 wt) := ((((Below.refl (w.heap.size + 1) (w.alloc (.cells #[.int .i64 s, .int .u8 k, .int .i64 x, .int .i64 y, .int .i64 v, .int .i64 b, .int .i64 wt, .int .i64 t] 26))).alloc (by simp; try omega) (.cells #[.int .i64 p, .int .i64 q, .int .i64 p1, .int .i64 q1] 48)).alloc (by simp; try omega) (.cells #[.int .i64 m0, .int .i64 m1] 49)).cell (p := ⟨w.heap.size, 6, none⟩) (by simp; try omega)).trans (by rw [World.cell?_alloc_at _ _ _ _ (by simp)]; rfl)
          have c0_0_7 : (((w.alloc (.cells #[.int .i64 s, .int .u8 k, .int .i64 x, .int .i64 y, .int .i64 v, .int .i64 b, .int .i64 wt, .int .i64 t] 26)).alloc (.cells #[.int .i64 p, .int .i64 q, .int .i64 p1, .int .i64 q1] 48)).alloc (.cells #[.int .i64 m0, .int .i64 m1] 49)).cell? ⟨w.heap.size, 7, none⟩ = some (.int .i64 t) := ((((Below.refl (w.heap.size + 1) (w.alloc (.cells #[.int .i64 s, .int .u8 k, .int .i64 x, .int .i64 y, .int .i64 v, .int .i64 b, .int .i64 wt, .int .i64 t] 26))).alloc (by simp; try omega) (.cells #[.int .i64 p, .int .i64 q, .int .i64 p1, .int .i64 q1] 48)).alloc (by simp; try omega) (.cells #[.int .i64 m0, .int .i64 m1] 49)).cell (p := ⟨w.heap.size, 7, none⟩) (by simp; try omega)).trans (by rw [World.cell?_alloc_at _ _ _ _ (by simp)]; rfl)
          have c0_1_0 : (((w.alloc (.cells #[.int .i64 s, .int .u8 k, .int .i64 x, .int .i64 y, .int .i64 v, .int .i64 b, .int .i64 wt, .int .i64 t] 26)).alloc (.cells #[.int .i64 p, .int .i64 q, .int .i64 p1, .int .i64 q1] 48)).alloc (.cells #[.int .i64 m0, .int .i64 m1] 49)).cell? ⟨w.heap.size + 1, 0, none⟩ = some (.int .i64 p) := (((Below.refl (w.heap.size + 1 + 1) ((w.alloc (.cells #[.int .i64 s, .int .u8 k, .int .i64 x, .int .i64 y, .int .i64 v, .int .i64 b, .int .i64 wt, .int .i64 t] 26)).alloc (.cells #[.int .i64 p, .int .i64 q, .int .i64 p1, .int .i64 q1] 48))).alloc (by simp; try omega) (.cells #[.int .i64 m0, .int .i64 m1] 49)).cell (p := ⟨w.heap.size + 1, 0, none⟩) (by simp; try omega)).trans (by rw [World.cell?_alloc_at _ _ _ _ (by simp)]; rfl)
          have c0_1_1 : (((w.alloc (.cells #[.int .i64 s, .int .u8 k, .int .i64 x, .int .i64 y, .int .i64 v, .int .i64 b, .int .i64 wt, .int .i64 t] 26)).alloc (.cells #[.int .i64 p, .int .i64 q, .int .i64 p1, .int .i64 q1] 48)).alloc (.cells #[.int .i64 m0, .int .i64 m1] 49)).cell? ⟨w.heap.size + 1, 1, none⟩ = some (.int .i64 q) := (((Below.refl (w.heap.size + 1 + 1) ((w.alloc (.cells #[.int .i64 s, .int .u8 k, .int .i64 x, .int .i64 y, .int .i64 v, .int .i64 b, .int .i64 wt, .int .i64 t] 26)).alloc (.cells #[.int .i64 p, .int .i64 q, .int .i64 p1, .int .i64 q1] 48))).alloc (by simp; try omega) (.cells #[.int .i64 m0, .int .i64 m1] 49)).cell (p := ⟨w.heap.size + 1, 1, none⟩) (by simp; try omega)).trans (by rw [World.cell?_alloc_at _ _ _ _ (by simp)]; rfl)
          have c0_1_2 : (((w.alloc (.cells #[.int .i64 s, .int .u8 k, .int .i64 x, .int .i64 y, .int .i64 v, .int .i64 b, .int .i64 wt, .int .i64 t] 26)).alloc (.cells #[.int .i64 p, .int .i64 q, .int .i64 p1, .int .i64 q1] 48)).alloc (.cells #[.int .i64 m0, .int .i64 m1] 49)).cell? ⟨w.heap.size + 1, 2, none⟩ = some (.int .i64 p1) := (((Below.refl (w.heap.size + 1 + 1) ((w.alloc (.cells #[.int .i64 s, .int .u8 k, .int .i64 x, .int .i64 y, .int .i64 v, .int .i64 b, .int .i64 wt, .int .i64 t] 26)).alloc (.cells #[.int .i64 p, .int .i64 q, .int .i64 p1, .int .i64 q1] 48))).alloc (by simp; try omega) (.cells #[.int .i64 m0, .int .i64 m1] 49)).cell (p := ⟨w.heap.size + 1, 2, none⟩) (by simp; try omega)).trans (by rw [World.cell?_alloc_at _ _ _ _ (by simp)]; rfl)
          have c0_1_3 : (((w.alloc (.cells #[.int .i64 s, .int .u8 k, .int .i64 x, .int .i64 y, .int .i64 v, .int .i64 b, .int .i64 wt, .int .i64 t] 26)).alloc (.cells #[.int .i64 p, .int .i64 q, .int .i64 p1, .int .i64 q1] 48)).alloc (.cells #[.int .i64 m0, .int .i64 m1] 49)).cell? ⟨w.heap.size + 1, 3, none⟩ = some (.int .i64 q1) := (((Below.refl (w.heap.size + 1 + 1) ((w.alloc (.cells #[.int .i64 s, .int .u8 k, .int .i64 x, .int .i64 y, .int .i64 v, .int .i64 b, .int .i64 wt, .int .i64 t] 26)).alloc (.cells #[.int .i64 p, .int .i64 q, .int .i64 p1, .int .i64 q1] 48))).alloc (by simp; try omega) (.cells #[.int .i64 m0, .int .i64 m1] 49)).cell (p := ⟨w.heap.size + 1, 3, none⟩) (by simp; try omega)).trans (by rw [World.cell?_alloc_at _ _ _ _ (by simp)]; rfl)
          have c0_2_0 : (((w.alloc (.cells #[.int .i64 s, .int .u8 k, .int .i64 x, .int .i64 y, .int .i64 v, .int .i64 b, .int .i64 wt, .int .i64 t] 26)).alloc (.cells #[.int .i64 p, .int .i64 q, .int .i64 p1, .int .i64 q1] 48)).alloc (.cells #[.int .i64 m0, .int .i64 m1] 49)).cell? ⟨w.heap.size + 1 + 1, 0, none⟩ = some (.int .i64 m0) := by rw [World.cell?_alloc_at _ _ _ _ (by simp)]; rfl
          have c0_2_1 : (((w.alloc (.cells #[.int .i64 s, .int .u8 k, .int .i64 x, .int .i64 y, .int .i64 v, .int .i64 b, .int .i64 wt, .int .i64 t] 26)).alloc (.cells #[.int .i64 p, .int .i64 q, .int .i64 p1, .int .i64 q1] 48)).alloc (.cells #[.int .i64 m0, .int .i64 m1] 49)).cell? ⟨w.heap.size + 1 + 1, 1, none⟩ = some (.int .i64 m1) := by rw [World.cell?_alloc_at _ _ _ _ (by simp)]; rfl
          have z0_0 : w.heap.size < (((w.alloc (.cells #[.int .i64 s, .int .u8 k, .int .i64 x, .int .i64 y, .int .i64 v, .int .i64 b, .int .i64 wt, .int .i64 t] 26)).alloc (.cells #[.int .i64 p, .int .i64 q, .int .i64 p1, .int .i64 q1] 48)).alloc (.cells #[.int .i64 m0, .int .i64 m1] 49)).heap.size := by simp; try omega
          have z0_1 : w.heap.size + 1 < (((w.alloc (.cells #[.int .i64 s, .int .u8 k, .int .i64 x, .int .i64 y, .int .i64 v, .int .i64 b, .int .i64 wt, .int .i64 t] 26)).alloc (.cells #[.int .i64 p, .int .i64 q, .int .i64 p1, .int .i64 q1] 48)).alloc (.cells #[.int .i64 m0, .int .i64 m1] 49)).heap.size := by simp; try omega
          have z0_2 : w.heap.size + 1 + 1 < (((w.alloc (.cells #[.int .i64 s, .int .u8 k, .int .i64 x, .int .i64 y, .int .i64 v, .int .i64 b, .int .i64 wt, .int .i64 t] 26)).alloc (.cells #[.int .i64 p, .int .i64 q, .int .i64 p1, .int .i64 q1] 48)).alloc (.cells #[.int .i64 m0, .int .i64 m1] 49)).heap.size := by simp; try omega
          have hw0 := Lib.hid ((((Below.refl w.heap.size w).alloc (by simp; try omega) (.cells #[.int .i64 s, .int .u8 k, .int .i64 x, .int .i64 y, .int .i64 v, .int .i64 b, .int .i64 wt, .int .i64 t] 26)).alloc (by simp; try omega) (.cells #[.int .i64 p, .int .i64 q, .int .i64 p1, .int .i64 q1] 48)).alloc (by simp; try omega) (.cells #[.int .i64 m0, .int .i64 m1] 49))
          generalize hW0 : (((w.alloc (.cells #[.int .i64 s, .int .u8 k, .int .i64 x, .int .i64 y, .int .i64 v, .int .i64 b, .int .i64 wt, .int .i64 t] 26)).alloc (.cells #[.int .i64 p, .int .i64 q, .int .i64 p1, .int .i64 q1] 48)).alloc (.cells #[.int .i64 m0, .int .i64 m1] 49)) = w0 at *
          clear hW0
          refine (awake_any _ (HE.out.below hw0.out)).mono ?_
          rintro e w1 ⟨rfl, hb1⟩
          have c1_0_0 := (hb1.cell (p := ⟨w.heap.size, 0, none⟩) z0_0).trans c0_0_0
          have c1_0_1 := (hb1.cell (p := ⟨w.heap.size, 1, none⟩) z0_0).trans c0_0_1
          have c1_0_2 := (hb1.cell (p := ⟨w.heap.size, 2, none⟩) z0_0).trans c0_0_2
          have c1_0_3 := (hb1.cell (p := ⟨w.heap.size, 3, none⟩) z0_0).trans c0_0_3
          have c1_0_4 := (hb1.cell (p := ⟨w.heap.size, 4, none⟩) z0_0).trans c0_0_4
          have c1_0_5 := (hb1.cell (p := ⟨w.heap.size, 5, none⟩) z0_0).trans c0_0_5
          have c1_0_6 := (hb1.cell (p := ⟨w.heap.size, 6, none⟩) z0_0).trans c0_0_6
          have c1_0_7 := (hb1.cell (p := ⟨w.heap.size, 7, none⟩) z0_0).trans c0_0_7
          have c1_1_0 := (hb1.cell (p := ⟨w.heap.size + 1, 0, none⟩) z0_1).trans c0_1_0
          have c1_1_1 := (hb1.cell (p := ⟨w.heap.size + 1, 1, none⟩) z0_1).trans c0_1_1
          have c1_1_2 := (hb1.cell (p := ⟨w.heap.size + 1, 2, none⟩) z0_1).trans c0_1_2
          have c1_1_3 := (hb1.cell (p := ⟨w.heap.size + 1, 3, none⟩) z0_1).trans c0_1_3
          have c1_2_0 := (hb1.cell (p := ⟨w.heap.size + 1 + 1, 0, none⟩) z0_2).trans c0_2_0
          have c1_2_1 := (hb1.cell (p := ⟨w.heap.size + 1 + 1, 1, none⟩) z0_2).trans c0_2_1
          have z1_0 : w.heap.size < w1.heap.size := Nat.lt_of_lt_of_le z0_0 hb1.size
          have z1_1 : w.heap.size + 1 < w1.heap.size := Nat.lt_of_lt_of_le z0_1 hb1.size
          have z1_2 : w.heap.size + 1 + 1 < w1.heap.size := Nat.lt_of_lt_of_le z0_2 hb1.size
          have hw1 := Lib.hid (hw0.out.trans (hb1.mono hw0.out.size))
          clear hb1 hw0 c0_0_0 c0_0_1 c0_0_2 c0_0_3 c0_0_4 c0_0_5 c0_0_6 c0_0_7 c0_1_0 c0_1_1 c0_1_2 c0_1_3 c0_2_0 c0_2_1 z0_0 z0_1 z0_2
          go_wp2_with fail
          refine (HA.out _).mono ?_
          rintro e w2 ⟨rfl, hb2⟩
          have c2_0_0 := (hb2.cell (p := ⟨w.heap.size, 0, none⟩) z1_0).trans c1_0_0
          have c2_0_1 := (hb2.cell (p := ⟨w.heap.size, 1, none⟩) z1_0).trans c1_0_1
          have c2_0_2 := (hb2.cell (p := ⟨w.heap.size, 2, none⟩) z1_0).trans c1_0_2
          have c2_0_3 := (hb2.cell (p := ⟨w.heap.size, 3, none⟩) z1_0).trans c1_0_3
          have c2_0_4 := (hb2.cell (p := ⟨w.heap.size, 4, none⟩) z1_0).trans c1_0_4
          have c2_0_5 := (hb2.cell (p := ⟨w.heap.size, 5, none⟩) z1_0).trans c1_0_5
          have c2_0_6 := (hb2.cell (p := ⟨w.heap.size, 6, none⟩) z1_0).trans c1_0_6
          have c2_0_7 := (hb2.cell (p := ⟨w.heap.size, 7, none⟩) z1_0).trans c1_0_7
          have c2_1_0 := (hb2.cell (p := ⟨w.heap.size + 1, 0, none⟩) z1_1).trans c1_1_0
          have c2_1_1 := (hb2.cell (p := ⟨w.heap.size + 1, 1, none⟩) z1_1).trans c1_1_1
          have c2_1_2 := (hb2.cell (p := ⟨w.heap.size + 1, 2, none⟩) z1_1).trans c1_1_2
          have c2_1_3 := (hb2.cell (p := ⟨w.heap.size + 1, 3, none⟩) z1_1).trans c1_1_3
          have c2_2_0 := (hb2.cell (p := ⟨w.heap.size + 1 + 1, 0, none⟩) z1_2).trans c1_2_0
          have c2_2_1 := (hb2.cell (p := ⟨w.heap.size + 1 + 1, 1, none⟩) z1_2).trans c1_2_1
          have z2_0 : w.heap.size < w2.heap.size := Nat.lt_of_lt_of_le z1_0 hb2.size
          have z2_1 : w.heap.size + 1 < w2.heap.size := Nat.lt_of_lt_of_le z1_1 hb2.size
          have z2_2 : w.heap.size + 1 + 1 < w2.heap.size := Nat.lt_of_lt_of_le z1_2 hb2.size
          have hw2 := Lib.hid (hw1.out.trans (hb2.mono hw1.out.size))
          clear hb2 hw1 c1_0_0 c1_0_1 c1_0_2 c1_0_3 c1_0_4 c1_0_5 c1_0_6 c1_0_7 c1_1_0 c1_1_1 c1_1_2 c1_1_3 c1_2_0 c1_2_1 z1_0 z1_1 z1_2
          simp only [repV]
          go_wp2_with fail
          have hb3 : Below w2.heap.size w2 (w2.alloc (.cells #[.int .i64 s', .int .u8 k', .int .i64 x', .int .i64 y', .int .i64 v', .int .i64 b', .int .i64 w', .int .i64 t'] 26)) := (Below.refl w2.heap.size w2).alloc (Nat.le_refl _) _
          have c3_0_0 := (hb3.cell (p := ⟨w.heap.size, 0, none⟩) z2_0).trans c2_0_0
          have c3_0_1 := (hb3.cell (p := ⟨w.heap.size, 1, none⟩) z2_0).trans c2_0_1
          have c3_0_2 := (hb3.cell (p := ⟨w.heap.size, 2, none⟩) z2_0).trans c2_0_2
          have c3_0_3 := (hb3.cell (p := ⟨w.heap.size, 3, none⟩) z2_0).trans c2_0_3
          have c3_0_4 := (hb3.cell (p := ⟨w.heap.size, 4, none⟩) z2_0).trans c2_0_4
          have c3_0_5 := (hb3.cell (p := ⟨w.heap.size, 5, none⟩) z2_0).trans c2_0_5
          have c3_0_6 := (hb3.cell (p := ⟨w.heap.size, 6, none⟩) z2_0).trans c2_0_6
          have c3_0_7 := (hb3.cell (p := ⟨w.heap.size, 7, none⟩) z2_0).trans c2_0_7
          have c3_1_0 := (hb3.cell (p := ⟨w.heap.size + 1, 0, none⟩) z2_1).trans c2_1_0
          have c3_1_1 := (hb3.cell (p := ⟨w.heap.size + 1, 1, none⟩) z2_1).trans c2_1_1
          have c3_1_2 := (hb3.cell (p := ⟨w.heap.size + 1, 2, none⟩) z2_1).trans c2_1_2
          have c3_1_3 := (hb3.cell (p := ⟨w.heap.size + 1, 3, none⟩) z2_1).trans c2_1_3
          have c3_2_0 := (hb3.cell (p := ⟨w.heap.size + 1 + 1, 0, none⟩) z2_2).trans c2_2_0
          have c3_2_1 := (hb3.cell (p := ⟨w.heap.size + 1 + 1, 1, none⟩) z2_2).trans c2_2_1
          have z3_0 : w.heap.size < (w2.alloc (.cells #[.int .i64 s', .int .u8 k', .int .i64 x', .int .i64 y', .int .i64 v', .int .i64 b', .int .i64 w', .int .i64 t'] 26)).heap.size := Nat.lt_of_lt_of_le z2_0 hb3.size
          have z3_1 : w.heap.size + 1 < (w2.alloc (.cells #[.int .i64 s', .int .u8 k', .int .i64 x', .int .i64 y', .int .i64 v', .int .i64 b', .int .i64 w', .int .i64 t'] 26)).heap.size := Nat.lt_of_lt_of_le z2_1 hb3.size
          have z3_2 : w.heap.size + 1 + 1 < (w2.alloc (.cells #[.int .i64 s', .int .u8 k', .int .i64 x', .int .i64 y', .int .i64 v', .int .i64 b', .int .i64 w', .int .i64 t'] 26)).heap.size := Nat.lt_of_lt_of_le z2_2 hb3.size
          have c3_3_0 : (w2.alloc (.cells #[.int .i64 s', .int .u8 k', .int .i64 x', .int .i64 y', .int .i64 v', .int .i64 b', .int .i64 w', .int .i64 t'] 26)).cell? ⟨w2.heap.size, 0, none⟩ = some (.int .i64 s') := by rw [World.cell?_alloc_at _ _ _ _ (by simp)]; rfl
          have c3_3_1 : (w2.alloc (.cells #[.int .i64 s', .int .u8 k', .int .i64 x', .int .i64 y', .int .i64 v', .int .i64 b', .int .i64 w', .int .i64 t'] 26)).cell? ⟨w2.heap.size, 1, none⟩ = some (.int .u8 k') := by rw [World.cell?_alloc_at _ _ _ _ (by simp)]; rfl
          have c3_3_2 : (w2.alloc (.cells #[.int .i64 s', .int .u8 k', .int .i64 x', .int .i64 y', .int .i64 v', .int .i64 b', .int .i64 w', .int .i64 t'] 26)).cell? ⟨w2.heap.size, 2, none⟩ = some (.int .i64 x') := by rw [World.cell?_alloc_at _ _ _ _ (by simp)]; rfl
          have c3_3_3 : (w2.alloc (.cells #[.int .i64 s', .int .u8 k', .int .i64 x', .int .i64 y', .int .i64 v', .int .i64 b', .int .i64 w', .int .i64 t'] 26)).cell? ⟨w2.heap.size, 3, none⟩ = some (.int .i64 y') := by rw [World.cell?_alloc_at _ _ _ _ (by simp)]; rfl
          have c3_3_4 : (w2.alloc (.cells #[.int .i64 s', .int .u8 k', .int .i64 x', .int .i64 y', .int .i64 v', .int .i64 b', .int .i64 w', .int .i64 t'] 26)).cell? ⟨w2.heap.size, 4, none⟩ = some (.int .i64 v') := by rw [World.cell?_alloc_at _ _ _ _ (by simp)]; rfl
          have c3_3_5 : (w2.alloc (.cells #[.int .i64 s', .int .u8 k', .int .i64 x', .int .i64 y', .int .i64 v', .int .i64 b', .int .i64 w', .int .i64 t'] 26)).cell? ⟨w2.heap.size, 5, none⟩ = some (.int .i64 b') := by rw [World.cell?_alloc_at _ _ _ _ (by simp)]; rfl
          have c3_3_6 : (w2.alloc (.cells #[.int .i64 s', .int .u8 k', .int .i64 x', .int .i64 y', .int .i64 v', .int .i64 b', .int .i64 w', .int .i64 t'] 26)).cell? ⟨w2.heap.size, 6, none⟩ = some (.int .i64 w') := by rw [World.cell?_alloc_at _ _ _ _ (by simp)]; rfl
          have c3_3_7 : (w2.alloc (.cells #[.int .i64 s', .int .u8 k', .int .i64 x', .int .i64 y', .int .i64 v', .int .i64 b', .int .i64 w', .int .i64 t'] 26)).cell? ⟨w2.heap.size, 7, none⟩ = some (.int .i64 t') := by rw [World.cell?_alloc_at _ _ _ _ (by simp)]; rfl
          have z3_3 : w2.heap.size < (w2.alloc (.cells #[.int .i64 s', .int .u8 k', .int .i64 x', .int .i64 y', .int .i64 v', .int .i64 b', .int .i64 w', .int .i64 t'] 26)).heap.size := by simp
          have hw3 := Lib.hid (hw2.out.trans (hb3.mono hw2.out.size))
          generalize hW3 : (w2.alloc (.cells #[.int .i64 s', .int .u8 k', .int .i64 x', .int .i64 y', .int .i64 v', .int .i64 b', .int .i64 w', .int .i64 t'] 26)) = w3 at *
          clear hW3 hb3 hw2 c2_0_0 c2_0_1 c2_0_2 c2_0_3 c2_0_4 c2_0_5 c2_0_6 c2_0_7 c2_1_0 c2_1_1 c2_1_2 c2_1_3 c2_2_0 c2_2_1 z2_0 z2_1 z2_2
          refine (HG0.out _).mono ?_
          rintro e w4 ⟨rfl, hb4⟩
          have c4_0_0 := (hb4.cell (p := ⟨w.heap.size, 0, none⟩) z3_0).trans c3_0_0
          have c4_0_1 := (hb4.cell (p := ⟨w.heap.size, 1, none⟩) z3_0).trans c3_0_1
          have c4_0_2 := (hb4.cell (p := ⟨w.heap.size, 2, none⟩) z3_0).trans c3_0_2
          have c4_0_3 := (hb4.cell (p := ⟨w.heap.size, 3, none⟩) z3_0).trans c3_0_3
          have c4_0_4 := (hb4.cell (p := ⟨w.heap.size, 4, none⟩) z3_0).trans c3_0_4
          have c4_0_5 := (hb4.cell (p := ⟨w.heap.size, 5, none⟩) z3_0).trans c3_0_5
          have c4_0_6 := (hb4.cell (p := ⟨w.heap.size, 6, none⟩) z3_0).trans c3_0_6
          have c4_0_7 := (hb4.cell (p := ⟨w.heap.size, 7, none⟩) z3_0).trans c3_0_7
          have c4_1_0 := (hb4.cell (p := ⟨w.heap.size + 1, 0, none⟩) z3_1).trans c3_1_0
          have c4_1_1 := (hb4.cell (p := ⟨w.heap.size + 1, 1, none⟩) z3_1).trans c3_1_1
          have c4_1_2 := (hb4.cell (p := ⟨w.heap.size + 1, 2, none⟩) z3_1).trans c3_1_2
          have c4_1_3 := (hb4.cell (p := ⟨w.heap.size + 1, 3, none⟩) z3_1).trans c3_1_3
          have c4_2_0 := (hb4.cell (p := ⟨w.heap.size + 1 + 1, 0, none⟩) z3_2).trans c3_2_0
          have c4_2_1 := (hb4.cell (p := ⟨w.heap.size + 1 + 1, 1, none⟩) z3_2).trans c3_2_1
          have c4_3_0 := (hb4.cell (p := ⟨w2.heap.size, 0, none⟩) z3_3).trans c3_3_0
          have c4_3_1 := (hb4.cell (p := ⟨w2.heap.size, 1, none⟩) z3_3).trans c3_3_1
          have c4_3_2 := (hb4.cell (p := ⟨w2.heap.size, 2, none⟩) z3_3).trans c3_3_2
          have c4_3_3 := (hb4.cell (p := ⟨w2.heap.size, 3, none⟩) z3_3).trans c3_3_3
          have c4_3_4 := (hb4.cell (p := ⟨w2.heap.size, 4, none⟩) z3_3).trans c3_3_4
          have c4_3_5 := (hb4.cell (p := ⟨w2.heap.size, 5, none⟩) z3_3).trans c3_3_5
          have c4_3_6 := (hb4.cell (p := ⟨w2.heap.size, 6, none⟩) z3_3).trans c3_3_6
          have c4_3_7 := (hb4.cell (p := ⟨w2.heap.size, 7, none⟩) z3_3).trans c3_3_7
          have z4_0 : w.heap.size < w4.heap.size := Nat.lt_of_lt_of_le z3_0 hb4.size
          have z4_1 : w.heap.size + 1 < w4.heap.size := Nat.lt_of_lt_of_le z3_1 hb4.size
          have z4_2 : w.heap.size + 1 + 1 < w4.heap.size := Nat.lt_of_lt_of_le z3_2 hb4.size
          have z4_3 : w2.heap.size < w4.heap.size := Nat.lt_of_lt_of_le z3_3 hb4.size
          have hw4 := Lib.hid (hw3.out.trans (hb4.mono hw3.out.size))
          clear hb4 hw3 c3_0_0 c3_0_1 c3_0_2 c3_0_3 c3_0_4 c3_0_5 c3_0_6 c3_0_7 c3_1_0 c3_1_1 c3_1_2 c3_1_3 c3_2_0 c3_2_1 c3_3_0 c3_3_1 c3_3_2 c3_3_3 c3_3_4 c3_3_5 c3_3_6 c3_3_7 z3_0 z3_1 z3_2 z3_3
          go_wp2_with fail
          refine (HV0.out _).mono ?_
          rintro e w5 ⟨rfl, hb5⟩
          have c5_0_0 := (hb5.cell (p := ⟨w.heap.size, 0, none⟩) z4_0).trans c4_0_0
          have c5_0_1 := (hb5.cell (p := ⟨w.heap.size, 1, none⟩) z4_0).trans c4_0_1
          have c5_0_2 := (hb5.cell (p := ⟨w.heap.size, 2, none⟩) z4_0).trans c4_0_2
          have c5_0_3 := (hb5.cell (p := ⟨w.heap.size, 3, none⟩) z4_0).trans c4_0_3
          have c5_0_4 := (hb5.cell (p := ⟨w.heap.size, 4, none⟩) z4_0).trans c4_0_4
          have c5_0_5 := (hb5.cell (p := ⟨w.heap.size, 5, none⟩) z4_0).trans c4_0_5
          have c5_0_6 := (hb5.cell (p := ⟨w.heap.size, 6, none⟩) z4_0).trans c4_0_6
          have c5_0_7 := (hb5.cell (p := ⟨w.heap.size, 7, none⟩) z4_0).trans c4_0_7
          have c5_1_0 := (hb5.cell (p := ⟨w.heap.size + 1, 0, none⟩) z4_1).trans c4_1_0
          have c5_1_1 := (hb5.cell (p := ⟨w.heap.size + 1, 1, none⟩) z4_1).trans c4_1_1
          have c5_1_2 := (hb5.cell (p := ⟨w.heap.size + 1, 2, none⟩) z4_1).trans c4_1_2
          have c5_1_3 := (hb5.cell (p := ⟨w.heap.size + 1, 3, none⟩) z4_1).trans c4_1_3
          have c5_2_0 := (hb5.cell (p := ⟨w.heap.size + 1 + 1, 0, none⟩) z4_2).trans c4_2_0
          have c5_2_1 := (hb5.cell (p := ⟨w.heap.size + 1 + 1, 1, none⟩) z4_2).trans c4_2_1
          have c5_3_0 := (hb5.cell (p := ⟨w2.heap.size, 0, none⟩) z4_3).trans c4_3_0
          have c5_3_1 := (hb5.cell (p := ⟨w2.heap.size, 1, none⟩) z4_3).trans c4_3_1
          have c5_3_2 := (hb5.cell (p := ⟨w2.heap.size, 2, none⟩) z4_3).trans c4_3_2
          have c5_3_3 := (hb5.cell (p := ⟨w2.heap.size, 3, none⟩) z4_3).trans c4_3_3
          have c5_3_4 := (hb5.cell (p := ⟨w2.heap.size, 4, none⟩) z4_3).trans c4_3_4
          have c5_3_5 := (hb5.cell (p := ⟨w2.heap.size, 5, none⟩) z4_3).trans c4_3_5
          have c5_3_6 := (hb5.cell (p := ⟨w2.heap.size, 6, none⟩) z4_3).trans c4_3_6
          have c5_3_7 := (hb5.cell (p := ⟨w2.heap.size, 7, none⟩) z4_3).trans c4_3_7
          have z5_0 : w.heap.size < w5.heap.size := Nat.lt_of_lt_of_le z4_0 hb5.size
          have z5_1 : w.heap.size + 1 < w5.heap.size := Nat.lt_of_lt_of_le z4_1 hb5.size
          have z5_2 : w.heap.size + 1 + 1 < w5.heap.size := Nat.lt_of_lt_of_le z4_2 hb5.size
          have z5_3 : w2.heap.size < w5.heap.size := Nat.lt_of_lt_of_le z4_3 hb5.size
          have hw5 := Lib.hid (hw4.out.trans (hb5.mono hw4.out.size))
          clear hb5 hw4 c4_0_0 c4_0_1 c4_0_2 c4_0_3 c4_0_4 c4_0_5 c4_0_6 c4_0_7 c4_1_0 c4_1_1 c4_1_2 c4_1_3 c4_2_0 c4_2_1 c4_3_0 c4_3_1 c4_3_2 c4_3_3 c4_3_4 c4_3_5 c4_3_6 c4_3_7 z4_0 z4_1 z4_2 z4_3
          go_wp2_with fail
          go_quiet (fail)
          go_wp2_with fail
          go_ret
          exact ⟨rfl, below_drewN hw5.out _⟩
  · have hz := hno he
    simp only at hz
    subst hz
    have g1 : (en == 0) = false := by simpa using he
    have g2 : (en != 0) = true := by simpa using he
    have HA := Lib.hid A0
    clear A0 G0 V0 hno hmv hok hpq he hg
    go_enter Tryd.func9, Tryd.ntmps9
    go_wp2_with fail
    have c0_0_0 : (((w.alloc (.cells #[.int .i64 s, .int .u8 k, .int .i64 x, .int .i64 y, .int .i64 v, .int .i64 b, .int .i64 wt, .int .i64 t] 26)).alloc (.cells #[.int .i64 p, .int .i64 q, .int .i64 p1, .int .i64 q1] 48)).alloc (.cells #[.int .i64 m0, .int .i64 m1] 49)).cell? ⟨w.heap.size, 0, none⟩ = some (.int .i64 s) := ((((Below.refl (w.heap.size + 1) (w.alloc (.cells #[.int .i64 s, .int .u8 k, .int .i64 x, .int .i64 y, .int .i64 v, .int .i64 b, .int .i64 wt, .int .i64 t] 26))).alloc (by simp; try omega) (.cells #[.int .i64 p, .int .i64 q, .int .i64 p1, .int .i64 q1] 48)).alloc (by simp; try omega) (.cells #[.int .i64 m0, .int .i64 m1] 49)).cell (p := ⟨w.heap.size, 0, none⟩) (by simp; try omega)).trans (by rw [World.cell?_alloc_at _ _ _ _ (by simp)]; rfl)
    have c0_0_1 : (((w.alloc (.cells #[.int .i64 s, .int .u8 k, .int .i64 x, .int .i64 y, .int .i64 v, .int .i64 b, .int .i64 wt, .int .i64 t] 26)).alloc (.cells #[.int .i64 p, .int .i64 q, .int .i64 p1, .int .i64 q1] 48)).alloc (.cells #[.int .i64 m0, .int .i64 m1] 49)).cell? ⟨w.heap.size, 1, none⟩ = some (.int .u8 k) := ((((Below.refl (w.heap.size + 1) (w.alloc (.cells #[.int .i64 s, .int .u8 k, .int .i64 x, .int .i64 y, .int .i64 v, .int .i64 b, .int .i64 wt, .int .i64 t] 26))).alloc (by simp; try omega) (.cells #[.int .i64 p, .int .i64 q, .int .i64 p1, .int .i64 q1] 48)).alloc (by simp; try omega) (.cells #[.int .i64 m0, .int .i64 m1] 49)).cell (p := ⟨w.heap.size, 1, none⟩) (by simp; try omega)).trans (by rw [World.cell?_alloc_at _ _ _ _ (by simp)]; rfl)
    have c0_0_2 : (((w.alloc (.cells #[.int .i64 s, .int .u8 k, .int .i64 x, .int .i64 y, .int .i64 v, .int .i64 b, .int .i64 wt, .int .i64 t] 26)).alloc (.cells #[.int .i64 p, .int .i64 q, .int .i64 p1, .int .i64 q1] 48)).alloc (.cells #[.int .i64 m0, .int .i64 m1] 49)).cell? ⟨w.heap.size, 2, none⟩ = some (.int .i64 x) := ((((Below.refl (w.heap.size + 1) (w.alloc (.cells #[.int .i64 s, .int .u8 k, .int .i64 x, .int .i64 y, .int .i64 v, .int .i64 b, .int .i64 wt, .int .i64 t] 26))).alloc (by simp; try omega) (.cells #[.int .i64 p, .int .i64 q, .int .i64 p1, .int .i64 q1] 48)).alloc (by simp; try omega) (.cells #[.int .i64 m0, .int .i64 m1] 49)).cell (p := ⟨w.heap.size, 2, none⟩) (by simp; try omega)).trans (by rw [World.cell?_alloc_at _ _ _ _ (by simp)]; rfl)
    have c0_0_3 : (((w.alloc (.cells #[.int .i64 s, .int .u8 k, .int .i64 x, .int .i64 y, .int .i64 v, .int .i64 b, .int .i64 wt, .int .i64 t] 26)).alloc (.cells #[.int .i64 p, .int .i64 q, .int .i64 p1, .int .i64 q1] 48)).alloc (.cells #[.int .i64 m0, .int .i64 m1] 49)).cell? ⟨w.heap.size, 3, none⟩ = some (.int .i64 y) := ((((Below.refl (w.heap.size + 1) (w.alloc (.cells #[.int .i64 s, .int .u8 k, .int .i64 x, .int .i64 y, .int .i64 v, .int .i64 b, .int .i64 wt, .int .i64 t] 26))).alloc (by simp; try omega) (.cells #[.int .i64 p, .int .i64 q, .int .i64 p1, .int .i64 q1] 48)).alloc (by simp; try omega) (.cells #[.int .i64 m0, .int .i64 m1] 49)).cell (p := ⟨w.heap.size, 3, none⟩) (by simp; try omega)).trans (by rw [World.cell?_alloc_at _ _ _ _ (by simp)]; rfl)
    have c0_0_4 : (((w.alloc (.cells #[.int .i64 s, .int .u8 k, .int .i64 x, .int .i64 y, .int .i64 v, .int .i64 b, .int .i64 wt, .int .i64 t] 26)).alloc (.cells #[.int .i64 p, .int .i64 q, .int .i64 p1, .int .i64 q1] 48)).alloc (.cells #[.int .i64 m0, .int .i64 m1] 49)).cell? ⟨w.heap.size, 4, none⟩ = some (.int .i64 v) := ((((Below.refl (w.heap.size + 1) (w.alloc (.cells #[.int .i64 s, .int .u8 k, .int .i64 x, .int .i64 y, .int .i64 v, .int .i64 b, .int .i64 wt, .int .i64 t] 26))).alloc (by simp; try omega) (.cells #[.int .i64 p, .int .i64 q, .int .i64 p1, .int .i64 q1] 48)).alloc (by simp; try omega) (.cells #[.int .i64 m0, .int .i64 m1] 49)).cell (p := ⟨w.heap.size, 4, none⟩) (by simp; try omega)).trans (by rw [World.cell?_alloc_at _ _ _ _ (by simp)]; rfl)
    have c0_0_5 : (((w.alloc (.cells #[.int .i64 s, .int .u8 k, .int .i64 x, .int .i64 y, .int .i64 v, .int .i64 b, .int .i64 wt, .int .i64 t] 26)).alloc (.cells #[.int .i64 p, .int .i64 q, .int .i64 p1, .int .i64 q1] 48)).alloc (.cells #[.int .i64 m0, .int .i64 m1] 49)).cell? ⟨w.heap.size, 5, none⟩ = some (.int .i64 b) := ((((Below.refl (w.heap.size + 1) (w.alloc (.cells #[.int .i64 s, .int .u8 k, .int .i64 x, .int .i64 y, .int .i64 v, .int .i64 b, .int .i64 wt, .int .i64 t] 26))).alloc (by simp; try omega) (.cells #[.int .i64 p, .int .i64 q, .int .i64 p1, .int .i64 q1] 48)).alloc (by simp; try omega) (.cells #[.int .i64 m0, .int .i64 m1] 49)).cell (p := ⟨w.heap.size, 5, none⟩) (by simp; try omega)).trans (by rw [World.cell?_alloc_at _ _ _ _ (by simp)]; rfl)
    have c0_0_6 : (((w.alloc (.cells #[.int .i64 s, .int .u8 k, .int .i64 x, .int .i64 y, .int .i64 v, .int .i64 b, .int .i64 wt, .int .i64 t] 26)).alloc (.cells #[.int .i64 p, .int .i64 q, .int .i64 p1, .int .i64 q1] 48)).alloc (.cells #[.int .i64 m0, .int .i64 m1] 49)).cell? ⟨w.heap.size, 6, none⟩ = some (.int .i64 wt) := ((((Below.refl (w.heap.size + 1) (w.alloc (.cells #[.int .i64 s, .int .u8 k, .int .i64 x, .int .i64 y, .int .i64 v, .int .i64 b, .int .i64 wt, .int .i64 t] 26))).alloc (by simp; try omega) (.cells #[.int .i64 p, .int .i64 q, .int .i64 p1, .int .i64 q1] 48)).alloc (by simp; try omega) (.cells #[.int .i64 m0, .int .i64 m1] 49)).cell (p := ⟨w.heap.size, 6, none⟩) (by simp; try omega)).trans (by rw [World.cell?_alloc_at _ _ _ _ (by simp)]; rfl)
    have c0_0_7 : (((w.alloc (.cells #[.int .i64 s, .int .u8 k, .int .i64 x, .int .i64 y, .int .i64 v, .int .i64 b, .int .i64 wt, .int .i64 t] 26)).alloc (.cells #[.int .i64 p, .int .i64 q, .int .i64 p1, .int .i64 q1] 48)).alloc (.cells #[.int .i64 m0, .int .i64 m1] 49)).cell? ⟨w.heap.size, 7, none⟩ = some (.int .i64 t) := ((((Below.refl (w.heap.size + 1) (w.alloc (.cells #[.int .i64 s, .int .u8 k, .int .i64 x, .int .i64 y, .int .i64 v, .int .i64 b, .int .i64 wt, .int .i64 t] 26))).alloc (by simp; try omega) (.cells #[.int .i64 p, .int .i64 q, .int .i64 p1, .int .i64 q1] 48)).alloc (by simp; try omega) (.cells #[.int .i64 m0, .int .i64 m1] 49)).cell (p := ⟨w.heap.size, 7, none⟩) (by simp; try omega)).trans (by rw [World.cell?_alloc_at _ _ _ _ (by simp)]; rfl)
    have c0_1_0 : (((w.alloc (.cells #[.int .i64 s, .int .u8 k, .int .i64 x, .int .i64 y, .int .i64 v, .int .i64 b, .int .i64 wt, .int .i64 t] 26)).alloc (.cells #[.int .i64 p, .int .i64 q, .int .i64 p1, .int .i64 q1] 48)).alloc (.cells #[.int .i64 m0, .int .i64 m1] 49)).cell? ⟨w.heap.size + 1, 0, none⟩ = some (.int .i64 p) := (((Below.refl (w.heap.size + 1 + 1) ((w.alloc (.cells #[.int .i64 s, .int .u8 k, .int .i64 x, .int .i64 y, .int .i64 v, .int .i64 b, .int .i64 wt, .int .i64 t] 26)).alloc (.cells #[.int .i64 p, .int .i64 q, .int .i64 p1, .int .i64 q1] 48))).alloc (by simp; try omega) (.cells #[.int .i64 m0, .int .i64 m1] 49)).cell (p := ⟨w.heap.size + 1, 0, none⟩) (by simp; try omega)).trans (by rw [World.cell?_alloc_at _ _ _ _ (by simp)]; rfl)
    have c0_1_1 : (((w.alloc (.cells #[.int .i64 s, .int .u8 k, .int .i64 x, .int .i64 y, .int .i64 v, .int .i64 b, .int .i64 wt, .int .i64 t] 26)).alloc (.cells #[.int .i64 p, .int .i64 q, .int .i64 p1, .int .i64 q1] 48)).alloc (.cells #[.int .i64 m0, .int .i64 m1] 49)).cell? ⟨w.heap.size + 1, 1, none⟩ = some (.int .i64 q) := (((Below.refl (w.heap.size + 1 + 1) ((w.alloc (.cells #[.int .i64 s, .int .u8 k, .int .i64 x, .int .i64 y, .int .i64 v, .int .i64 b, .int .i64 wt, .int .i64 t] 26)).alloc (.cells #[.int .i64 p, .int .i64 q, .int .i64 p1, .int .i64 q1] 48))).alloc (by simp; try omega) (.cells #[.int .i64 m0, .int .i64 m1] 49)).cell (p := ⟨w.heap.size + 1, 1, none⟩) (by simp; try omega)).trans (by rw [World.cell?_alloc_at _ _ _ _ (by simp)]; rfl)
    have c0_1_2 : (((w.alloc (.cells #[.int .i64 s, .int .u8 k, .int .i64 x, .int .i64 y, .int .i64 v, .int .i64 b, .int .i64 wt, .int .i64 t] 26)).alloc (.cells #[.int .i64 p, .int .i64 q, .int .i64 p1, .int .i64 q1] 48)).alloc (.cells #[.int .i64 m0, .int .i64 m1] 49)).cell? ⟨w.heap.size + 1, 2, none⟩ = some (.int .i64 p1) := (((Below.refl (w.heap.size + 1 + 1) ((w.alloc (.cells #[.int .i64 s, .int .u8 k, .int .i64 x, .int .i64 y, .int .i64 v, .int .i64 b, .int .i64 wt, .int .i64 t] 26)).alloc (.cells #[.int .i64 p, .int .i64 q, .int .i64 p1, .int .i64 q1] 48))).alloc (by simp; try omega) (.cells #[.int .i64 m0, .int .i64 m1] 49)).cell (p := ⟨w.heap.size + 1, 2, none⟩) (by simp; try omega)).trans (by rw [World.cell?_alloc_at _ _ _ _ (by simp)]; rfl)
    have c0_1_3 : (((w.alloc (.cells #[.int .i64 s, .int .u8 k, .int .i64 x, .int .i64 y, .int .i64 v, .int .i64 b, .int .i64 wt, .int .i64 t] 26)).alloc (.cells #[.int .i64 p, .int .i64 q, .int .i64 p1, .int .i64 q1] 48)).alloc (.cells #[.int .i64 m0, .int .i64 m1] 49)).cell? ⟨w.heap.size + 1, 3, none⟩ = some (.int .i64 q1) := (((Below.refl (w.heap.size + 1 + 1) ((w.alloc (.cells #[.int .i64 s, .int .u8 k, .int .i64 x, .int .i64 y, .int .i64 v, .int .i64 b, .int .i64 wt, .int .i64 t] 26)).alloc (.cells #[.int .i64 p, .int .i64 q, .int .i64 p1, .int .i64 q1] 48))).alloc (by simp; try omega) (.cells #[.int .i64 m0, .int .i64 m1] 49)).cell (p := ⟨w.heap.size + 1, 3, none⟩) (by simp; try omega)).trans (by rw [World.cell?_alloc_at _ _ _ _ (by simp)]; rfl)
    have c0_2_0 : (((w.alloc (.cells #[.int .i64 s, .int .u8 k, .int .i64 x, .int .i64 y, .int .i64 v, .int .i64 b, .int .i64 wt, .int .i64 t] 26)).alloc (.cells #[.int .i64 p, .int .i64 q, .int .i64 p1, .int .i64 q1] 48)).alloc (.cells #[.int .i64 m0, .int .i64 m1] 49)).cell? ⟨w.heap.size + 1 + 1, 0, none⟩ = some (.int .i64 m0) := by rw [World.cell?_alloc_at _ _ _ _ (by simp)]; rfl
    have c0_2_1 : (((w.alloc (.cells #[.int .i64 s, .int .u8 k, .int .i64 x, .int .i64 y, .int .i64 v, .int .i64 b, .int .i64 wt, .int .i64 t] 26)).alloc (.cells #[.int .i64 p, .int .i64 q, .int .i64 p1, .int .i64 q1] 48)).alloc (.cells #[.int .i64 m0, .int .i64 m1] 49)).cell? ⟨w.heap.size + 1 + 1, 1, none⟩ = some (.int .i64 m1) := by rw [World.cell?_alloc_at _ _ _ _ (by simp)]; rfl
    have z0_0 : w.heap.size < (((w.alloc (.cells #[.int .i64 s, .int .u8 k, .int .i64 x, .int .i64 y, .int .i64 v, .int .i64 b, .int .i64 wt, .int .i64 t] 26)).alloc (.cells #[.int .i64 p, .int .i64 q, .int .i64 p1, .int .i64 q1] 48)).alloc (.cells #[.int .i64 m0, .int .i64 m1] 49)).heap.size := by simp; try omega
    have z0_1 : w.heap.size + 1 < (((w.alloc (.cells #[.int .i64 s, .int .u8 k, .int .i64 x, .int .i64 y, .int .i64 v, .int .i64 b, .int .i64 wt, .int .i64 t] 26)).alloc (.cells #[.int .i64 p, .int .i64 q, .int .i64 p1, .int .i64 q1] 48)).alloc (.cells #[.int .i64 m0, .int .i64 m1] 49)).heap.size := by simp; try omega
    have z0_2 : w.heap.size + 1 + 1 < (((w.alloc (.cells #[.int .i64 s, .int .u8 k, .int .i64 x, .int .i64 y, .int .i64 v, .int .i64 b, .int .i64 wt, .int .i64 t] 26)).alloc (.cells #[.int .i64 p, .int .i64 q, .int .i64 p1, .int .i64 q1] 48)).alloc (.cells #[.int .i64 m0, .int .i64 m1] 49)).heap.size := by simp; try omega
    have hw0 := Lib.hid ((((Below.refl w.heap.size w).alloc (by simp; try omega) (.cells #[.int .i64 s, .int .u8 k, .int .i64 x, .int .i64 y, .int .i64 v, .int .i64 b, .int .i64 wt, .int .i64 t] 26)).alloc (by simp; try omega) (.cells #[.int .i64 p, .int .i64 q, .int .i64 p1, .int .i64 q1] 48)).alloc (by simp; try omega) (.cells #[.int .i64 m0, .int .i64 m1] 49))
    generalize hW0 : (((w.alloc (.cells #[.int .i64 s, .int .u8 k, .int .i64 x, .int .i64 y, .int .i64 v, .int .i64 b, .int .i64 wt, .int .i64 t] 26)).alloc (.cells #[.int .i64 p, .int .i64 q, .int .i64 p1, .int .i64 q1] 48)).alloc (.cells #[.int .i64 m0, .int .i64 m1] 49)) = w0 at *
    clear hW0
    refine (awake_any _ (HE.out.below hw0.out)).mono ?_
    rintro e w1 ⟨rfl, hb1⟩
    have c1_0_0 := (hb1.cell (p := ⟨w.heap.size, 0, none⟩) z0_0).trans c0_0_0
    have c1_0_1 := (hb1.cell (p := ⟨w.heap.size, 1, none⟩) z0_0).trans c0_0_1
    have c1_0_2 := (hb1.cell (p := ⟨w.heap.size, 2, none⟩) z0_0).trans c0_0_2
    have c1_0_3 := (hb1.cell (p := ⟨w.heap.size, 3, none⟩) z0_0).trans c0_0_3
    have c1_0_4 := (hb1.cell (p := ⟨w.heap.size, 4, none⟩) z0_0).trans c0_0_4
    have c1_0_5 := (hb1.cell (p := ⟨w.heap.size, 5, none⟩) z0_0).trans c0_0_5
    have c1_0_6 := (hb1.cell (p := ⟨w.heap.size, 6, none⟩) z0_0).trans c0_0_6
    have c1_0_7 := (hb1.cell (p := ⟨w.heap.size, 7, none⟩) z0_0).trans c0_0_7
    have c1_1_0 := (hb1.cell (p := ⟨w.heap.size + 1, 0, none⟩) z0_1).trans c0_1_0
    have c1_1_1 := (hb1.cell (p := ⟨w.heap.size + 1, 1, none⟩) z0_1).trans c0_1_1
    have c1_1_2 := (hb1.cell (p := ⟨w.heap.size + 1, 2, none⟩) z0_1).trans c0_1_2
    have c1_1_3 := (hb1.cell (p := ⟨w.heap.size + 1, 3, none⟩) z0_1).trans c0_1_3
    have c1_2_0 := (hb1.cell (p := ⟨w.heap.size + 1 + 1, 0, none⟩) z0_2).trans c0_2_0
    have c1_2_1 := (hb1.cell (p := ⟨w.heap.size + 1 + 1, 1, none⟩) z0_2).trans c0_2_1
    have z1_0 : w.heap.size < w1.heap.size := Nat.lt_of_lt_of_le z0_0 hb1.size
    have z1_1 : w.heap.size + 1 < w1.heap.size := Nat.lt_of_lt_of_le z0_1 hb1.size
    have z1_2 : w.heap.size + 1 + 1 < w1.heap.size := Nat.lt_of_lt_of_le z0_2 hb1.size
    have hw1 := Lib.hid (hw0.out.trans (hb1.mono hw0.out.size))
    clear hb1 hw0 c0_0_0 c0_0_1 c0_0_2 c0_0_3 c0_0_4 c0_0_5 c0_0_6 c0_0_7 c0_1_0 c0_1_1 c0_1_2 c0_1_3 c0_2_0 c0_2_1 z0_0 z0_1 z0_2
    go_wp2_with fail
    refine (HA.out _).mono ?_
    rintro e w2 ⟨rfl, hb2⟩
    have c2_0_0 := (hb2.cell (p := ⟨w.heap.size, 0, none⟩) z1_0).trans c1_0_0
    have c2_0_1 := (hb2.cell (p := ⟨w.heap.size, 1, none⟩) z1_0).trans c1_0_1
    have c2_0_2 := (hb2.cell (p := ⟨w.heap.size, 2, none⟩) z1_0).trans c1_0_2
    have c2_0_3 := (hb2.cell (p := ⟨w.heap.size, 3, none⟩) z1_0).trans c1_0_3
    have c2_0_4 := (hb2.cell (p := ⟨w.heap.size, 4, none⟩) z1_0).trans c1_0_4
    have c2_0_5 := (hb2.cell (p := ⟨w.heap.size, 5, none⟩) z1_0).trans c1_0_5
    have c2_0_6 := (hb2.cell (p := ⟨w.heap.size, 6, none⟩) z1_0).trans c1_0_6
    have c2_0_7 := (hb2.cell (p := ⟨w.heap.size, 7, none⟩) z1_0).trans c1_0_7
    have c2_1_0 := (hb2.cell (p := ⟨w.heap.size + 1, 0, none⟩) z1_1).trans c1_1_0
    have c2_1_1 := (hb2.cell (p := ⟨w.heap.size + 1, 1, none⟩) z1_1).trans c1_1_1
    have c2_1_2 := (hb2.cell (p := ⟨w.heap.size + 1, 2, none⟩) z1_1).trans c1_1_2
    have c2_1_3 := (hb2.cell (p := ⟨w.heap.size + 1, 3, none⟩) z1_1).trans c1_1_3
    have c2_2_0 := (hb2.cell (p := ⟨w.heap.size + 1 + 1, 0, none⟩) z1_2).trans c1_2_0
    have c2_2_1 := (hb2.cell (p := ⟨w.heap.size + 1 + 1, 1, none⟩) z1_2).trans c1_2_1
    have z2_0 : w.heap.size < w2.heap.size := Nat.lt_of_lt_of_le z1_0 hb2.size
    have z2_1 : w.heap.size + 1 < w2.heap.size := Nat.lt_of_lt_of_le z1_1 hb2.size
    have z2_2 : w.heap.size + 1 + 1 < w2.heap.size := Nat.lt_of_lt_of_le z1_2 hb2.size
    have hw2 := Lib.hid (hw1.out.trans (hb2.mono hw1.out.size))
    clear hb2 hw1 c1_0_0 c1_0_1 c1_0_2 c1_0_3 c1_0_4 c1_0_5 c1_0_6 c1_0_7 c1_1_0 c1_1_1 c1_1_2 c1_1_3 c1_2_0 c1_2_1 z1_0 z1_1 z1_2
    simp only [repV, rp0]
    go_wp2_with fail
    go_ret
    exact ⟨rfl, hw2.out.alloc hw2.out.size _⟩
/-! ### the row's step -/
set_option maxRecDepth 100000 in
theorem contract (H : Type) (enc : TypeId × Value → H) (W : World) (base : Nat) (args : Array Value) (ds gs : List (DataW H)) (before : List MemPlace)
    (hval : ∀ (j : Nat) t v, Tryd.f9.params[j]? = some t → args[j]? = some v → Value.okWide Tryd.prog W .any base t v)
    (hW : DataW.Whole enc Tryd.prog Tryd.f9.params.toList Rows.sensorMovesSpec.vars false W args.toList ds gs before) (hL : laidMetH Tryd.prog Rows.sensorMovesRow.laid W) (hsh : W.ShapedOpen Tryd.prog) :
    Calls Tryd.prog 9 args W fun e W' => ∃ v, e = .returned v ∧ Rows.sensorMovesSpec.post enc Tryd.prog Tryd.f9 false true false false W args v W' := by
  have hW' := hW
  obtain ⟨p, q, hA0, hV, rfl, hfz, hnd⟩ := hW
  have hA : DataW.TrodAll enc Tryd.prog W 0 (fun _ => true) true Tryd.f9.params.toList args.toList ds p := hA0
  rw [Tryd.params9] at hA hval
  obtain ⟨v0, vs0, d0, ds0, p0, q0, hargs, rfl, rfl, h0, r0⟩ := trodAll_cons hA
  obtain ⟨v1, vs1, d1, ds1, p1, q1, rfl, rfl, rfl, h1, r1⟩ := trodAll_cons r0
  obtain ⟨v2, vs2, d2, ds2, p2, q2, rfl, rfl, rfl, h2, r2⟩ := trodAll_cons r1
  obtain ⟨rfl, rfl, rfl⟩ := trodAll_nil r2
  obtain rfl : args = #[v0, v1, v2] := by cases args; simp_all
  obtain ⟨rfl, rfl⟩ := trodVars_none hV
  obtain ⟨x0_0, x0_1, x0_2, x0_3, x0_4, x0_5, x0_6, x0_7, rfl, rfl, rfl, w0_0, w0_1, w0_2, w0_3, w0_4, w0_5, w0_6, w0_7⟩ := open_report (hval 0 26 v0 rfl rfl) h0
  obtain ⟨x1_0, x1_1, x1_2, x1_3, rfl, rfl, rfl, w1_0, w1_1, w1_2, w1_3⟩ := open_points2 (hval 1 48 v1 rfl rfl) h1
  obtain ⟨x2_0, x2_1, rfl, rfl, rfl, w2_0, w2_1⟩ := open_ints2 (hval 2 49 v2 rfl rfl) h2
  clear hA0
  simp only [List.append_nil] at hW'
  refine (walk x0_0 x0_1 x0_2 x0_3 x0_4 x0_5 x0_6 x0_7 x1_0 x1_1 x1_2 x1_3 x2_0 x2_1 (bd64 w0_0).1 (bd64 w0_0).2 (bd8 w0_1).1 (bd8 w0_1).2 (bd64 w0_2).1 (bd64 w0_2).2 (bd64 w0_3).1 (bd64 w0_3).2 (bd64 w0_4).1 (bd64 w0_4).2 (bd64 w0_5).1 (bd64 w0_5).2 (bd64 w0_6).1 (bd64 w0_6).2 (bd64 w0_7).1 (bd64 w0_7).2 (bd64 w1_0).1 (bd64 w1_0).2 (bd64 w1_1).1 (bd64 w1_1).2 (bd64 w1_2).1 (bd64 w1_2).2 (bd64 w1_3).1 (bd64 w1_3).2 (bd64 w2_0).1 (bd64 w2_0).2 (bd64 w2_1).1 (bd64 w2_1).2 W (env_of hL hsh)).mono fun e W' ⟨he, hb⟩ => ?_
  subst he
  exact ⟨_, rfl, post_of_below (pa := []) (pv := []) hW' (fun _ _ _ => trodAll_cons_mk (shut_bool Tryd.underlying4 _) trodAll_mk0) (fun sp _ => (trodAll_cons_mk (shut_report w0_0 w0_1 w0_2 w0_3 w0_4 w0_5 w0_6 w0_7) (trodAll_cons_mk (shut_points2 w1_0 w1_1 w1_2 w1_3) (trodAll_cons_mk (shut_ints2 w2_0 w2_1) trodAll_mk0)))) (fun _ _ => rfl) rfl
    hb (ok_one (by kernel_rfl) rfl (okWide_bool_mk Tryd.underlying4 _))⟩

theorem reads (os : Os) {H : Type} (enc : TypeId × Value → H) : ∃ places, DataW.whole enc Tryd.prog ((laidWorld os).forCall (fun _ _ => 0) ⟨#[], #[.agg #[.int .i64 0, .int .u8 0, .int .i64 0, .int .i64 0, .int .i64 0, .int .i64 0, .int .i64 0, .int .i64 0], .agg #[.int .i64 0, .int .i64 0, .int .i64 0, .int .i64 0], .agg #[.int .i64 0, .int .i64 0]], []⟩).memory Tryd.f9.params.toList Rows.sensorMovesSpec.vars false (#[.agg #[.int .i64 0, .int .u8 0, .int .i64 0, .int .i64 0, .int .i64 0, .int .i64 0, .int .i64 0, .int .i64 0], .agg #[.int .i64 0, .int .i64 0, .int .i64 0, .int .i64 0], .agg #[.int .i64 0, .int .i64 0]] : Array Value).toList 8 = some ([.agg [.lit (.int .i64 0), .lit (.int .u8 0), .agg [.lit (.int .i64 0), .lit (.int .i64 0)], .lit (.int .i64 0), .lit (.int .i64 0), .lit (.int .i64 0), .lit (.int .i64 0)], .agg [.agg [.lit (.int .i64 0), .lit (.int .i64 0)], .agg [.lit (.int .i64 0), .lit (.int .i64 0)]], .agg [.lit (.int .i64 0), .lit (.int .i64 0)]], [], places) :=
  ⟨[], by kernel_rfl⟩

set_option maxRecDepth 100000 in
theorem lifted (os : Os) (started : os.Started) (H : Type) (enc : TypeId × Value → H) (F : Stop.Interp) :
    ReturnsInHanded {} Tryd.checked os 9 .any ((OpenSpec.ofChange Rows.sensorMovesSpec).preRow enc Tryd.prog Tryd.f9 Rows.sensorMovesRow.domain false Rows.sensorMovesRow.laid) (((OpenSpec.ofChange Rows.sensorMovesSpec).at F).post enc Tryd.prog Tryd.f9 false true false false) := by
  obtain ⟨places, hx⟩ := reads os enc
  refine returnsInHanded_of_row (C := Tryd.checked) (s := OpenSpec.ofChange Rows.sensorMovesSpec) own started (by kernel_rfl) Tryd.func9
    (witness_row_at (enc := enc) (C := Tryd.checked) false (laidWorld os) #[.agg #[.int .i64 0, .int .u8 0, .int .i64 0, .int .i64 0, .int .i64 0, .int .i64 0, .int .i64 0, .int .i64 0], .agg #[.int .i64 0, .int .i64 0, .int .i64 0, .int .i64 0], .agg #[.int .i64 0, .int .i64 0]] rfl (by kernel_rfl) (by kernel_rfl) (by kernel_rfl)
      (OpenSpec.preRow_of_cond 8 hx (by kernel_rfl) (fun k hk => by cases hk) (by kernel_rfl) (laid_met_any os _))) ?_
  intro W base args ds gs before hval hW _ _ _ hL hsh _
  exact contract H enc W base args ds gs before hval hW hL hsh

theorem said : Rows.SensorMovesSaid :=
  OpenClaim.holds_of_cond 9 Tryd.f9 rfl rfl rfl rfl rfl rfl rfl ⟨rfl, rfl, rfl, rfl, rfl⟩ rfl rfl rfl rfl rfl (by kernel_rfl) Tryd.func9 (by kernel_rfl)
    (of_decide_eq_true (by kernel_rfl)) (by unfold Func.isWrapper; first | (rw [if_pos (by decide +kernel)]; kernel_rfl) | (rw [if_neg (by decide +kernel)]; exact ⟨rfl, rfl⟩))
    (fun os started H enc _ F => by rw [OpenClaim.pre_eq_preRow]; exact lifted os started H enc F)

theorem plain (f : FuncId) (fn : Func) (hf : Tryd.pinned.checked.prog.funcNamed "flightdeck/flightdecklaw41.SensorMoves" = some f) (hfn : Tryd.pinned.checked.prog.funcs[f]? = some fn) :
    false = Tryd.pinned.checked.prog.looks [] ∧ ∀ (j : Nat) t, fn.params[j]? = some t → Tryd.pinned.checked.prog.wantsStandIn t = false := by
  obtain rfl : f = 9 := Option.some.inj ((show Tryd.prog.funcNamed "flightdeck/flightdecklaw41.SensorMoves" = some 9 by kernel_rfl).symm.trans hf) |>.symm
  obtain rfl : fn = Tryd.f9 := (Option.some.inj (Tryd.func9.symm.trans hfn)).symm
  refine ⟨by kernel_rfl, fun j t ht => ?_⟩
  rw [Tryd.params9] at ht
  have hm := Array.mem_of_getElem? ht
  simp only [List.mem_toArray, List.mem_cons, List.not_mem_nil, or_false] at hm
  rcases hm with rfl | rfl | rfl
  · exact (show Tryd.prog.wantsStandIn 26 = false by kernel_rfl)
  · exact (show Tryd.prog.wantsStandIn 48 = false by kernel_rfl)
  · exact (show Tryd.prog.wantsStandIn 49 = false by kernel_rfl)
/-- the law -/
theorem card : Rows.SensorMovesCardSaid :=
  Claim7.holds_tied_plain_at .later [] _ _ _ _ said (fun _ h => by cases h) (by kernel_rfl) (fun _ h => by cases h) sensorMoves_row_tie rfl ⟨rfl, rfl⟩ (by kernel_rfl) rfl plain (by kernel_rfl)
end Go.Proofs.YtnnafjmfbnnnjaaDoor.sensorMoves
