/-
  The law SensorSmall holds for every input: coefficients are at most Unit, not both 0, and the numbers of a measurement at most MaxZ. No condition.
-/
import Derived.Test.YtnnafjmfbnnnjaaDoorStructs41
import Derived.Test.YtnnafjmfbnnnjaaDoorAwake41
import Derived.Test.YtnnafjmfbnnnjaaDoorAged
import Derived.Lib.QuietBelow
import Derived.Test.YtnnafjmfbnnnjaaDoorSmallPlain
namespace Go.Proofs.YtnnafjmfbnnnjaaDoor.sensorSmall
set_option linter.unusedVariables false
open Go.ChangeShapes Go.WideShapes Go.ChangeAt Go.RowKit Tr Sq

theorem max4 (w : World) (ts : Array TypeId) (t : TypeId) (x y z u : Int) : (Builtin.max_ ts t #[.int .i64 x, .int .i64 y, .int .i64 z, .int .i64 u]).run Tryd.prog w = .ok (.int .i64 (max (max (max x y) z) u)) w := by
  have hm : ∀ p q : Int, (if p < q then q else p) = max p q := by intro p q; split <;> omega
  simp [Builtin.max_, Builtin.max2, hm]
def SmR (w : World) (n : Nat) (i : Value) (w' : World) : Prop := ∃ j : Nat, j ≤ n ∧ i = .int .i64 j ∧ Below w.heap.size w w'
set_option maxHeartbeats 8000000 in
set_option maxRecDepth 100000 in
theorem walk (s k x y v b wt t cx cy bx b2 : Int) (s_a : -9223372036854775808 ≤ s) (s_b : s ≤ 9223372036854775807) (k_a : 0 ≤ k) (k_b : k ≤ 255) (x_a : -9223372036854775808 ≤ x) (x_b : x ≤ 9223372036854775807) (y_a : -9223372036854775808 ≤ y) (y_b : y ≤ 9223372036854775807) (v_a : -9223372036854775808 ≤ v) (v_b : v ≤ 9223372036854775807) (b_a : -9223372036854775808 ≤ b) (b_b : b ≤ 9223372036854775807) (wt_a : -9223372036854775808 ≤ wt) (wt_b : wt ≤ 9223372036854775807) (t_a : -9223372036854775808 ≤ t) (t_b : t ≤ 9223372036854775807) (cx_a : -9223372036854775808 ≤ cx) (cx_b : cx ≤ 9223372036854775807) (cy_a : -9223372036854775808 ≤ cy) (cy_b : cy ≤ 9223372036854775807) (bx_a : -9223372036854775808 ≤ bx) (bx_b : bx ≤ 9223372036854775807) (b2_a : -9223372036854775808 ≤ b2) (b2_b : b2 ≤ 9223372036854775807) (w : World) (hE : Env w) :
    Calls Tryd.prog 4 #[.agg #[.int .i64 s, .int .u8 k, .int .i64 x, .int .i64 y, .int .i64 v, .int .i64 b, .int .i64 wt, .int .i64 t], .agg #[.int .i64 cx, .int .i64 cy, .int .i64 bx, .int .i64 b2]] w fun e w' => e = .returned (.bool true) ∧ Below w.heap.size w w' := by
  have HE := Lib.hid hE
  clear hE
  have hsm := rows_small (s := s) (k := k) (x := x) (y := y) (v := v) (b := b) (wt := wt) (t := t) (cx := cx) (cy := cy) (bx := bx) (b2 := b2)
  have R1 := Lib.hid (fun w => rows_any s k x y v b wt t cx cy bx b2 w k_a k_b)
  generalize rowsF s k x y v b wt t cx cy bx b2 = g at *
  obtain ⟨l, en⟩ := g
  simp only at hsm
  rcases hsm with ⟨he, rfl⟩ | ⟨rfl, ⟨m, rfl, hm⟩ | ⟨rfl, m, n, rfl, hm, hn⟩⟩
  · have g1 : (en == 0) = false := by simpa using he
    have g2 : (en != 0) = true := by simpa using he
    clear he
    go_enter Tryd.func4, Tryd.ntmps4
    go_wp2_with fail
    have c0_0_0 : ((w.alloc (.cells #[.int .i64 s, .int .u8 k, .int .i64 x, .int .i64 y, .int .i64 v, .int .i64 b, .int .i64 wt, .int .i64 t] 26)).alloc (.cells #[.int .i64 cx, .int .i64 cy, .int .i64 bx, .int .i64 b2] 32)).cell? ⟨w.heap.size, 0, none⟩ = some (.int .i64 s) := (((Below.refl (w.heap.size + 1) (w.alloc (.cells #[.int .i64 s, .int .u8 k, .int .i64 x, .int .i64 y, .int .i64 v, .int .i64 b, .int .i64 wt, .int .i64 t] 26))).alloc (by simp; try omega) (.cells #[.int .i64 cx, .int .i64 cy, .int .i64 bx, .int .i64 b2] 32)).cell (p := ⟨w.heap.size, 0, none⟩) (by simp; try omega)).trans (by rw [World.cell?_alloc_at _ _ _ _ (by simp)]; rfl)
    have c0_0_1 : ((w.alloc (.cells #[.int .i64 s, .int .u8 k, .int .i64 x, .int .i64 y, .int .i64 v, .int .i64 b, .int .i64 wt, .int .i64 t] 26)).alloc (.cells #[.int .i64 cx, .int .i64 cy, .int .i64 bx, .int .i64 b2] 32)).cell? ⟨w.heap.size, 1, none⟩ = some (.int .u8 k) := (((Below.refl (w.heap.size + 1) (w.alloc (.cells #[.int .i64 s, .int .u8 k, .int .i64 x, .int .i64 y, .int .i64 v, .int .i64 b, .int .i64 wt, .int .i64 t] 26))).alloc (by simp; try omega) (.cells #[.int .i64 cx, .int .i64 cy, .int .i64 bx, .int .i64 b2] 32)).cell (p := ⟨w.heap.size, 1, none⟩) (by simp; try omega)).trans (by rw [World.cell?_alloc_at _ _ _ _ (by simp)]; rfl)
    have c0_0_2 : ((w.alloc (.cells #[.int .i64 s, .int .u8 k, .int .i64 x, .int .i64 y, .int .i64 v, .int .i64 b, .int .i64 wt, .int .i64 t] 26)).alloc (.cells #[.int .i64 cx, .int .i64 cy, .int .i64 bx, .int .i64 b2] 32)).cell? ⟨w.heap.size, 2, none⟩ = some (.int .i64 x) := (((Below.refl (w.heap.size + 1) (w.alloc (.cells #[.int .i64 s, .int .u8 k, .int .i64 x, .int .i64 y, .int .i64 v, .int .i64 b, .int .i64 wt, .int .i64 t] 26))).alloc (by simp; try omega) (.cells #[.int .i64 cx, .int .i64 cy, .int .i64 bx, .int .i64 b2] 32)).cell (p := ⟨w.heap.size, 2, none⟩) (by simp; try omega)).trans (by rw [World.cell?_alloc_at _ _ _ _ (by simp)]; rfl)
    have c0_0_3 : ((w.alloc (.cells #[.int .i64 s, .int .u8 k, .int .i64 x, .int .i64 y, .int .i64 v, .int .i64 b, .int .i64 wt, .int .i64 t] 26)).alloc (.cells #[.int .i64 cx, .int .i64 cy, .int .i64 bx, .int .i64 b2] 32)).cell? ⟨w.heap.size, 3, none⟩ = some (.int .i64 y) := (((Below.refl (w.heap.size + 1) (w.alloc (.cells #[.int .i64 s, .int .u8 k, .int .i64 x, .int .i64 y, .int .i64 v, .int .i64 b, .int .i64 wt, .int .i64 t] 26))).alloc (by simp; try omega) (.cells #[.int .i64 cx, .int .i64 cy, .int .i64 bx, .int .i64 b2] 32)).cell (p := ⟨w.heap.size, 3, none⟩) (by simp; try omega)).trans (by rw [World.cell?_alloc_at _ _ _ _ (by simp)]; rfl)
    have c0_0_4 : ((w.alloc (.cells #[.int .i64 s, .int .u8 k, .int .i64 x, .int .i64 y, .int .i64 v, .int .i64 b, .int .i64 wt, .int .i64 t] 26)).alloc (.cells #[.int .i64 cx, .int .i64 cy, .int .i64 bx, .int .i64 b2] 32)).cell? ⟨w.heap.size, 4, none⟩ = some (.int .i64 v) := (((Below.refl (w.heap.size + 1) (w.alloc (.cells #[.int .i64 s, .int .u8 k, .int .i64 x, .int .i64 y, .int .i64 v, .int .i64 b, .int .i64 wt, .int .i64 t] 26))).alloc (by simp; try omega) (.cells #[.int .i64 cx, .int .i64 cy, .int .i64 bx, .int .i64 b2] 32)).cell (p := ⟨w.heap.size, 4, none⟩) (by simp; try omega)).trans (by rw [World.cell?_alloc_at _ _ _ _ (by simp)]; rfl)
    have c0_0_5 : ((w.alloc (.cells #[.int .i64 s, .int .u8 k, .int .i64 x, .int .i64 y, .int .i64 v, .int .i64 b, .int .i64 wt, .int .i64 t] 26)).alloc (.cells #[.int .i64 cx, .int .i64 cy, .int .i64 bx, .int .i64 b2] 32)).cell? ⟨w.heap.size, 5, none⟩ = some (.int .i64 b) := (((Below.refl (w.heap.size + 1) (w.alloc (.cells #[.int .i64 s, .int .u8 k, .int .i64 x, .int .i64 y, .int .i64 v, .int .i64 b, .int .i64 wt, .int .i64 t] 26))).alloc (by simp; try omega) (.cells #[.int .i64 cx, .int .i64 cy, .int .i64 bx, .int .i64 b2] 32)).cell (p := ⟨w.heap.size, 5, none⟩) (by simp; try omega)).trans (by rw [World.cell?_alloc_at _ _ _ _ (by simp)]; rfl)
    have c0_0_6 : ((w.alloc (.cells #[.int .i64 s, .int .u8 k, .int .i64 x, .int .i64 y, .int .i64 v, .int .i64 b, .int .i64 wt, .int .i64 t] 26)).alloc (.cells #[.int .i64 cx, .int .i64 cy, .int .i64 bx, .int .i64 b2] 32)).cell? ⟨w.heap.size, 6, none⟩ = some (.int .i64 wt) := (((Below.refl (w.heap.size + 1) (w.alloc (.cells #[.int .i64 s, .int .u8 k, .int .i64 x, .int .i64 y, .int .i64 v, .int .i64 b, .int .i64 wt, .int .i64 t] 26))).alloc (by simp; try omega) (.cells #[.int .i64 cx, .int .i64 cy, .int .i64 bx, .int .i64 b2] 32)).cell (p := ⟨w.heap.size, 6, none⟩) (by simp; try omega)).trans (by rw [World.cell?_alloc_at _ _ _ _ (by simp)]; rfl)
    have c0_0_7 : ((w.alloc (.cells #[.int .i64 s, .int .u8 k, .int .i64 x, .int .i64 y, .int .i64 v, .int .i64 b, .int .i64 wt, .int .i64 t] 26)).alloc (.cells #[.int .i64 cx, .int .i64 cy, .int .i64 bx, .int .i64 b2] 32)).cell? ⟨w.heap.size, 7, none⟩ = some (.int .i64 t) := (((Below.refl (w.heap.size + 1) (w.alloc (.cells #[.int .i64 s, .int .u8 k, .int .i64 x, .int .i64 y, .int .i64 v, .int .i64 b, .int .i64 wt, .int .i64 t] 26))).alloc (by simp; try omega) (.cells #[.int .i64 cx, .int .i64 cy, .int .i64 bx, .int .i64 b2] 32)).cell (p := ⟨w.heap.size, 7, none⟩) (by simp; try omega)).trans (by rw [World.cell?_alloc_at _ _ _ _ (by simp)]; rfl)
    have c0_1_0 : ((w.alloc (.cells #[.int .i64 s, .int .u8 k, .int .i64 x, .int .i64 y, .int .i64 v, .int .i64 b, .int .i64 wt, .int .i64 t] 26)).alloc (.cells #[.int .i64 cx, .int .i64 cy, .int .i64 bx, .int .i64 b2] 32)).cell? ⟨w.heap.size + 1, 0, none⟩ = some (.int .i64 cx) := by rw [World.cell?_alloc_at _ _ _ _ (by simp)]; rfl
    have c0_1_1 : ((w.alloc (.cells #[.int .i64 s, .int .u8 k, .int .i64 x, .int .i64 y, .int .i64 v, .int .i64 b, .int .i64 wt, .int .i64 t] 26)).alloc (.cells #[.int .i64 cx, .int .i64 cy, .int .i64 bx, .int .i64 b2] 32)).cell? ⟨w.heap.size + 1, 1, none⟩ = some (.int .i64 cy) := by rw [World.cell?_alloc_at _ _ _ _ (by simp)]; rfl
    have c0_1_2 : ((w.alloc (.cells #[.int .i64 s, .int .u8 k, .int .i64 x, .int .i64 y, .int .i64 v, .int .i64 b, .int .i64 wt, .int .i64 t] 26)).alloc (.cells #[.int .i64 cx, .int .i64 cy, .int .i64 bx, .int .i64 b2] 32)).cell? ⟨w.heap.size + 1, 2, none⟩ = some (.int .i64 bx) := by rw [World.cell?_alloc_at _ _ _ _ (by simp)]; rfl
    have c0_1_3 : ((w.alloc (.cells #[.int .i64 s, .int .u8 k, .int .i64 x, .int .i64 y, .int .i64 v, .int .i64 b, .int .i64 wt, .int .i64 t] 26)).alloc (.cells #[.int .i64 cx, .int .i64 cy, .int .i64 bx, .int .i64 b2] 32)).cell? ⟨w.heap.size + 1, 3, none⟩ = some (.int .i64 b2) := by rw [World.cell?_alloc_at _ _ _ _ (by simp)]; rfl
    have z0_0 : w.heap.size < ((w.alloc (.cells #[.int .i64 s, .int .u8 k, .int .i64 x, .int .i64 y, .int .i64 v, .int .i64 b, .int .i64 wt, .int .i64 t] 26)).alloc (.cells #[.int .i64 cx, .int .i64 cy, .int .i64 bx, .int .i64 b2] 32)).heap.size := by simp; try omega
    have z0_1 : w.heap.size + 1 < ((w.alloc (.cells #[.int .i64 s, .int .u8 k, .int .i64 x, .int .i64 y, .int .i64 v, .int .i64 b, .int .i64 wt, .int .i64 t] 26)).alloc (.cells #[.int .i64 cx, .int .i64 cy, .int .i64 bx, .int .i64 b2] 32)).heap.size := by simp; try omega
    have hw0 := Lib.hid (((Below.refl w.heap.size w).alloc (by simp; try omega) (.cells #[.int .i64 s, .int .u8 k, .int .i64 x, .int .i64 y, .int .i64 v, .int .i64 b, .int .i64 wt, .int .i64 t] 26)).alloc (by simp; try omega) (.cells #[.int .i64 cx, .int .i64 cy, .int .i64 bx, .int .i64 b2] 32))
    generalize hW0 : ((w.alloc (.cells #[.int .i64 s, .int .u8 k, .int .i64 x, .int .i64 y, .int .i64 v, .int .i64 b, .int .i64 wt, .int .i64 t] 26)).alloc (.cells #[.int .i64 cx, .int .i64 cy, .int .i64 bx, .int .i64 b2] 32)) = w0 at *
    clear hW0
    refine (awake_any _ (HE.out.below hw0.out)).mono ?_
    rintro e w1 ⟨rfl, hb1⟩
    have c1_0_0 := (hb1.cell (p := ⟨w.heap.size, 0, none⟩) z0_0).trans c0_0_0
    have c1_0_1 := (hb1.cell (p := ⟨w.heap.size, 1, none⟩) z0_0).trans c0_0_1
    have c1_0_2 := (hb1.cell (p := ⟨w.heap.size, 2, none⟩) z0_0).trans c0_0_2
    have c1_0_3 := (hb1.cell (p := ⟨w.heap.size, 3, none⟩) z0_0).trans c0_0_3
    have c1_0_4 := (hb1.cell (p := ⟨w.heap.size, 4, none⟩) z0_0).trans c0_0_4
    have c1_0_5 := (hb1.cell (p := ⟨w.heap.size, 5, none⟩) z0_0).trans c0_0_5
    have c1_0_6 := (hb1.cell (p := ⟨w.heap.size, 6, none⟩) z0_0).trans c0_0_6
    have c1_0_7 := (hb1.cell (p := ⟨w.heap.size, 7, none⟩) z0_0).trans c0_0_7
    have c1_1_0 := (hb1.cell (p := ⟨w.heap.size + 1, 0, none⟩) z0_1).trans c0_1_0
    have c1_1_1 := (hb1.cell (p := ⟨w.heap.size + 1, 1, none⟩) z0_1).trans c0_1_1
    have c1_1_2 := (hb1.cell (p := ⟨w.heap.size + 1, 2, none⟩) z0_1).trans c0_1_2
    have c1_1_3 := (hb1.cell (p := ⟨w.heap.size + 1, 3, none⟩) z0_1).trans c0_1_3
    have z1_0 : w.heap.size < w1.heap.size := Nat.lt_of_lt_of_le z0_0 hb1.size
    have z1_1 : w.heap.size + 1 < w1.heap.size := Nat.lt_of_lt_of_le z0_1 hb1.size
    have hw1 := Lib.hid (hw0.out.trans (hb1.mono hw0.out.size))
    clear hb1 hw0 c0_0_0 c0_0_1 c0_0_2 c0_0_3 c0_0_4 c0_0_5 c0_0_6 c0_0_7 c0_1_0 c0_1_1 c0_1_2 c0_1_3 z0_0 z0_1
    go_wp2_with fail
    refine (R1.out _).mono ?_
    rintro e w2 ⟨u1, rfl, hr1, hb2⟩
    have c2_0_0 := (hb2.cell (p := ⟨w.heap.size, 0, none⟩) z1_0).trans c1_0_0
    have c2_0_1 := (hb2.cell (p := ⟨w.heap.size, 1, none⟩) z1_0).trans c1_0_1
    have c2_0_2 := (hb2.cell (p := ⟨w.heap.size, 2, none⟩) z1_0).trans c1_0_2
    have c2_0_3 := (hb2.cell (p := ⟨w.heap.size, 3, none⟩) z1_0).trans c1_0_3
    have c2_0_4 := (hb2.cell (p := ⟨w.heap.size, 4, none⟩) z1_0).trans c1_0_4
    have c2_0_5 := (hb2.cell (p := ⟨w.heap.size, 5, none⟩) z1_0).trans c1_0_5
    have c2_0_6 := (hb2.cell (p := ⟨w.heap.size, 6, none⟩) z1_0).trans c1_0_6
    have c2_0_7 := (hb2.cell (p := ⟨w.heap.size, 7, none⟩) z1_0).trans c1_0_7
    have c2_1_0 := (hb2.cell (p := ⟨w.heap.size + 1, 0, none⟩) z1_1).trans c1_1_0
    have c2_1_1 := (hb2.cell (p := ⟨w.heap.size + 1, 1, none⟩) z1_1).trans c1_1_1
    have c2_1_2 := (hb2.cell (p := ⟨w.heap.size + 1, 2, none⟩) z1_1).trans c1_1_2
    have c2_1_3 := (hb2.cell (p := ⟨w.heap.size + 1, 3, none⟩) z1_1).trans c1_1_3
    have z2_0 : w.heap.size < w2.heap.size := Nat.lt_of_lt_of_le z1_0 hb2.size
    have z2_1 : w.heap.size + 1 < w2.heap.size := Nat.lt_of_lt_of_le z1_1 hb2.size
    have hw2 := Lib.hid (hw1.out.trans (hb2.mono hw1.out.size))
    clear hb2 hw1 c1_0_0 c1_0_1 c1_0_2 c1_0_3 c1_0_4 c1_0_5 c1_0_6 c1_0_7 c1_1_0 c1_1_1 c1_1_2 c1_1_3 z1_0 z1_1
    have hu1 : u1 = .slice none 0 0 := by rcases hr1 with ⟨_, h⟩ | ⟨_, h, _⟩; exact h; exact absurd rfl h
    subst hu1
    clear hr1
    go_wp2
    go_ret
    exact ⟨rfl, hw2.out⟩
  · obtain ⟨ms, a, b', z, d, mw⟩ := m
    obtain ⟨⟨a0, a1⟩, ⟨b0, b1⟩, nz, ⟨z0, z1⟩, d0, d1⟩ := hm
    simp only at a0 a1 b0 b1 nz z0 z1 d0 d1
    go_enter Tryd.func4, Tryd.ntmps4
    go_wp2_with fail
    have c0_0_0 : ((w.alloc (.cells #[.int .i64 s, .int .u8 k, .int .i64 x, .int .i64 y, .int .i64 v, .int .i64 b, .int .i64 wt, .int .i64 t] 26)).alloc (.cells #[.int .i64 cx, .int .i64 cy, .int .i64 bx, .int .i64 b2] 32)).cell? ⟨w.heap.size, 0, none⟩ = some (.int .i64 s) := (((Below.refl (w.heap.size + 1) (w.alloc (.cells #[.int .i64 s, .int .u8 k, .int .i64 x, .int .i64 y, .int .i64 v, .int .i64 b, .int .i64 wt, .int .i64 t] 26))).alloc (by simp; try omega) (.cells #[.int .i64 cx, .int .i64 cy, .int .i64 bx, .int .i64 b2] 32)).cell (p := ⟨w.heap.size, 0, none⟩) (by simp; try omega)).trans (by rw [World.cell?_alloc_at _ _ _ _ (by simp)]; rfl)
    have c0_0_1 : ((w.alloc (.cells #[.int .i64 s, .int .u8 k, .int .i64 x, .int .i64 y, .int .i64 v, .int .i64 b, .int .i64 wt, .int .i64 t] 26)).alloc (.cells #[.int .i64 cx, .int .i64 cy, .int .i64 bx, .int .i64 b2] 32)).cell? ⟨w.heap.size, 1, none⟩ = some (.int .u8 k) := (((Below.refl (w.heap.size + 1) (w.alloc (.cells #[.int .i64 s, .int .u8 k, .int .i64 x, .int .i64 y, .int .i64 v, .int .i64 b, .int .i64 wt, .int .i64 t] 26))).alloc (by simp; try omega) (.cells #[.int .i64 cx, .int .i64 cy, .int .i64 bx, .int .i64 b2] 32)).cell (p := ⟨w.heap.size, 1, none⟩) (by simp; try omega)).trans (by rw [World.cell?_alloc_at _ _ _ _ (by simp)]; rfl)
    have c0_0_2 : ((w.alloc (.cells #[.int .i64 s, .int .u8 k, .int .i64 x, .int .i64 y, .int .i64 v, .int .i64 b, .int .i64 wt, .int .i64 t] 26)).alloc (.cells #[.int .i64 cx, .int .i64 cy, .int .i64 bx, .int .i64 b2] 32)).cell? ⟨w.heap.size, 2, none⟩ = some (.int .i64 x) := (((Below.refl (w.heap.size + 1) (w.alloc (.cells #[.int .i64 s, .int .u8 k, .int .i64 x, .int .i64 y, .int .i64 v, .int .i64 b, .int .i64 wt, .int .i64 t] 26))).alloc (by simp; try omega) (.cells #[.int .i64 cx, .int .i64 cy, .int .i64 bx, .int .i64 b2] 32)).cell (p := ⟨w.heap.size, 2, none⟩) (by simp; try omega)).trans (by rw [World.cell?_alloc_at _ _ _ _ (by simp)]; rfl)
    have c0_0_3 : ((w.alloc (.cells #[.int .i64 s, .int .u8 k, .int .i64 x, .int .i64 y, .int .i64 v, .int .i64 b, .int .i64 wt, .int .i64 t] 26)).alloc (.cells #[.int .i64 cx, .int .i64 cy, .int .i64 bx, .int .i64 b2] 32)).cell? ⟨w.heap.size, 3, none⟩ = some (.int .i64 y) := (((Below.refl (w.heap.size + 1) (w.alloc (.cells #[.int .i64 s, .int .u8 k, .int .i64 x, .int .i64 y, .int .i64 v, .int .i64 b, .int .i64 wt, .int .i64 t] 26))).alloc (by simp; try omega) (.cells #[.int .i64 cx, .int .i64 cy, .int .i64 bx, .int .i64 b2] 32)).cell (p := ⟨w.heap.size, 3, none⟩) (by simp; try omega)).trans (by rw [World.cell?_alloc_at _ _ _ _ (by simp)]; rfl)
    have c0_0_4 : ((w.alloc (.cells #[.int .i64 s, .int .u8 k, .int .i64 x, .int .i64 y, .int .i64 v, .int .i64 b, .int .i64 wt, .int .i64 t] 26)).alloc (.cells #[.int .i64 cx, .int .i64 cy, .int .i64 bx, .int .i64 b2] 32)).cell? ⟨w.heap.size, 4, none⟩ = some (.int .i64 v) := (((Below.refl (w.heap.size + 1) (w.alloc (.cells #[.int .i64 s, .int .u8 k, .int .i64 x, .int .i64 y, .int .i64 v, .int .i64 b, .int .i64 wt, .int .i64 t] 26))).alloc (by simp; try omega) (.cells #[.int .i64 cx, .int .i64 cy, .int .i64 bx, .int .i64 b2] 32)).cell (p := ⟨w.heap.size, 4, none⟩) (by simp; try omega)).trans (by rw [World.cell?_alloc_at _ _ _ _ (by simp)]; rfl)
    have c0_0_5 : ((w.alloc (.cells #[.int .i64 s, .int .u8 k, .int .i64 x, .int .i64 y, .int .i64 v, .int .i64 b, .int .i64 wt, .int .i64 t] 26)).alloc (.cells #[.int .i64 cx, .int .i64 cy, .int .i64 bx, .int .i64 b2] 32)).cell? ⟨w.heap.size, 5, none⟩ = some (.int .i64 b) := (((Below.refl (w.heap.size + 1) (w.alloc (.cells #[.int .i64 s, .int .u8 k, .int .i64 x, .int .i64 y, .int .i64 v, .int .i64 b, .int .i64 wt, .int .i64 t] 26))).alloc (by simp; try omega) (.cells #[.int .i64 cx, .int .i64 cy, .int .i64 bx, .int .i64 b2] 32)).cell (p := ⟨w.heap.size, 5, none⟩) (by simp; try omega)).trans (by rw [World.cell?_alloc_at _ _ _ _ (by simp)]; rfl)
    have c0_0_6 : ((w.alloc (.cells #[.int .i64 s, .int .u8 k, .int .i64 x, .int .i64 y, .int .i64 v, .int .i64 b, .int .i64 wt, .int .i64 t] 26)).alloc (.cells #[.int .i64 cx, .int .i64 cy, .int .i64 bx, .int .i64 b2] 32)).cell? ⟨w.heap.size, 6, none⟩ = some (.int .i64 wt) := (((Below.refl (w.heap.size + 1) (w.alloc (.cells #[.int .i64 s, .int .u8 k, .int .i64 x, .int .i64 y, .int .i64 v, .int .i64 b, .int .i64 wt, .int .i64 t] 26))).alloc (by simp; try omega) (.cells #[.int .i64 cx, .int .i64 cy, .int .i64 bx, .int .i64 b2] 32)).cell (p := ⟨w.heap.size, 6, none⟩) (by simp; try omega)).trans (by rw [World.cell?_alloc_at _ _ _ _ (by simp)]; rfl)
    have c0_0_7 : ((w.alloc (.cells #[.int .i64 s, .int .u8 k, .int .i64 x, .int .i64 y, .int .i64 v, .int .i64 b, .int .i64 wt, .int .i64 t] 26)).alloc (.cells #[.int .i64 cx, .int .i64 cy, .int .i64 bx, .int .i64 b2] 32)).cell? ⟨w.heap.size, 7, none⟩ = some (.int .i64 t) := (((Below.refl (w.heap.size + 1) (w.alloc (.cells #[.int .i64 s, .int .u8 k, .int .i64 x, .int .i64 y, .int .i64 v, .int .i64 b, .int .i64 wt, .int .i64 t] 26))).alloc (by simp; try omega) (.cells #[.int .i64 cx, .int .i64 cy, .int .i64 bx, .int .i64 b2] 32)).cell (p := ⟨w.heap.size, 7, none⟩) (by simp; try omega)).trans (by rw [World.cell?_alloc_at _ _ _ _ (by simp)]; rfl)
    have c0_1_0 : ((w.alloc (.cells #[.int .i64 s, .int .u8 k, .int .i64 x, .int .i64 y, .int .i64 v, .int .i64 b, .int .i64 wt, .int .i64 t] 26)).alloc (.cells #[.int .i64 cx, .int .i64 cy, .int .i64 bx, .int .i64 b2] 32)).cell? ⟨w.heap.size + 1, 0, none⟩ = some (.int .i64 cx) := by rw [World.cell?_alloc_at _ _ _ _ (by simp)]; rfl
    have c0_1_1 : ((w.alloc (.cells #[.int .i64 s, .int .u8 k, .int .i64 x, .int .i64 y, .int .i64 v, .int .i64 b, .int .i64 wt, .int .i64 t] 26)).alloc (.cells #[.int .i64 cx, .int .i64 cy, .int .i64 bx, .int .i64 b2] 32)).cell? ⟨w.heap.size + 1, 1, none⟩ = some (.int .i64 cy) := by rw [World.cell?_alloc_at _ _ _ _ (by simp)]; rfl
    have c0_1_2 : ((w.alloc (.cells #[.int .i64 s, .int .u8 k, .int .i64 x, .int .i64 y, .int .i64 v, .int .i64 b, .int .i64 wt, .int .i64 t] 26)).alloc (.cells #[.int .i64 cx, .int .i64 cy, .int .i64 bx, .int .i64 b2] 32)).cell? ⟨w.heap.size + 1, 2, none⟩ = some (.int .i64 bx) := by rw [World.cell?_alloc_at _ _ _ _ (by simp)]; rfl
    have c0_1_3 : ((w.alloc (.cells #[.int .i64 s, .int .u8 k, .int .i64 x, .int .i64 y, .int .i64 v, .int .i64 b, .int .i64 wt, .int .i64 t] 26)).alloc (.cells #[.int .i64 cx, .int .i64 cy, .int .i64 bx, .int .i64 b2] 32)).cell? ⟨w.heap.size + 1, 3, none⟩ = some (.int .i64 b2) := by rw [World.cell?_alloc_at _ _ _ _ (by simp)]; rfl
    have z0_0 : w.heap.size < ((w.alloc (.cells #[.int .i64 s, .int .u8 k, .int .i64 x, .int .i64 y, .int .i64 v, .int .i64 b, .int .i64 wt, .int .i64 t] 26)).alloc (.cells #[.int .i64 cx, .int .i64 cy, .int .i64 bx, .int .i64 b2] 32)).heap.size := by simp; try omega
    have z0_1 : w.heap.size + 1 < ((w.alloc (.cells #[.int .i64 s, .int .u8 k, .int .i64 x, .int .i64 y, .int .i64 v, .int .i64 b, .int .i64 wt, .int .i64 t] 26)).alloc (.cells #[.int .i64 cx, .int .i64 cy, .int .i64 bx, .int .i64 b2] 32)).heap.size := by simp; try omega
    have hw0 := Lib.hid (((Below.refl w.heap.size w).alloc (by simp; try omega) (.cells #[.int .i64 s, .int .u8 k, .int .i64 x, .int .i64 y, .int .i64 v, .int .i64 b, .int .i64 wt, .int .i64 t] 26)).alloc (by simp; try omega) (.cells #[.int .i64 cx, .int .i64 cy, .int .i64 bx, .int .i64 b2] 32))
    generalize hW0 : ((w.alloc (.cells #[.int .i64 s, .int .u8 k, .int .i64 x, .int .i64 y, .int .i64 v, .int .i64 b, .int .i64 wt, .int .i64 t] 26)).alloc (.cells #[.int .i64 cx, .int .i64 cy, .int .i64 bx, .int .i64 b2] 32)) = w0 at *
    clear hW0
    refine (awake_any _ (HE.out.below hw0.out)).mono ?_
    rintro e w1 ⟨rfl, hb1⟩
    have c1_0_0 := (hb1.cell (p := ⟨w.heap.size, 0, none⟩) z0_0).trans c0_0_0
    have c1_0_1 := (hb1.cell (p := ⟨w.heap.size, 1, none⟩) z0_0).trans c0_0_1
    have c1_0_2 := (hb1.cell (p := ⟨w.heap.size, 2, none⟩) z0_0).trans c0_0_2
    have c1_0_3 := (hb1.cell (p := ⟨w.heap.size, 3, none⟩) z0_0).trans c0_0_3
    have c1_0_4 := (hb1.cell (p := ⟨w.heap.size, 4, none⟩) z0_0).trans c0_0_4
    have c1_0_5 := (hb1.cell (p := ⟨w.heap.size, 5, none⟩) z0_0).trans c0_0_5
    have c1_0_6 := (hb1.cell (p := ⟨w.heap.size, 6, none⟩) z0_0).trans c0_0_6
    have c1_0_7 := (hb1.cell (p := ⟨w.heap.size, 7, none⟩) z0_0).trans c0_0_7
    have c1_1_0 := (hb1.cell (p := ⟨w.heap.size + 1, 0, none⟩) z0_1).trans c0_1_0
    have c1_1_1 := (hb1.cell (p := ⟨w.heap.size + 1, 1, none⟩) z0_1).trans c0_1_1
    have c1_1_2 := (hb1.cell (p := ⟨w.heap.size + 1, 2, none⟩) z0_1).trans c0_1_2
    have c1_1_3 := (hb1.cell (p := ⟨w.heap.size + 1, 3, none⟩) z0_1).trans c0_1_3
    have z1_0 : w.heap.size < w1.heap.size := Nat.lt_of_lt_of_le z0_0 hb1.size
    have z1_1 : w.heap.size + 1 < w1.heap.size := Nat.lt_of_lt_of_le z0_1 hb1.size
    have hw1 := Lib.hid (hw0.out.trans (hb1.mono hw0.out.size))
    clear hb1 hw0 c0_0_0 c0_0_1 c0_0_2 c0_0_3 c0_0_4 c0_0_5 c0_0_6 c0_0_7 c0_1_0 c0_1_1 c0_1_2 c0_1_3 z0_0 z0_1
    go_wp2_with fail
    refine (R1.out _).mono ?_
    rintro e w2 ⟨u1, rfl, hr1, hb2⟩
    have c2_0_0 := (hb2.cell (p := ⟨w.heap.size, 0, none⟩) z1_0).trans c1_0_0
    have c2_0_1 := (hb2.cell (p := ⟨w.heap.size, 1, none⟩) z1_0).trans c1_0_1
    have c2_0_2 := (hb2.cell (p := ⟨w.heap.size, 2, none⟩) z1_0).trans c1_0_2
    have c2_0_3 := (hb2.cell (p := ⟨w.heap.size, 3, none⟩) z1_0).trans c1_0_3
    have c2_0_4 := (hb2.cell (p := ⟨w.heap.size, 4, none⟩) z1_0).trans c1_0_4
    have c2_0_5 := (hb2.cell (p := ⟨w.heap.size, 5, none⟩) z1_0).trans c1_0_5
    have c2_0_6 := (hb2.cell (p := ⟨w.heap.size, 6, none⟩) z1_0).trans c1_0_6
    have c2_0_7 := (hb2.cell (p := ⟨w.heap.size, 7, none⟩) z1_0).trans c1_0_7
    have c2_1_0 := (hb2.cell (p := ⟨w.heap.size + 1, 0, none⟩) z1_1).trans c1_1_0
    have c2_1_1 := (hb2.cell (p := ⟨w.heap.size + 1, 1, none⟩) z1_1).trans c1_1_1
    have c2_1_2 := (hb2.cell (p := ⟨w.heap.size + 1, 2, none⟩) z1_1).trans c1_1_2
    have c2_1_3 := (hb2.cell (p := ⟨w.heap.size + 1, 3, none⟩) z1_1).trans c1_1_3
    have z2_0 : w.heap.size < w2.heap.size := Nat.lt_of_lt_of_le z1_0 hb2.size
    have z2_1 : w.heap.size + 1 < w2.heap.size := Nat.lt_of_lt_of_le z1_1 hb2.size
    have hw2 := Lib.hid (hw1.out.trans (hb2.mono hw1.out.size))
    clear hb2 hw1 c1_0_0 c1_0_1 c1_0_2 c1_0_3 c1_0_4 c1_0_5 c1_0_6 c1_0_7 c1_1_0 c1_1_1 c1_1_2 c1_1_3 z1_0 z1_1
    obtain ⟨k1, rfl, -, hk1, p0, p1, p2, p3, p4, p5⟩ := rows_one hr1
    clear hr1
    go_wp2_with fail
    go_loopw [24] (SmR w2 1) (fun i _ => 1 - (intOf i).toNat)
    case atStart => exact ⟨0, by omega, rfl, Below.refl _ _⟩
    case round =>
      obtain ⟨j, hj, rfl, hbw⟩ := hrel
      rcases (show j = 0 ∨ j = 1 by omega) with rfl | rfl
      · have c0 := (hbw.cell (p := ⟨k1, 0, none⟩) hk1).trans p0
        have c1 := (hbw.cell (p := ⟨k1, 1, none⟩) hk1).trans p1
        have c2 := (hbw.cell (p := ⟨k1, 2, none⟩) hk1).trans p2
        have c3 := (hbw.cell (p := ⟨k1, 3, none⟩) hk1).trans p3
        have c4 := (hbw.cell (p := ⟨k1, 4, none⟩) hk1).trans p4
        have c5 := (hbw.cell (p := ⟨k1, 5, none⟩) hk1).trans p5
        have HBW := Lib.hid hbw
        clear hbw
        have mx := fun w ts t x y z u => max4 w ts t x y z u
        have t1 : decide (256 < max (max (max a (-a)) b') (-b')) = false := by simp; omega
        have t2 : decide (4294967296 < max z (-z)) = false := by simp; omega
        have t3 : decide (d < 0) = false := by simp; omega
        have t4 : decide (4294967296 < d) = false := by simp; omega
        rcases Classical.em (a = 0) with ha | ha
        · have t5 : (a == 0) = true := by simpa using ha
          have t6 : (b' == 0) = false := by simp; intro h; exact nz ⟨ha, h⟩
          clear ha nz
          go_wp2
          go_roundw
          case rel => exact ⟨1, by omega, by go_num, HBW.out.alloc HBW.out.size _⟩
          case measure => simp [intOf]
        · have t5 : (a == 0) = false := by simpa using ha
          clear ha nz
          go_wp2
          go_roundw
          case rel => exact ⟨1, by omega, by go_num, HBW.out.alloc HBW.out.size _⟩
          case measure => simp [intOf]
      · have HBW := Lib.hid hbw
        clear hbw
        go_wp2
        go_ret
        exact ⟨rfl, hw2.out.trans (HBW.out.mono hw2.out.size)⟩
  · obtain ⟨ms, a, b', z, d, mw⟩ := m
    obtain ⟨⟨a0, a1⟩, ⟨b0, b1⟩, nz, ⟨z0, z1⟩, d0, d1⟩ := hm
    simp only at a0 a1 b0 b1 nz z0 z1 d0 d1
    obtain ⟨ms', a', b'', z', d', mw'⟩ := n
    obtain ⟨⟨a0', a1'⟩, ⟨b0', b1'⟩, nz', ⟨z0', z1'⟩, d0', d1'⟩ := hn
    simp only at a0' a1' b0' b1' nz' z0' z1' d0' d1'
    go_enter Tryd.func4, Tryd.ntmps4
    go_wp2_with fail
    have c0_0_0 : ((w.alloc (.cells #[.int .i64 s, .int .u8 1, .int .i64 x, .int .i64 y, .int .i64 v, .int .i64 b, .int .i64 wt, .int .i64 t] 26)).alloc (.cells #[.int .i64 cx, .int .i64 cy, .int .i64 bx, .int .i64 b2] 32)).cell? ⟨w.heap.size, 0, none⟩ = some (.int .i64 s) := (((Below.refl (w.heap.size + 1) (w.alloc (.cells #[.int .i64 s, .int .u8 1, .int .i64 x, .int .i64 y, .int .i64 v, .int .i64 b, .int .i64 wt, .int .i64 t] 26))).alloc (by simp; try omega) (.cells #[.int .i64 cx, .int .i64 cy, .int .i64 bx, .int .i64 b2] 32)).cell (p := ⟨w.heap.size, 0, none⟩) (by simp; try omega)).trans (by rw [World.cell?_alloc_at _ _ _ _ (by simp)]; rfl)
    have c0_0_1 : ((w.alloc (.cells #[.int .i64 s, .int .u8 1, .int .i64 x, .int .i64 y, .int .i64 v, .int .i64 b, .int .i64 wt, .int .i64 t] 26)).alloc (.cells #[.int .i64 cx, .int .i64 cy, .int .i64 bx, .int .i64 b2] 32)).cell? ⟨w.heap.size, 1, none⟩ = some (.int .u8 1) := (((Below.refl (w.heap.size + 1) (w.alloc (.cells #[.int .i64 s, .int .u8 1, .int .i64 x, .int .i64 y, .int .i64 v, .int .i64 b, .int .i64 wt, .int .i64 t] 26))).alloc (by simp; try omega) (.cells #[.int .i64 cx, .int .i64 cy, .int .i64 bx, .int .i64 b2] 32)).cell (p := ⟨w.heap.size, 1, none⟩) (by simp; try omega)).trans (by rw [World.cell?_alloc_at _ _ _ _ (by simp)]; rfl)
    have c0_0_2 : ((w.alloc (.cells #[.int .i64 s, .int .u8 1, .int .i64 x, .int .i64 y, .int .i64 v, .int .i64 b, .int .i64 wt, .int .i64 t] 26)).alloc (.cells #[.int .i64 cx, .int .i64 cy, .int .i64 bx, .int .i64 b2] 32)).cell? ⟨w.heap.size, 2, none⟩ = some (.int .i64 x) := (((Below.refl (w.heap.size + 1) (w.alloc (.cells #[.int .i64 s, .int .u8 1, .int .i64 x, .int .i64 y, .int .i64 v, .int .i64 b, .int .i64 wt, .int .i64 t] 26))).alloc (by simp; try omega) (.cells #[.int .i64 cx, .int .i64 cy, .int .i64 bx, .int .i64 b2] 32)).cell (p := ⟨w.heap.size, 2, none⟩) (by simp; try omega)).trans (by rw [World.cell?_alloc_at _ _ _ _ (by simp)]; rfl)
    have c0_0_3 : ((w.alloc (.cells #[.int .i64 s, .int .u8 1, .int .i64 x, .int .i64 y, .int .i64 v, .int .i64 b, .int .i64 wt, .int .i64 t] 26)).alloc (.cells #[.int .i64 cx, .int .i64 cy, .int .i64 bx, .int .i64 b2] 32)).cell? ⟨w.heap.size, 3, none⟩ = some (.int .i64 y) := (((Below.refl (w.heap.size + 1) (w.alloc (.cells #[.int .i64 s, .int .u8 1, .int .i64 x, .int .i64 y, .int .i64 v, .int .i64 b, .int .i64 wt, .int .i64 t] 26))).alloc (by simp; try omega) (.cells #[.int .i64 cx, .int .i64 cy, .int .i64 bx, .int .i64 b2] 32)).cell (p := ⟨w.heap.size, 3, none⟩) (by simp; try omega)).trans (by rw [World.cell?_alloc_at _ _ _ _ (by simp)]; rfl)
    have c0_0_4 : ((w.alloc (.cells #[.int .i64 s, .int .u8 1, .int .i64 x, .int .i64 y, .int .i64 v, .int .i64 b, .int .i64 wt, .int .i64 t] 26)).alloc (.cells #[.int .i64 cx, .int .i64 cy, .int .i64 bx, .int .i64 b2] 32)).cell? ⟨w.heap.size, 4, none⟩ = some (.int .i64 v) := (((Below.refl (w.heap.size + 1) (w.alloc (.cells #[.int .i64 s, .int .u8 1, .int .i64 x, .int .i64 y, .int .i64 v, .int .i64 b, .int .i64 wt, .int .i64 t] 26))).alloc (by simp; try omega) (.cells #[.int .i64 cx, .int .i64 cy, .int .i64 bx, .int .i64 b2] 32)).cell (p := ⟨w.heap.size, 4, none⟩) (by simp; try omega)).trans (by rw [World.cell?_alloc_at _ _ _ _ (by simp)]; rfl)
    have c0_0_5 : ((w.alloc (.cells #[.int .i64 s, .int .u8 1, .int .i64 x, .int .i64 y, .int .i64 v, .int .i64 b, .int .i64 wt, .int .i64 t] 26)).alloc (.cells #[.int .i64 cx, .int .i64 cy, .int .i64 bx, .int .i64 b2] 32)).cell? ⟨w.heap.size, 5, none⟩ = some (.int .i64 b) := (((Below.refl (w.heap.size + 1) (w.alloc (.cells #[.int .i64 s, .int .u8 1, .int .i64 x, .int .i64 y, .int .i64 v, .int .i64 b, .int .i64 wt, .int .i64 t] 26))).alloc (by simp; try omega) (.cells #[.int .i64 cx, .int .i64 cy, .int .i64 bx, .int .i64 b2] 32)).cell (p := ⟨w.heap.size, 5, none⟩) (by simp; try omega)).trans (by rw [World.cell?_alloc_at _ _ _ _ (by simp)]; rfl)
    have c0_0_6 : ((w.alloc (.cells #[.int .i64 s, .int .u8 1, .int .i64 x, .int .i64 y, .int .i64 v, .int .i64 b, .int .i64 wt, .int .i64 t] 26)).alloc (.cells #[.int .i64 cx, .int .i64 cy, .int .i64 bx, .int .i64 b2] 32)).cell? ⟨w.heap.size, 6, none⟩ = some (.int .i64 wt) := (((Below.refl (w.heap.size + 1) (w.alloc (.cells #[.int .i64 s, .int .u8 1, .int .i64 x, .int .i64 y, .int .i64 v, .int .i64 b, .int .i64 wt, .int .i64 t] 26))).alloc (by simp; try omega) (.cells #[.int .i64 cx, .int .i64 cy, .int .i64 bx, .int .i64 b2] 32)).cell (p := ⟨w.heap.size, 6, none⟩) (by simp; try omega)).trans (by rw [World.cell?_alloc_at _ _ _ _ (by simp)]; rfl)
    have c0_0_7 : ((w.alloc (.cells #[.int .i64 s, .int .u8 1, .int .i64 x, .int .i64 y, .int .i64 v, .int .i64 b, .int .i64 wt, .int .i64 t] 26)).alloc (.cells #[.int .i64 cx, .int .i64 cy, .int .i64 bx, .int .i64 b2] 32)).cell? ⟨w.heap.size, 7, none⟩ = some (.int .i64 t) := (((Below.refl (w.heap.size + 1) (w.alloc (.cells #[.int .i64 s, .int .u8 1, .int .i64 x, .int .i64 y, .int .i64 v, .int .i64 b, .int .i64 wt, .int .i64 t] 26))).alloc (by simp; try omega) (.cells #[.int .i64 cx, .int .i64 cy, .int .i64 bx, .int .i64 b2] 32)).cell (p := ⟨w.heap.size, 7, none⟩) (by simp; try omega)).trans (by rw [World.cell?_alloc_at _ _ _ _ (by simp)]; rfl)
    have c0_1_0 : ((w.alloc (.cells #[.int .i64 s, .int .u8 1, .int .i64 x, .int .i64 y, .int .i64 v, .int .i64 b, .int .i64 wt, .int .i64 t] 26)).alloc (.cells #[.int .i64 cx, .int .i64 cy, .int .i64 bx, .int .i64 b2] 32)).cell? ⟨w.heap.size + 1, 0, none⟩ = some (.int .i64 cx) := by rw [World.cell?_alloc_at _ _ _ _ (by simp)]; rfl
    have c0_1_1 : ((w.alloc (.cells #[.int .i64 s, .int .u8 1, .int .i64 x, .int .i64 y, .int .i64 v, .int .i64 b, .int .i64 wt, .int .i64 t] 26)).alloc (.cells #[.int .i64 cx, .int .i64 cy, .int .i64 bx, .int .i64 b2] 32)).cell? ⟨w.heap.size + 1, 1, none⟩ = some (.int .i64 cy) := by rw [World.cell?_alloc_at _ _ _ _ (by simp)]; rfl
    have c0_1_2 : ((w.alloc (.cells #[.int .i64 s, .int .u8 1, .int .i64 x, .int .i64 y, .int .i64 v, .int .i64 b, .int .i64 wt, .int .i64 t] 26)).alloc (.cells #[.int .i64 cx, .int .i64 cy, .int .i64 bx, .int .i64 b2] 32)).cell? ⟨w.heap.size + 1, 2, none⟩ = some (.int .i64 bx) := by rw [World.cell?_alloc_at _ _ _ _ (by simp)]; rfl
    have c0_1_3 : ((w.alloc (.cells #[.int .i64 s, .int .u8 1, .int .i64 x, .int .i64 y, .int .i64 v, .int .i64 b, .int .i64 wt, .int .i64 t] 26)).alloc (.cells #[.int .i64 cx, .int .i64 cy, .int .i64 bx, .int .i64 b2] 32)).cell? ⟨w.heap.size + 1, 3, none⟩ = some (.int .i64 b2) := by rw [World.cell?_alloc_at _ _ _ _ (by simp)]; rfl
    have z0_0 : w.heap.size < ((w.alloc (.cells #[.int .i64 s, .int .u8 1, .int .i64 x, .int .i64 y, .int .i64 v, .int .i64 b, .int .i64 wt, .int .i64 t] 26)).alloc (.cells #[.int .i64 cx, .int .i64 cy, .int .i64 bx, .int .i64 b2] 32)).heap.size := by simp; try omega
    have z0_1 : w.heap.size + 1 < ((w.alloc (.cells #[.int .i64 s, .int .u8 1, .int .i64 x, .int .i64 y, .int .i64 v, .int .i64 b, .int .i64 wt, .int .i64 t] 26)).alloc (.cells #[.int .i64 cx, .int .i64 cy, .int .i64 bx, .int .i64 b2] 32)).heap.size := by simp; try omega
    have hw0 := Lib.hid (((Below.refl w.heap.size w).alloc (by simp; try omega) (.cells #[.int .i64 s, .int .u8 1, .int .i64 x, .int .i64 y, .int .i64 v, .int .i64 b, .int .i64 wt, .int .i64 t] 26)).alloc (by simp; try omega) (.cells #[.int .i64 cx, .int .i64 cy, .int .i64 bx, .int .i64 b2] 32))
    generalize hW0 : ((w.alloc (.cells #[.int .i64 s, .int .u8 1, .int .i64 x, .int .i64 y, .int .i64 v, .int .i64 b, .int .i64 wt, .int .i64 t] 26)).alloc (.cells #[.int .i64 cx, .int .i64 cy, .int .i64 bx, .int .i64 b2] 32)) = w0 at *
    clear hW0
    refine (awake_any _ (HE.out.below hw0.out)).mono ?_
    rintro e w1 ⟨rfl, hb1⟩
    have c1_0_0 := (hb1.cell (p := ⟨w.heap.size, 0, none⟩) z0_0).trans c0_0_0
    have c1_0_1 := (hb1.cell (p := ⟨w.heap.size, 1, none⟩) z0_0).trans c0_0_1
    have c1_0_2 := (hb1.cell (p := ⟨w.heap.size, 2, none⟩) z0_0).trans c0_0_2
    have c1_0_3 := (hb1.cell (p := ⟨w.heap.size, 3, none⟩) z0_0).trans c0_0_3
    have c1_0_4 := (hb1.cell (p := ⟨w.heap.size, 4, none⟩) z0_0).trans c0_0_4
    have c1_0_5 := (hb1.cell (p := ⟨w.heap.size, 5, none⟩) z0_0).trans c0_0_5
    have c1_0_6 := (hb1.cell (p := ⟨w.heap.size, 6, none⟩) z0_0).trans c0_0_6
    have c1_0_7 := (hb1.cell (p := ⟨w.heap.size, 7, none⟩) z0_0).trans c0_0_7
    have c1_1_0 := (hb1.cell (p := ⟨w.heap.size + 1, 0, none⟩) z0_1).trans c0_1_0
    have c1_1_1 := (hb1.cell (p := ⟨w.heap.size + 1, 1, none⟩) z0_1).trans c0_1_1
    have c1_1_2 := (hb1.cell (p := ⟨w.heap.size + 1, 2, none⟩) z0_1).trans c0_1_2
    have c1_1_3 := (hb1.cell (p := ⟨w.heap.size + 1, 3, none⟩) z0_1).trans c0_1_3
    have z1_0 : w.heap.size < w1.heap.size := Nat.lt_of_lt_of_le z0_0 hb1.size
    have z1_1 : w.heap.size + 1 < w1.heap.size := Nat.lt_of_lt_of_le z0_1 hb1.size
    have hw1 := Lib.hid (hw0.out.trans (hb1.mono hw0.out.size))
    clear hb1 hw0 c0_0_0 c0_0_1 c0_0_2 c0_0_3 c0_0_4 c0_0_5 c0_0_6 c0_0_7 c0_1_0 c0_1_1 c0_1_2 c0_1_3 z0_0 z0_1
    go_wp2_with fail
    refine (R1.out _).mono ?_
    rintro e w2 ⟨u1, rfl, hr1, hb2⟩
    have c2_0_0 := (hb2.cell (p := ⟨w.heap.size, 0, none⟩) z1_0).trans c1_0_0
    have c2_0_1 := (hb2.cell (p := ⟨w.heap.size, 1, none⟩) z1_0).trans c1_0_1
    have c2_0_2 := (hb2.cell (p := ⟨w.heap.size, 2, none⟩) z1_0).trans c1_0_2
    have c2_0_3 := (hb2.cell (p := ⟨w.heap.size, 3, none⟩) z1_0).trans c1_0_3
    have c2_0_4 := (hb2.cell (p := ⟨w.heap.size, 4, none⟩) z1_0).trans c1_0_4
    have c2_0_5 := (hb2.cell (p := ⟨w.heap.size, 5, none⟩) z1_0).trans c1_0_5
    have c2_0_6 := (hb2.cell (p := ⟨w.heap.size, 6, none⟩) z1_0).trans c1_0_6
    have c2_0_7 := (hb2.cell (p := ⟨w.heap.size, 7, none⟩) z1_0).trans c1_0_7
    have c2_1_0 := (hb2.cell (p := ⟨w.heap.size + 1, 0, none⟩) z1_1).trans c1_1_0
    have c2_1_1 := (hb2.cell (p := ⟨w.heap.size + 1, 1, none⟩) z1_1).trans c1_1_1
    have c2_1_2 := (hb2.cell (p := ⟨w.heap.size + 1, 2, none⟩) z1_1).trans c1_1_2
    have c2_1_3 := (hb2.cell (p := ⟨w.heap.size + 1, 3, none⟩) z1_1).trans c1_1_3
    have z2_0 : w.heap.size < w2.heap.size := Nat.lt_of_lt_of_le z1_0 hb2.size
    have z2_1 : w.heap.size + 1 < w2.heap.size := Nat.lt_of_lt_of_le z1_1 hb2.size
    have hw2 := Lib.hid (hw1.out.trans (hb2.mono hw1.out.size))
    clear hb2 hw1 c1_0_0 c1_0_1 c1_0_2 c1_0_3 c1_0_4 c1_0_5 c1_0_6 c1_0_7 c1_1_0 c1_1_1 c1_1_2 c1_1_3 z1_0 z1_1
    obtain ⟨k1, rfl, -, hk1, p0, p1, p2, p3, p4, p5, p6, p7, p8, p9, p10, p11⟩ := rows_two hr1
    clear hr1
    go_wp2_with fail
    go_loopw [24] (SmR w2 2) (fun i _ => 2 - (intOf i).toNat)
    case atStart => exact ⟨0, by omega, rfl, Below.refl _ _⟩
    case round =>
      obtain ⟨j, hj, rfl, hbw⟩ := hrel
      rcases (show j = 0 ∨ j = 1 ∨ j = 2 by omega) with rfl | rfl | rfl
      · have c0 := (hbw.cell (p := ⟨k1, 0, none⟩) hk1).trans p0
        have c1 := (hbw.cell (p := ⟨k1, 1, none⟩) hk1).trans p1
        have c2 := (hbw.cell (p := ⟨k1, 2, none⟩) hk1).trans p2
        have c3 := (hbw.cell (p := ⟨k1, 3, none⟩) hk1).trans p3
        have c4 := (hbw.cell (p := ⟨k1, 4, none⟩) hk1).trans p4
        have c5 := (hbw.cell (p := ⟨k1, 5, none⟩) hk1).trans p5
        have HBW := Lib.hid hbw
        clear hbw
        have mx := fun w ts t x y z u => max4 w ts t x y z u
        have t1 : decide (256 < max (max (max a (-a)) b') (-b')) = false := by simp; omega
        have t2 : decide (4294967296 < max z (-z)) = false := by simp; omega
        have t3 : decide (d < 0) = false := by simp; omega
        have t4 : decide (4294967296 < d) = false := by simp; omega
        rcases Classical.em (a = 0) with ha | ha
        · have t5 : (a == 0) = true := by simpa using ha
          have t6 : (b' == 0) = false := by simp; intro h; exact nz ⟨ha, h⟩
          clear ha nz
          go_wp2
          go_roundw
          case rel => exact ⟨1, by omega, by go_num, HBW.out.alloc HBW.out.size _⟩
          case measure => simp [intOf]
        · have t5 : (a == 0) = false := by simpa using ha
          clear ha nz
          go_wp2
          go_roundw
          case rel => exact ⟨1, by omega, by go_num, HBW.out.alloc HBW.out.size _⟩
          case measure => simp [intOf]
      · have c0 := (hbw.cell (p := ⟨k1, 6, none⟩) hk1).trans p6
        have c1 := (hbw.cell (p := ⟨k1, 7, none⟩) hk1).trans p7
        have c2 := (hbw.cell (p := ⟨k1, 8, none⟩) hk1).trans p8
        have c3 := (hbw.cell (p := ⟨k1, 9, none⟩) hk1).trans p9
        have c4 := (hbw.cell (p := ⟨k1, 10, none⟩) hk1).trans p10
        have c5 := (hbw.cell (p := ⟨k1, 11, none⟩) hk1).trans p11
        have HBW := Lib.hid hbw
        clear hbw
        have mx := fun w ts t x y z u => max4 w ts t x y z u
        have t1 : decide (256 < max (max (max a' (-a')) b'') (-b'')) = false := by simp; omega
        have t2 : decide (4294967296 < max z' (-z')) = false := by simp; omega
        have t3 : decide (d' < 0) = false := by simp; omega
        have t4 : decide (4294967296 < d') = false := by simp; omega
        rcases Classical.em (a' = 0) with ha | ha
        · have t5 : (a' == 0) = true := by simpa using ha
          have t6 : (b'' == 0) = false := by simp; intro h; exact nz' ⟨ha, h⟩
          clear ha nz'
          go_wp2
          go_roundw
          case rel => exact ⟨2, by omega, by go_num, HBW.out.alloc HBW.out.size _⟩
          case measure => simp [intOf]
        · have t5 : (a' == 0) = false := by simpa using ha
          clear ha nz'
          go_wp2
          go_roundw
          case rel => exact ⟨2, by omega, by go_num, HBW.out.alloc HBW.out.size _⟩
          case measure => simp [intOf]
      · have ck := (hbw.cell (p := ⟨w.heap.size, 1, none⟩) z2_0).trans c2_0_1
        have HBW := Lib.hid hbw
        clear hbw
        go_wp2
        go_ret
        exact ⟨rfl, hw2.out.trans (HBW.out.mono hw2.out.size)⟩

/-! ### the row's step -/
set_option maxRecDepth 100000 in
theorem contract (H : Type) (enc : TypeId × Value → H) (W : World) (base : Nat) (args : Array Value) (ds gs : List (DataW H)) (before : List MemPlace)
    (hval : ∀ (j : Nat) t v, Tryd.f4.params[j]? = some t → args[j]? = some v → Value.okWide Tryd.prog W .any base t v)
    (hW : DataW.Whole enc Tryd.prog Tryd.f4.params.toList Rows.sensorSmallSpec.vars false W args.toList ds gs before) (hL : laidMetH Tryd.prog Rows.sensorSmallRow.laid W) (hsh : W.ShapedOpen Tryd.prog) :
    Calls Tryd.prog 4 args W fun e W' => ∃ v, e = .returned v ∧ Rows.sensorSmallSpec.post enc Tryd.prog Tryd.f4 false true false false W args v W' := by
  have hW' := hW
  obtain ⟨p, q, hA0, hV, rfl, hfz, hnd⟩ := hW
  have hA : DataW.TrodAll enc Tryd.prog W 0 (fun _ => true) true Tryd.f4.params.toList args.toList ds p := hA0
  rw [Tryd.params4] at hA hval
  obtain ⟨v0, vs0, d0, ds0, p0, q0, hargs, rfl, rfl, h0, r0⟩ := trodAll_cons hA
  obtain ⟨v1, vs1, d1, ds1, p1, q1, rfl, rfl, rfl, h1, r1⟩ := trodAll_cons r0
  obtain ⟨rfl, rfl, rfl⟩ := trodAll_nil r1
  obtain rfl : args = #[v0, v1] := by cases args; simp_all
  obtain ⟨rfl, rfl⟩ := trodVars_none hV
  obtain ⟨x0_0, x0_1, x0_2, x0_3, x0_4, x0_5, x0_6, x0_7, rfl, rfl, rfl, w0_0, w0_1, w0_2, w0_3, w0_4, w0_5, w0_6, w0_7⟩ := open_report (hval 0 26 v0 rfl rfl) h0
  obtain ⟨x1_0, x1_1, x1_2, x1_3, rfl, rfl, rfl, w1_0, w1_1, w1_2, w1_3⟩ := open_box (hval 1 32 v1 rfl rfl) h1
  clear hA0
  simp only [List.append_nil] at hW'
  refine (walk x0_0 x0_1 x0_2 x0_3 x0_4 x0_5 x0_6 x0_7 x1_0 x1_1 x1_2 x1_3 (bd64 w0_0).1 (bd64 w0_0).2 (bd8 w0_1).1 (bd8 w0_1).2 (bd64 w0_2).1 (bd64 w0_2).2 (bd64 w0_3).1 (bd64 w0_3).2 (bd64 w0_4).1 (bd64 w0_4).2 (bd64 w0_5).1 (bd64 w0_5).2 (bd64 w0_6).1 (bd64 w0_6).2 (bd64 w0_7).1 (bd64 w0_7).2 (bd64 w1_0).1 (bd64 w1_0).2 (bd64 w1_1).1 (bd64 w1_1).2 (bd64 w1_2).1 (bd64 w1_2).2 (bd64 w1_3).1 (bd64 w1_3).2 W (env_of hL hsh)).mono fun e W' ⟨he, hb⟩ => ?_
  subst he
  exact ⟨_, rfl, post_of_below (pa := []) (pv := []) hW' (fun _ _ _ => trodAll_cons_mk (shut_bool Tryd.underlying4 _) trodAll_mk0) (fun sp _ => (trodAll_cons_mk (shut_report w0_0 w0_1 w0_2 w0_3 w0_4 w0_5 w0_6 w0_7) (trodAll_cons_mk (shut_box w1_0 w1_1 w1_2 w1_3) trodAll_mk0))) (fun _ _ => rfl) rfl
    hb (ok_one (by kernel_rfl) rfl (okWide_bool_mk Tryd.underlying4 _))⟩

theorem reads (os : Os) {H : Type} (enc : TypeId × Value → H) : ∃ places, DataW.whole enc Tryd.prog ((laidWorld os).forCall (fun _ _ => 0) ⟨#[], #[.agg #[.int .i64 0, .int .u8 0, .int .i64 0, .int .i64 0, .int .i64 0, .int .i64 0, .int .i64 0, .int .i64 0], .agg #[.int .i64 0, .int .i64 0, .int .i64 0, .int .i64 0]], []⟩).memory Tryd.f4.params.toList Rows.sensorSmallSpec.vars false (#[.agg #[.int .i64 0, .int .u8 0, .int .i64 0, .int .i64 0, .int .i64 0, .int .i64 0, .int .i64 0, .int .i64 0], .agg #[.int .i64 0, .int .i64 0, .int .i64 0, .int .i64 0]] : Array Value).toList 8 = some ([.agg [.lit (.int .i64 0), .lit (.int .u8 0), .agg [.lit (.int .i64 0), .lit (.int .i64 0)], .lit (.int .i64 0), .lit (.int .i64 0), .lit (.int .i64 0), .lit (.int .i64 0)], .agg [.agg [.lit (.int .i64 0), .lit (.int .i64 0)], .lit (.int .i64 0), .lit (.int .i64 0)]], [], places) :=
  ⟨[], by kernel_rfl⟩

set_option maxRecDepth 100000 in
theorem lifted (os : Os) (started : os.Started) (H : Type) (enc : TypeId × Value → H) (F : Stop.Interp) :
    ReturnsInHanded {} Tryd.checked os 4 .any ((OpenSpec.ofChange Rows.sensorSmallSpec).preRow enc Tryd.prog Tryd.f4 Rows.sensorSmallRow.domain false Rows.sensorSmallRow.laid) (((OpenSpec.ofChange Rows.sensorSmallSpec).at F).post enc Tryd.prog Tryd.f4 false true false false) := by
  obtain ⟨places, hx⟩ := reads os enc
  refine returnsInHanded_of_row (C := Tryd.checked) (s := OpenSpec.ofChange Rows.sensorSmallSpec) own started (by kernel_rfl) Tryd.func4
    (witness_row_at (enc := enc) (C := Tryd.checked) false (laidWorld os) #[.agg #[.int .i64 0, .int .u8 0, .int .i64 0, .int .i64 0, .int .i64 0, .int .i64 0, .int .i64 0, .int .i64 0], .agg #[.int .i64 0, .int .i64 0, .int .i64 0, .int .i64 0]] rfl (by kernel_rfl) (by kernel_rfl) (by kernel_rfl)
      (OpenSpec.preRow_of_cond 8 hx (by kernel_rfl) (fun k hk => by cases hk) (by kernel_rfl) (laid_met_any os _))) ?_
  intro W base args ds gs before hval hW _ _ _ hL hsh _
  exact contract H enc W base args ds gs before hval hW hL hsh

theorem said : Rows.SensorSmallSaid :=
  OpenClaim.holds_of_cond 4 Tryd.f4 rfl rfl rfl rfl rfl rfl rfl ⟨rfl, rfl, rfl, rfl, rfl⟩ rfl rfl rfl rfl rfl (by kernel_rfl) Tryd.func4 (by kernel_rfl)
    (of_decide_eq_true (by kernel_rfl)) (by unfold Func.isWrapper; first | (rw [if_pos (by decide +kernel)]; kernel_rfl) | (rw [if_neg (by decide +kernel)]; exact ⟨rfl, rfl⟩))
    (fun os started H enc _ F => by rw [OpenClaim.pre_eq_preRow]; exact lifted os started H enc F)

theorem plain (f : FuncId) (fn : Func) (hf : Tryd.pinned.checked.prog.funcNamed "flightdeck/flightdecklaw41.SensorSmall" = some f) (hfn : Tryd.pinned.checked.prog.funcs[f]? = some fn) :
    false = Tryd.pinned.checked.prog.looks [] ∧ ∀ (j : Nat) t, fn.params[j]? = some t → Tryd.pinned.checked.prog.wantsStandIn t = false := by
  obtain rfl : f = 4 := Option.some.inj ((show Tryd.prog.funcNamed "flightdeck/flightdecklaw41.SensorSmall" = some 4 by kernel_rfl).symm.trans hf) |>.symm
  obtain rfl : fn = Tryd.f4 := (Option.some.inj (Tryd.func4.symm.trans hfn)).symm
  refine ⟨by kernel_rfl, fun j t ht => ?_⟩
  rw [Tryd.params4] at ht
  have hm := Array.mem_of_getElem? ht
  simp only [List.mem_toArray, List.mem_cons, List.not_mem_nil, or_false] at hm
  rcases hm with rfl | rfl
  · exact (show Tryd.prog.wantsStandIn 26 = false by kernel_rfl)
  · exact (show Tryd.prog.wantsStandIn 32 = false by kernel_rfl)
/-- the law -/
theorem card : Rows.SensorSmallCardSaid :=
  Claim7.holds_tied_plain_at .later [] _ _ _ _ said (fun _ h => by cases h) (by kernel_rfl) (fun _ h => by cases h) sensorSmall_row_tie rfl ⟨rfl, rfl⟩ (by kernel_rfl) rfl plain (by kernel_rfl)
end Go.Proofs.YtnnafjmfbnnnjaaDoor.sensorSmall
