/-
  The law WindBoxes holds for every input: the set around a wind contains exactly the valid winds that differ from it by at most the error. No condition.
-/
import Derived.Test.YtdfpbojlimeccaaDoorFrame
import Derived.Test.YtdfpbojlimeccaaDoorAwake
import Derived.Test.YtdfpbojlimeccaaDoorWindAround
import Derived.Test.YtdfpbojlimeccaaDoorWindRef
import Derived.Test.YtdfpbojlimeccaaDoorWindSetsRef
namespace Go.Proofs.YtdfpbojlimeccaaDoor.windBoxes
set_option linter.unusedVariables false
open Go.ChangeShapes Go.WideShapes Go.ChangeAt Go.RowKit Tr Sq

theorem box_facts {x n r : Int} (hv : vldW x n = true) (r0 : 0 ≤ r) (r1 : r ≤ 400) : boxB (max (x - r) (-400)) (min (x + r) 400) (max (n - r) (-400)) (min (n + r) 400) = true ∧ withinB (max (x - r) (-400)) (min (x + r) 400) (max (n - r) (-400)) (min (n + r) 400) x n = true := by
  have h := vldW_iff.1 hv
  have hb : boxB (max (x - r) (-400)) (min (x + r) 400) (max (n - r) (-400)) (min (n + r) 400) = true := boxB_iff.2 (by omega)
  exact ⟨hb, withinB_iff.2 ⟨hb, by omega⟩⟩
theorem near_facts {x n r y m : Int} (hv : vldW x n = true) (r0 : 0 ≤ r) (r1 : r ≤ 400) : withinB (max (x - r) (-400)) (min (x + r) 400) (max (n - r) (-400)) (min (n + r) 400) y m = (vldW y m && decide (max (y - x) (x - y) ≤ r) && decide (max (m - n) (n - m) ≤ r)) := by
  have h := vldW_iff.1 hv
  have hb := (box_facts hv r0 r1).1
  rw [Bool.eq_iff_iff, withinB_iff, Bool.and_eq_true, Bool.and_eq_true, vldW_iff, decide_eq_true_iff, decide_eq_true_iff]
  rw [hb]
  have e1 : max (y - x) (x - y) ≤ r ↔ (y - x ≤ r ∧ x - y ≤ r) := Int.max_le
  have e2 : max (m - n) (n - m) ≤ r ↔ (m - n ≤ r ∧ n - m ≤ r) := Int.max_le
  rw [e1, e2]
  constructor
  · rintro ⟨_, a, b, c, d⟩
    omega
  · rintro ⟨⟨a, b⟩, c⟩
    exact ⟨rfl, by omega, by omega, by omega, by omega⟩
set_option maxHeartbeats 8000000 in
set_option maxRecDepth 100000 in
theorem walk (x n y m r : Int) (xa : -9223372036854775808 ≤ x) (xb : x ≤ 9223372036854775807) (na : -9223372036854775808 ≤ n) (nb : n ≤ 9223372036854775807) (ya : -9223372036854775808 ≤ y) (yb : y ≤ 9223372036854775807) (ma : -9223372036854775808 ≤ m) (mb : m ≤ 9223372036854775807) (ra : -9223372036854775808 ≤ r) (rb : r ≤ 9223372036854775807) (w : World) (hE : Env w) :
    Calls Tryd.prog 9 #[.agg #[.int .i64 x, .int .i64 n], .agg #[.int .i64 y, .int .i64 m], .int .i64 r] w fun e w' => e = .returned (.bool true) ∧ Below w.heap.size w w' := by
  have HE := Lib.hid hE
  have R1 := Lib.hid (fun w => around_any x n r w)
  have V1 := Lib.hid (fun w => valid_ref x n w)
  clear hE
  cases hv : vldW x n with
  | false =>
    rw [show aroundF x n r = (0, 0, 0, 0, 1) by unfold aroundF; rw [if_neg (by rw [hv]; simp)]] at R1
    rw [hv] at V1
    clear hv
    go_enter Tryd.func9, Tryd.ntmps9
    go_wp2_with fail
    have c0_0_0 : ((w.alloc (.cells #[.int .i64 x, .int .i64 n] 23)).alloc (.cells #[.int .i64 y, .int .i64 m] 23)).cell? ⟨w.heap.size, 0, none⟩ = some (.int .i64 x) := (((Below.refl (w.heap.size + 1) (w.alloc (.cells #[.int .i64 x, .int .i64 n] 23))).alloc (by simp; try omega) (.cells #[.int .i64 y, .int .i64 m] 23)).cell (p := ⟨w.heap.size, 0, none⟩) (by simp; try omega)).trans (by rw [World.cell?_alloc_at _ _ _ _ (by simp)]; rfl)
    have c0_0_1 : ((w.alloc (.cells #[.int .i64 x, .int .i64 n] 23)).alloc (.cells #[.int .i64 y, .int .i64 m] 23)).cell? ⟨w.heap.size, 1, none⟩ = some (.int .i64 n) := (((Below.refl (w.heap.size + 1) (w.alloc (.cells #[.int .i64 x, .int .i64 n] 23))).alloc (by simp; try omega) (.cells #[.int .i64 y, .int .i64 m] 23)).cell (p := ⟨w.heap.size, 1, none⟩) (by simp; try omega)).trans (by rw [World.cell?_alloc_at _ _ _ _ (by simp)]; rfl)
    have c0_1_0 : ((w.alloc (.cells #[.int .i64 x, .int .i64 n] 23)).alloc (.cells #[.int .i64 y, .int .i64 m] 23)).cell? ⟨w.heap.size + 1, 0, none⟩ = some (.int .i64 y) := by rw [World.cell?_alloc_at _ _ _ _ (by simp)]; rfl
    have c0_1_1 : ((w.alloc (.cells #[.int .i64 x, .int .i64 n] 23)).alloc (.cells #[.int .i64 y, .int .i64 m] 23)).cell? ⟨w.heap.size + 1, 1, none⟩ = some (.int .i64 m) := by rw [World.cell?_alloc_at _ _ _ _ (by simp)]; rfl
    have z0_0 : w.heap.size < ((w.alloc (.cells #[.int .i64 x, .int .i64 n] 23)).alloc (.cells #[.int .i64 y, .int .i64 m] 23)).heap.size := by simp; try omega
    have z0_1 : w.heap.size + 1 < ((w.alloc (.cells #[.int .i64 x, .int .i64 n] 23)).alloc (.cells #[.int .i64 y, .int .i64 m] 23)).heap.size := by simp; try omega
    have hw0 := Lib.hid (((Below.refl w.heap.size w).alloc (by simp; try omega) (.cells #[.int .i64 x, .int .i64 n] 23)).alloc (by simp; try omega) (.cells #[.int .i64 y, .int .i64 m] 23))
    generalize hW0 : ((w.alloc (.cells #[.int .i64 x, .int .i64 n] 23)).alloc (.cells #[.int .i64 y, .int .i64 m] 23)) = w0 at *
    clear hW0
    refine (awake_any _ (HE.out.below hw0.out)).mono ?_
    rintro e w1 ⟨rfl, hb1⟩
    have c1_0_0 := (hb1.cell (p := ⟨w.heap.size, 0, none⟩) z0_0).trans c0_0_0
    have c1_0_1 := (hb1.cell (p := ⟨w.heap.size, 1, none⟩) z0_0).trans c0_0_1
    have c1_1_0 := (hb1.cell (p := ⟨w.heap.size + 1, 0, none⟩) z0_1).trans c0_1_0
    have c1_1_1 := (hb1.cell (p := ⟨w.heap.size + 1, 1, none⟩) z0_1).trans c0_1_1
    have z1_0 : w.heap.size < w1.heap.size := Nat.lt_of_lt_of_le z0_0 hb1.size
    have z1_1 : w.heap.size + 1 < w1.heap.size := Nat.lt_of_lt_of_le z0_1 hb1.size
    have hw1 := Lib.hid (hw0.out.trans (hb1.mono hw0.out.size))
    clear hb1 hw0 c0_0_0 c0_0_1 c0_1_0 c0_1_1 z0_0 z0_1
    go_wp2_with fail
    refine (R1.out _).mono ?_
    rintro e w2 ⟨rfl, hb2⟩
    have c2_0_0 := (hb2.cell (p := ⟨w.heap.size, 0, none⟩) z1_0).trans c1_0_0
    have c2_0_1 := (hb2.cell (p := ⟨w.heap.size, 1, none⟩) z1_0).trans c1_0_1
    have c2_1_0 := (hb2.cell (p := ⟨w.heap.size + 1, 0, none⟩) z1_1).trans c1_1_0
    have c2_1_1 := (hb2.cell (p := ⟨w.heap.size + 1, 1, none⟩) z1_1).trans c1_1_1
    have z2_0 : w.heap.size < w2.heap.size := Nat.lt_of_lt_of_le z1_0 hb2.size
    have z2_1 : w.heap.size + 1 < w2.heap.size := Nat.lt_of_lt_of_le z1_1 hb2.size
    have hw2 := Lib.hid (hw1.out.trans (hb2.mono hw1.out.size))
    clear hb2 hw1 c1_0_0 c1_0_1 c1_1_0 c1_1_1 z1_0 z1_1
    go_wp2_with fail
    have hb3 : Below w2.heap.size w2 (w2.alloc (.cells #[.int .i64 0, .int .i64 0, .int .i64 0, .int .i64 0] 34)) := (Below.refl w2.heap.size w2).alloc (Nat.le_refl _) _
    have c3_0_0 := (hb3.cell (p := ⟨w.heap.size, 0, none⟩) z2_0).trans c2_0_0
    have c3_0_1 := (hb3.cell (p := ⟨w.heap.size, 1, none⟩) z2_0).trans c2_0_1
    have c3_1_0 := (hb3.cell (p := ⟨w.heap.size + 1, 0, none⟩) z2_1).trans c2_1_0
    have c3_1_1 := (hb3.cell (p := ⟨w.heap.size + 1, 1, none⟩) z2_1).trans c2_1_1
    have z3_0 : w.heap.size < (w2.alloc (.cells #[.int .i64 0, .int .i64 0, .int .i64 0, .int .i64 0] 34)).heap.size := Nat.lt_of_lt_of_le z2_0 hb3.size
    have z3_1 : w.heap.size + 1 < (w2.alloc (.cells #[.int .i64 0, .int .i64 0, .int .i64 0, .int .i64 0] 34)).heap.size := Nat.lt_of_lt_of_le z2_1 hb3.size
    have c3_2_0 : (w2.alloc (.cells #[.int .i64 0, .int .i64 0, .int .i64 0, .int .i64 0] 34)).cell? ⟨w2.heap.size, 0, none⟩ = some (.int .i64 0) := by rw [World.cell?_alloc_at _ _ _ _ (by simp)]; rfl
    have c3_2_1 : (w2.alloc (.cells #[.int .i64 0, .int .i64 0, .int .i64 0, .int .i64 0] 34)).cell? ⟨w2.heap.size, 1, none⟩ = some (.int .i64 0) := by rw [World.cell?_alloc_at _ _ _ _ (by simp)]; rfl
    have c3_2_2 : (w2.alloc (.cells #[.int .i64 0, .int .i64 0, .int .i64 0, .int .i64 0] 34)).cell? ⟨w2.heap.size, 2, none⟩ = some (.int .i64 0) := by rw [World.cell?_alloc_at _ _ _ _ (by simp)]; rfl
    have c3_2_3 : (w2.alloc (.cells #[.int .i64 0, .int .i64 0, .int .i64 0, .int .i64 0] 34)).cell? ⟨w2.heap.size, 3, none⟩ = some (.int .i64 0) := by rw [World.cell?_alloc_at _ _ _ _ (by simp)]; rfl
    have z3_2 : w2.heap.size < (w2.alloc (.cells #[.int .i64 0, .int .i64 0, .int .i64 0, .int .i64 0] 34)).heap.size := by simp
    have hw3 := Lib.hid (hw2.out.trans (hb3.mono hw2.out.size))
    generalize hW3 : (w2.alloc (.cells #[.int .i64 0, .int .i64 0, .int .i64 0, .int .i64 0] 34)) = w3 at *
    clear hW3 hb3 hw2 c2_0_0 c2_0_1 c2_1_0 c2_1_1 z2_0 z2_1
    refine (V1.out _).mono ?_
    rintro e w4 ⟨rfl, hb4⟩
    have c4_0_0 := (hb4.cell (p := ⟨w.heap.size, 0, none⟩) z3_0).trans c3_0_0
    have c4_0_1 := (hb4.cell (p := ⟨w.heap.size, 1, none⟩) z3_0).trans c3_0_1
    have c4_1_0 := (hb4.cell (p := ⟨w.heap.size + 1, 0, none⟩) z3_1).trans c3_1_0
    have c4_1_1 := (hb4.cell (p := ⟨w.heap.size + 1, 1, none⟩) z3_1).trans c3_1_1
    have c4_2_0 := (hb4.cell (p := ⟨w2.heap.size, 0, none⟩) z3_2).trans c3_2_0
    have c4_2_1 := (hb4.cell (p := ⟨w2.heap.size, 1, none⟩) z3_2).trans c3_2_1
    have c4_2_2 := (hb4.cell (p := ⟨w2.heap.size, 2, none⟩) z3_2).trans c3_2_2
    have c4_2_3 := (hb4.cell (p := ⟨w2.heap.size, 3, none⟩) z3_2).trans c3_2_3
    have z4_0 : w.heap.size < w4.heap.size := Nat.lt_of_lt_of_le z3_0 hb4.size
    have z4_1 : w.heap.size + 1 < w4.heap.size := Nat.lt_of_lt_of_le z3_1 hb4.size
    have z4_2 : w2.heap.size < w4.heap.size := Nat.lt_of_lt_of_le z3_2 hb4.size
    have hw4 := Lib.hid (hw3.out.trans (hb4.mono hw3.out.size))
    clear hb4 hw3 c3_0_0 c3_0_1 c3_1_0 c3_1_1 c3_2_0 c3_2_1 c3_2_2 c3_2_3 z3_0 z3_1 z3_2
    go_wp2
    go_ret
    exact ⟨rfl, hw4.out⟩
  | true =>
    rw [hv] at V1
    by_cases h1 : r < 0
    · rw [show aroundF x n r = (0, 0, 0, 0, 1) by unfold aroundF; rw [if_neg (by omega)]] at R1
      have k1 : decide (r < 0) = true := by simpa using h1
      clear hv
      go_enter Tryd.func9, Tryd.ntmps9
      go_wp2_with fail
      have c0_0_0 : ((w.alloc (.cells #[.int .i64 x, .int .i64 n] 23)).alloc (.cells #[.int .i64 y, .int .i64 m] 23)).cell? ⟨w.heap.size, 0, none⟩ = some (.int .i64 x) := (((Below.refl (w.heap.size + 1) (w.alloc (.cells #[.int .i64 x, .int .i64 n] 23))).alloc (by simp; try omega) (.cells #[.int .i64 y, .int .i64 m] 23)).cell (p := ⟨w.heap.size, 0, none⟩) (by simp; try omega)).trans (by rw [World.cell?_alloc_at _ _ _ _ (by simp)]; rfl)
      have c0_0_1 : ((w.alloc (.cells #[.int .i64 x, .int .i64 n] 23)).alloc (.cells #[.int .i64 y, .int .i64 m] 23)).cell? ⟨w.heap.size, 1, none⟩ = some (.int .i64 n) := (((Below.refl (w.heap.size + 1) (w.alloc (.cells #[.int .i64 x, .int .i64 n] 23))).alloc (by simp; try omega) (.cells #[.int .i64 y, .int .i64 m] 23)).cell (p := ⟨w.heap.size, 1, none⟩) (by simp; try omega)).trans (by rw [World.cell?_alloc_at _ _ _ _ (by simp)]; rfl)
      have c0_1_0 : ((w.alloc (.cells #[.int .i64 x, .int .i64 n] 23)).alloc (.cells #[.int .i64 y, .int .i64 m] 23)).cell? ⟨w.heap.size + 1, 0, none⟩ = some (.int .i64 y) := by rw [World.cell?_alloc_at _ _ _ _ (by simp)]; rfl
      have c0_1_1 : ((w.alloc (.cells #[.int .i64 x, .int .i64 n] 23)).alloc (.cells #[.int .i64 y, .int .i64 m] 23)).cell? ⟨w.heap.size + 1, 1, none⟩ = some (.int .i64 m) := by rw [World.cell?_alloc_at _ _ _ _ (by simp)]; rfl
      have z0_0 : w.heap.size < ((w.alloc (.cells #[.int .i64 x, .int .i64 n] 23)).alloc (.cells #[.int .i64 y, .int .i64 m] 23)).heap.size := by simp; try omega
      have z0_1 : w.heap.size + 1 < ((w.alloc (.cells #[.int .i64 x, .int .i64 n] 23)).alloc (.cells #[.int .i64 y, .int .i64 m] 23)).heap.size := by simp; try omega
      have hw0 := Lib.hid (((Below.refl w.heap.size w).alloc (by simp; try omega) (.cells #[.int .i64 x, .int .i64 n] 23)).alloc (by simp; try omega) (.cells #[.int .i64 y, .int .i64 m] 23))
      generalize hW0 : ((w.alloc (.cells #[.int .i64 x, .int .i64 n] 23)).alloc (.cells #[.int .i64 y, .int .i64 m] 23)) = w0 at *
      clear hW0
      refine (awake_any _ (HE.out.below hw0.out)).mono ?_
      rintro e w1 ⟨rfl, hb1⟩
      have c1_0_0 := (hb1.cell (p := ⟨w.heap.size, 0, none⟩) z0_0).trans c0_0_0
      have c1_0_1 := (hb1.cell (p := ⟨w.heap.size, 1, none⟩) z0_0).trans c0_0_1
      have c1_1_0 := (hb1.cell (p := ⟨w.heap.size + 1, 0, none⟩) z0_1).trans c0_1_0
      have c1_1_1 := (hb1.cell (p := ⟨w.heap.size + 1, 1, none⟩) z0_1).trans c0_1_1
      have z1_0 : w.heap.size < w1.heap.size := Nat.lt_of_lt_of_le z0_0 hb1.size
      have z1_1 : w.heap.size + 1 < w1.heap.size := Nat.lt_of_lt_of_le z0_1 hb1.size
      have hw1 := Lib.hid (hw0.out.trans (hb1.mono hw0.out.size))
      clear hb1 hw0 c0_0_0 c0_0_1 c0_1_0 c0_1_1 z0_0 z0_1
      go_wp2_with fail
      refine (R1.out _).mono ?_
      rintro e w2 ⟨rfl, hb2⟩
      have c2_0_0 := (hb2.cell (p := ⟨w.heap.size, 0, none⟩) z1_0).trans c1_0_0
      have c2_0_1 := (hb2.cell (p := ⟨w.heap.size, 1, none⟩) z1_0).trans c1_0_1
      have c2_1_0 := (hb2.cell (p := ⟨w.heap.size + 1, 0, none⟩) z1_1).trans c1_1_0
      have c2_1_1 := (hb2.cell (p := ⟨w.heap.size + 1, 1, none⟩) z1_1).trans c1_1_1
      have z2_0 : w.heap.size < w2.heap.size := Nat.lt_of_lt_of_le z1_0 hb2.size
      have z2_1 : w.heap.size + 1 < w2.heap.size := Nat.lt_of_lt_of_le z1_1 hb2.size
      have hw2 := Lib.hid (hw1.out.trans (hb2.mono hw1.out.size))
      clear hb2 hw1 c1_0_0 c1_0_1 c1_1_0 c1_1_1 z1_0 z1_1
      go_wp2_with fail
      have hb3 : Below w2.heap.size w2 (w2.alloc (.cells #[.int .i64 0, .int .i64 0, .int .i64 0, .int .i64 0] 34)) := (Below.refl w2.heap.size w2).alloc (Nat.le_refl _) _
      have c3_0_0 := (hb3.cell (p := ⟨w.heap.size, 0, none⟩) z2_0).trans c2_0_0
      have c3_0_1 := (hb3.cell (p := ⟨w.heap.size, 1, none⟩) z2_0).trans c2_0_1
      have c3_1_0 := (hb3.cell (p := ⟨w.heap.size + 1, 0, none⟩) z2_1).trans c2_1_0
      have c3_1_1 := (hb3.cell (p := ⟨w.heap.size + 1, 1, none⟩) z2_1).trans c2_1_1
      have z3_0 : w.heap.size < (w2.alloc (.cells #[.int .i64 0, .int .i64 0, .int .i64 0, .int .i64 0] 34)).heap.size := Nat.lt_of_lt_of_le z2_0 hb3.size
      have z3_1 : w.heap.size + 1 < (w2.alloc (.cells #[.int .i64 0, .int .i64 0, .int .i64 0, .int .i64 0] 34)).heap.size := Nat.lt_of_lt_of_le z2_1 hb3.size
      have c3_2_0 : (w2.alloc (.cells #[.int .i64 0, .int .i64 0, .int .i64 0, .int .i64 0] 34)).cell? ⟨w2.heap.size, 0, none⟩ = some (.int .i64 0) := by rw [World.cell?_alloc_at _ _ _ _ (by simp)]; rfl
      have c3_2_1 : (w2.alloc (.cells #[.int .i64 0, .int .i64 0, .int .i64 0, .int .i64 0] 34)).cell? ⟨w2.heap.size, 1, none⟩ = some (.int .i64 0) := by rw [World.cell?_alloc_at _ _ _ _ (by simp)]; rfl
      have c3_2_2 : (w2.alloc (.cells #[.int .i64 0, .int .i64 0, .int .i64 0, .int .i64 0] 34)).cell? ⟨w2.heap.size, 2, none⟩ = some (.int .i64 0) := by rw [World.cell?_alloc_at _ _ _ _ (by simp)]; rfl
      have c3_2_3 : (w2.alloc (.cells #[.int .i64 0, .int .i64 0, .int .i64 0, .int .i64 0] 34)).cell? ⟨w2.heap.size, 3, none⟩ = some (.int .i64 0) := by rw [World.cell?_alloc_at _ _ _ _ (by simp)]; rfl
      have z3_2 : w2.heap.size < (w2.alloc (.cells #[.int .i64 0, .int .i64 0, .int .i64 0, .int .i64 0] 34)).heap.size := by simp
      have hw3 := Lib.hid (hw2.out.trans (hb3.mono hw2.out.size))
      generalize hW3 : (w2.alloc (.cells #[.int .i64 0, .int .i64 0, .int .i64 0, .int .i64 0] 34)) = w3 at *
      clear hW3 hb3 hw2 c2_0_0 c2_0_1 c2_1_0 c2_1_1 z2_0 z2_1
      refine (V1.out _).mono ?_
      rintro e w4 ⟨rfl, hb4⟩
      have c4_0_0 := (hb4.cell (p := ⟨w.heap.size, 0, none⟩) z3_0).trans c3_0_0
      have c4_0_1 := (hb4.cell (p := ⟨w.heap.size, 1, none⟩) z3_0).trans c3_0_1
      have c4_1_0 := (hb4.cell (p := ⟨w.heap.size + 1, 0, none⟩) z3_1).trans c3_1_0
      have c4_1_1 := (hb4.cell (p := ⟨w.heap.size + 1, 1, none⟩) z3_1).trans c3_1_1
      have c4_2_0 := (hb4.cell (p := ⟨w2.heap.size, 0, none⟩) z3_2).trans c3_2_0
      have c4_2_1 := (hb4.cell (p := ⟨w2.heap.size, 1, none⟩) z3_2).trans c3_2_1
      have c4_2_2 := (hb4.cell (p := ⟨w2.heap.size, 2, none⟩) z3_2).trans c3_2_2
      have c4_2_3 := (hb4.cell (p := ⟨w2.heap.size, 3, none⟩) z3_2).trans c3_2_3
      have z4_0 : w.heap.size < w4.heap.size := Nat.lt_of_lt_of_le z3_0 hb4.size
      have z4_1 : w.heap.size + 1 < w4.heap.size := Nat.lt_of_lt_of_le z3_1 hb4.size
      have z4_2 : w2.heap.size < w4.heap.size := Nat.lt_of_lt_of_le z3_2 hb4.size
      have hw4 := Lib.hid (hw3.out.trans (hb4.mono hw3.out.size))
      clear hb4 hw3 c3_0_0 c3_0_1 c3_1_0 c3_1_1 c3_2_0 c3_2_1 c3_2_2 c3_2_3 z3_0 z3_1 z3_2
      go_wp2
      go_ret
      exact ⟨rfl, hw4.out⟩
    by_cases h2 : 400 < r
    · rw [show aroundF x n r = (0, 0, 0, 0, 1) by unfold aroundF; rw [if_neg (by omega)]] at R1
      have k1 : decide (r < 0) = false := by simpa using h1
      have k2 : decide (400 < r) = true := by simpa using h2
      clear hv
      go_enter Tryd.func9, Tryd.ntmps9
      go_wp2_with fail
      have c0_0_0 : ((w.alloc (.cells #[.int .i64 x, .int .i64 n] 23)).alloc (.cells #[.int .i64 y, .int .i64 m] 23)).cell? ⟨w.heap.size, 0, none⟩ = some (.int .i64 x) := (((Below.refl (w.heap.size + 1) (w.alloc (.cells #[.int .i64 x, .int .i64 n] 23))).alloc (by simp; try omega) (.cells #[.int .i64 y, .int .i64 m] 23)).cell (p := ⟨w.heap.size, 0, none⟩) (by simp; try omega)).trans (by rw [World.cell?_alloc_at _ _ _ _ (by simp)]; rfl)
      have c0_0_1 : ((w.alloc (.cells #[.int .i64 x, .int .i64 n] 23)).alloc (.cells #[.int .i64 y, .int .i64 m] 23)).cell? ⟨w.heap.size, 1, none⟩ = some (.int .i64 n) := (((Below.refl (w.heap.size + 1) (w.alloc (.cells #[.int .i64 x, .int .i64 n] 23))).alloc (by simp; try omega) (.cells #[.int .i64 y, .int .i64 m] 23)).cell (p := ⟨w.heap.size, 1, none⟩) (by simp; try omega)).trans (by rw [World.cell?_alloc_at _ _ _ _ (by simp)]; rfl)
      have c0_1_0 : ((w.alloc (.cells #[.int .i64 x, .int .i64 n] 23)).alloc (.cells #[.int .i64 y, .int .i64 m] 23)).cell? ⟨w.heap.size + 1, 0, none⟩ = some (.int .i64 y) := by rw [World.cell?_alloc_at _ _ _ _ (by simp)]; rfl
      have c0_1_1 : ((w.alloc (.cells #[.int .i64 x, .int .i64 n] 23)).alloc (.cells #[.int .i64 y, .int .i64 m] 23)).cell? ⟨w.heap.size + 1, 1, none⟩ = some (.int .i64 m) := by rw [World.cell?_alloc_at _ _ _ _ (by simp)]; rfl
      have z0_0 : w.heap.size < ((w.alloc (.cells #[.int .i64 x, .int .i64 n] 23)).alloc (.cells #[.int .i64 y, .int .i64 m] 23)).heap.size := by simp; try omega
      have z0_1 : w.heap.size + 1 < ((w.alloc (.cells #[.int .i64 x, .int .i64 n] 23)).alloc (.cells #[.int .i64 y, .int .i64 m] 23)).heap.size := by simp; try omega
      have hw0 := Lib.hid (((Below.refl w.heap.size w).alloc (by simp; try omega) (.cells #[.int .i64 x, .int .i64 n] 23)).alloc (by simp; try omega) (.cells #[.int .i64 y, .int .i64 m] 23))
      generalize hW0 : ((w.alloc (.cells #[.int .i64 x, .int .i64 n] 23)).alloc (.cells #[.int .i64 y, .int .i64 m] 23)) = w0 at *
      clear hW0
      refine (awake_any _ (HE.out.below hw0.out)).mono ?_
      rintro e w1 ⟨rfl, hb1⟩
      have c1_0_0 := (hb1.cell (p := ⟨w.heap.size, 0, none⟩) z0_0).trans c0_0_0
      have c1_0_1 := (hb1.cell (p := ⟨w.heap.size, 1, none⟩) z0_0).trans c0_0_1
      have c1_1_0 := (hb1.cell (p := ⟨w.heap.size + 1, 0, none⟩) z0_1).trans c0_1_0
      have c1_1_1 := (hb1.cell (p := ⟨w.heap.size + 1, 1, none⟩) z0_1).trans c0_1_1
      have z1_0 : w.heap.size < w1.heap.size := Nat.lt_of_lt_of_le z0_0 hb1.size
      have z1_1 : w.heap.size + 1 < w1.heap.size := Nat.lt_of_lt_of_le z0_1 hb1.size
      have hw1 := Lib.hid (hw0.out.trans (hb1.mono hw0.out.size))
      clear hb1 hw0 c0_0_0 c0_0_1 c0_1_0 c0_1_1 z0_0 z0_1
      go_wp2_with fail
      refine (R1.out _).mono ?_
      rintro e w2 ⟨rfl, hb2⟩
      have c2_0_0 := (hb2.cell (p := ⟨w.heap.size, 0, none⟩) z1_0).trans c1_0_0
      have c2_0_1 := (hb2.cell (p := ⟨w.heap.size, 1, none⟩) z1_0).trans c1_0_1
      have c2_1_0 := (hb2.cell (p := ⟨w.heap.size + 1, 0, none⟩) z1_1).trans c1_1_0
      have c2_1_1 := (hb2.cell (p := ⟨w.heap.size + 1, 1, none⟩) z1_1).trans c1_1_1
      have z2_0 : w.heap.size < w2.heap.size := Nat.lt_of_lt_of_le z1_0 hb2.size
      have z2_1 : w.heap.size + 1 < w2.heap.size := Nat.lt_of_lt_of_le z1_1 hb2.size
      have hw2 := Lib.hid (hw1.out.trans (hb2.mono hw1.out.size))
      clear hb2 hw1 c1_0_0 c1_0_1 c1_1_0 c1_1_1 z1_0 z1_1
      go_wp2_with fail
      have hb3 : Below w2.heap.size w2 (w2.alloc (.cells #[.int .i64 0, .int .i64 0, .int .i64 0, .int .i64 0] 34)) := (Below.refl w2.heap.size w2).alloc (Nat.le_refl _) _
      have c3_0_0 := (hb3.cell (p := ⟨w.heap.size, 0, none⟩) z2_0).trans c2_0_0
      have c3_0_1 := (hb3.cell (p := ⟨w.heap.size, 1, none⟩) z2_0).trans c2_0_1
      have c3_1_0 := (hb3.cell (p := ⟨w.heap.size + 1, 0, none⟩) z2_1).trans c2_1_0
      have c3_1_1 := (hb3.cell (p := ⟨w.heap.size + 1, 1, none⟩) z2_1).trans c2_1_1
      have z3_0 : w.heap.size < (w2.alloc (.cells #[.int .i64 0, .int .i64 0, .int .i64 0, .int .i64 0] 34)).heap.size := Nat.lt_of_lt_of_le z2_0 hb3.size
      have z3_1 : w.heap.size + 1 < (w2.alloc (.cells #[.int .i64 0, .int .i64 0, .int .i64 0, .int .i64 0] 34)).heap.size := Nat.lt_of_lt_of_le z2_1 hb3.size
      have c3_2_0 : (w2.alloc (.cells #[.int .i64 0, .int .i64 0, .int .i64 0, .int .i64 0] 34)).cell? ⟨w2.heap.size, 0, none⟩ = some (.int .i64 0) := by rw [World.cell?_alloc_at _ _ _ _ (by simp)]; rfl
      have c3_2_1 : (w2.alloc (.cells #[.int .i64 0, .int .i64 0, .int .i64 0, .int .i64 0] 34)).cell? ⟨w2.heap.size, 1, none⟩ = some (.int .i64 0) := by rw [World.cell?_alloc_at _ _ _ _ (by simp)]; rfl
      have c3_2_2 : (w2.alloc (.cells #[.int .i64 0, .int .i64 0, .int .i64 0, .int .i64 0] 34)).cell? ⟨w2.heap.size, 2, none⟩ = some (.int .i64 0) := by rw [World.cell?_alloc_at _ _ _ _ (by simp)]; rfl
      have c3_2_3 : (w2.alloc (.cells #[.int .i64 0, .int .i64 0, .int .i64 0, .int .i64 0] 34)).cell? ⟨w2.heap.size, 3, none⟩ = some (.int .i64 0) := by rw [World.cell?_alloc_at _ _ _ _ (by simp)]; rfl
      have z3_2 : w2.heap.size < (w2.alloc (.cells #[.int .i64 0, .int .i64 0, .int .i64 0, .int .i64 0] 34)).heap.size := by simp
      have hw3 := Lib.hid (hw2.out.trans (hb3.mono hw2.out.size))
      generalize hW3 : (w2.alloc (.cells #[.int .i64 0, .int .i64 0, .int .i64 0, .int .i64 0] 34)) = w3 at *
      clear hW3 hb3 hw2 c2_0_0 c2_0_1 c2_1_0 c2_1_1 z2_0 z2_1
      refine (V1.out _).mono ?_
      rintro e w4 ⟨rfl, hb4⟩
      have c4_0_0 := (hb4.cell (p := ⟨w.heap.size, 0, none⟩) z3_0).trans c3_0_0
      have c4_0_1 := (hb4.cell (p := ⟨w.heap.size, 1, none⟩) z3_0).trans c3_0_1
      have c4_1_0 := (hb4.cell (p := ⟨w.heap.size + 1, 0, none⟩) z3_1).trans c3_1_0
      have c4_1_1 := (hb4.cell (p := ⟨w.heap.size + 1, 1, none⟩) z3_1).trans c3_1_1
      have c4_2_0 := (hb4.cell (p := ⟨w2.heap.size, 0, none⟩) z3_2).trans c3_2_0
      have c4_2_1 := (hb4.cell (p := ⟨w2.heap.size, 1, none⟩) z3_2).trans c3_2_1
      have c4_2_2 := (hb4.cell (p := ⟨w2.heap.size, 2, none⟩) z3_2).trans c3_2_2
      have c4_2_3 := (hb4.cell (p := ⟨w2.heap.size, 3, none⟩) z3_2).trans c3_2_3
      have z4_0 : w.heap.size < w4.heap.size := Nat.lt_of_lt_of_le z3_0 hb4.size
      have z4_1 : w.heap.size + 1 < w4.heap.size := Nat.lt_of_lt_of_le z3_1 hb4.size
      have z4_2 : w2.heap.size < w4.heap.size := Nat.lt_of_lt_of_le z3_2 hb4.size
      have hw4 := Lib.hid (hw3.out.trans (hb4.mono hw3.out.size))
      clear hb4 hw3 c3_0_0 c3_0_1 c3_1_0 c3_1_1 c3_2_0 c3_2_1 c3_2_2 c3_2_3 z3_0 z3_1 z3_2
      go_wp2
      go_ret
      exact ⟨rfl, hw4.out⟩
    rw [show aroundF x n r = (max (x - r) (-400), min (x + r) 400, max (n - r) (-400), min (n + r) 400, 0) by unfold aroundF; rw [if_pos ⟨hv, by omega, by omega⟩]] at R1
    have k1 : decide (r < 0) = false := by simpa using h1
    have k2 : decide (400 < r) = false := by simpa using h2
    have B1 := Lib.hid (fun w => box_any (max (x - r) (-400)) (min (x + r) 400) (max (n - r) (-400)) (min (n + r) 400) w)
    have N1 := Lib.hid (fun w => within_any (max (x - r) (-400)) (min (x + r) 400) (max (n - r) (-400)) (min (n + r) 400) x n w)
    have N2 := Lib.hid (fun w => within_any (max (x - r) (-400)) (min (x + r) 400) (max (n - r) (-400)) (min (n + r) 400) y m w)
    have V2 := Lib.hid (fun w => valid_ref y m w)
    rw [(box_facts hv (by omega) (by omega)).1] at B1
    rw [(box_facts hv (by omega) (by omega)).2] at N1
    rw [near_facts hv (by omega) (by omega)] at N2
    obtain ⟨v1, v2, v3, v4⟩ := vldW_iff.1 hv
    clear hv
    cases hu : vldW y m with
    | false =>
      rw [hu] at N2 V2
      simp only [Bool.false_and] at N2
      clear hu
      go_enter Tryd.func9, Tryd.ntmps9
      go_wp2_with fail
      have c0_0_0 : ((w.alloc (.cells #[.int .i64 x, .int .i64 n] 23)).alloc (.cells #[.int .i64 y, .int .i64 m] 23)).cell? ⟨w.heap.size, 0, none⟩ = some (.int .i64 x) := (((Below.refl (w.heap.size + 1) (w.alloc (.cells #[.int .i64 x, .int .i64 n] 23))).alloc (by simp; try omega) (.cells #[.int .i64 y, .int .i64 m] 23)).cell (p := ⟨w.heap.size, 0, none⟩) (by simp; try omega)).trans (by rw [World.cell?_alloc_at _ _ _ _ (by simp)]; rfl)
      have c0_0_1 : ((w.alloc (.cells #[.int .i64 x, .int .i64 n] 23)).alloc (.cells #[.int .i64 y, .int .i64 m] 23)).cell? ⟨w.heap.size, 1, none⟩ = some (.int .i64 n) := (((Below.refl (w.heap.size + 1) (w.alloc (.cells #[.int .i64 x, .int .i64 n] 23))).alloc (by simp; try omega) (.cells #[.int .i64 y, .int .i64 m] 23)).cell (p := ⟨w.heap.size, 1, none⟩) (by simp; try omega)).trans (by rw [World.cell?_alloc_at _ _ _ _ (by simp)]; rfl)
      have c0_1_0 : ((w.alloc (.cells #[.int .i64 x, .int .i64 n] 23)).alloc (.cells #[.int .i64 y, .int .i64 m] 23)).cell? ⟨w.heap.size + 1, 0, none⟩ = some (.int .i64 y) := by rw [World.cell?_alloc_at _ _ _ _ (by simp)]; rfl
      have c0_1_1 : ((w.alloc (.cells #[.int .i64 x, .int .i64 n] 23)).alloc (.cells #[.int .i64 y, .int .i64 m] 23)).cell? ⟨w.heap.size + 1, 1, none⟩ = some (.int .i64 m) := by rw [World.cell?_alloc_at _ _ _ _ (by simp)]; rfl
      have z0_0 : w.heap.size < ((w.alloc (.cells #[.int .i64 x, .int .i64 n] 23)).alloc (.cells #[.int .i64 y, .int .i64 m] 23)).heap.size := by simp; try omega
      have z0_1 : w.heap.size + 1 < ((w.alloc (.cells #[.int .i64 x, .int .i64 n] 23)).alloc (.cells #[.int .i64 y, .int .i64 m] 23)).heap.size := by simp; try omega
      have hw0 := Lib.hid (((Below.refl w.heap.size w).alloc (by simp; try omega) (.cells #[.int .i64 x, .int .i64 n] 23)).alloc (by simp; try omega) (.cells #[.int .i64 y, .int .i64 m] 23))
      generalize hW0 : ((w.alloc (.cells #[.int .i64 x, .int .i64 n] 23)).alloc (.cells #[.int .i64 y, .int .i64 m] 23)) = w0 at *
      clear hW0
      refine (awake_any _ (HE.out.below hw0.out)).mono ?_
      rintro e w1 ⟨rfl, hb1⟩
      have c1_0_0 := (hb1.cell (p := ⟨w.heap.size, 0, none⟩) z0_0).trans c0_0_0
      have c1_0_1 := (hb1.cell (p := ⟨w.heap.size, 1, none⟩) z0_0).trans c0_0_1
      have c1_1_0 := (hb1.cell (p := ⟨w.heap.size + 1, 0, none⟩) z0_1).trans c0_1_0
      have c1_1_1 := (hb1.cell (p := ⟨w.heap.size + 1, 1, none⟩) z0_1).trans c0_1_1
      have z1_0 : w.heap.size < w1.heap.size := Nat.lt_of_lt_of_le z0_0 hb1.size
      have z1_1 : w.heap.size + 1 < w1.heap.size := Nat.lt_of_lt_of_le z0_1 hb1.size
      have hw1 := Lib.hid (hw0.out.trans (hb1.mono hw0.out.size))
      clear hb1 hw0 c0_0_0 c0_0_1 c0_1_0 c0_1_1 z0_0 z0_1
      go_wp2_with fail
      refine (R1.out _).mono ?_
      rintro e w2 ⟨rfl, hb2⟩
      have c2_0_0 := (hb2.cell (p := ⟨w.heap.size, 0, none⟩) z1_0).trans c1_0_0
      have c2_0_1 := (hb2.cell (p := ⟨w.heap.size, 1, none⟩) z1_0).trans c1_0_1
      have c2_1_0 := (hb2.cell (p := ⟨w.heap.size + 1, 0, none⟩) z1_1).trans c1_1_0
      have c2_1_1 := (hb2.cell (p := ⟨w.heap.size + 1, 1, none⟩) z1_1).trans c1_1_1
      have z2_0 : w.heap.size < w2.heap.size := Nat.lt_of_lt_of_le z1_0 hb2.size
      have z2_1 : w.heap.size + 1 < w2.heap.size := Nat.lt_of_lt_of_le z1_1 hb2.size
      have hw2 := Lib.hid (hw1.out.trans (hb2.mono hw1.out.size))
      clear hb2 hw1 c1_0_0 c1_0_1 c1_1_0 c1_1_1 z1_0 z1_1
      go_wp2_with fail
      have hb3 : Below w2.heap.size w2 (w2.alloc (.cells #[.int .i64 (max (x - r) (-400)), .int .i64 (min (x + r) 400), .int .i64 (max (n - r) (-400)), .int .i64 (min (n + r) 400)] 34)) := (Below.refl w2.heap.size w2).alloc (Nat.le_refl _) _
      have c3_0_0 := (hb3.cell (p := ⟨w.heap.size, 0, none⟩) z2_0).trans c2_0_0
      have c3_0_1 := (hb3.cell (p := ⟨w.heap.size, 1, none⟩) z2_0).trans c2_0_1
      have c3_1_0 := (hb3.cell (p := ⟨w.heap.size + 1, 0, none⟩) z2_1).trans c2_1_0
      have c3_1_1 := (hb3.cell (p := ⟨w.heap.size + 1, 1, none⟩) z2_1).trans c2_1_1
      have z3_0 : w.heap.size < (w2.alloc (.cells #[.int .i64 (max (x - r) (-400)), .int .i64 (min (x + r) 400), .int .i64 (max (n - r) (-400)), .int .i64 (min (n + r) 400)] 34)).heap.size := Nat.lt_of_lt_of_le z2_0 hb3.size
      have z3_1 : w.heap.size + 1 < (w2.alloc (.cells #[.int .i64 (max (x - r) (-400)), .int .i64 (min (x + r) 400), .int .i64 (max (n - r) (-400)), .int .i64 (min (n + r) 400)] 34)).heap.size := Nat.lt_of_lt_of_le z2_1 hb3.size
      have c3_2_0 : (w2.alloc (.cells #[.int .i64 (max (x - r) (-400)), .int .i64 (min (x + r) 400), .int .i64 (max (n - r) (-400)), .int .i64 (min (n + r) 400)] 34)).cell? ⟨w2.heap.size, 0, none⟩ = some (.int .i64 (max (x - r) (-400))) := by rw [World.cell?_alloc_at _ _ _ _ (by simp)]; rfl
      have c3_2_1 : (w2.alloc (.cells #[.int .i64 (max (x - r) (-400)), .int .i64 (min (x + r) 400), .int .i64 (max (n - r) (-400)), .int .i64 (min (n + r) 400)] 34)).cell? ⟨w2.heap.size, 1, none⟩ = some (.int .i64 (min (x + r) 400)) := by rw [World.cell?_alloc_at _ _ _ _ (by simp)]; rfl
      have c3_2_2 : (w2.alloc (.cells #[.int .i64 (max (x - r) (-400)), .int .i64 (min (x + r) 400), .int .i64 (max (n - r) (-400)), .int .i64 (min (n + r) 400)] 34)).cell? ⟨w2.heap.size, 2, none⟩ = some (.int .i64 (max (n - r) (-400))) := by rw [World.cell?_alloc_at _ _ _ _ (by simp)]; rfl
      have c3_2_3 : (w2.alloc (.cells #[.int .i64 (max (x - r) (-400)), .int .i64 (min (x + r) 400), .int .i64 (max (n - r) (-400)), .int .i64 (min (n + r) 400)] 34)).cell? ⟨w2.heap.size, 3, none⟩ = some (.int .i64 (min (n + r) 400)) := by rw [World.cell?_alloc_at _ _ _ _ (by simp)]; rfl
      have z3_2 : w2.heap.size < (w2.alloc (.cells #[.int .i64 (max (x - r) (-400)), .int .i64 (min (x + r) 400), .int .i64 (max (n - r) (-400)), .int .i64 (min (n + r) 400)] 34)).heap.size := by simp
      have hw3 := Lib.hid (hw2.out.trans (hb3.mono hw2.out.size))
      generalize hW3 : (w2.alloc (.cells #[.int .i64 (max (x - r) (-400)), .int .i64 (min (x + r) 400), .int .i64 (max (n - r) (-400)), .int .i64 (min (n + r) 400)] 34)) = w3 at *
      clear hW3 hb3 hw2 c2_0_0 c2_0_1 c2_1_0 c2_1_1 z2_0 z2_1
      refine (V1.out _).mono ?_
      rintro e w4 ⟨rfl, hb4⟩
      have c4_0_0 := (hb4.cell (p := ⟨w.heap.size, 0, none⟩) z3_0).trans c3_0_0
      have c4_0_1 := (hb4.cell (p := ⟨w.heap.size, 1, none⟩) z3_0).trans c3_0_1
      have c4_1_0 := (hb4.cell (p := ⟨w.heap.size + 1, 0, none⟩) z3_1).trans c3_1_0
      have c4_1_1 := (hb4.cell (p := ⟨w.heap.size + 1, 1, none⟩) z3_1).trans c3_1_1
      have c4_2_0 := (hb4.cell (p := ⟨w2.heap.size, 0, none⟩) z3_2).trans c3_2_0
      have c4_2_1 := (hb4.cell (p := ⟨w2.heap.size, 1, none⟩) z3_2).trans c3_2_1
      have c4_2_2 := (hb4.cell (p := ⟨w2.heap.size, 2, none⟩) z3_2).trans c3_2_2
      have c4_2_3 := (hb4.cell (p := ⟨w2.heap.size, 3, none⟩) z3_2).trans c3_2_3
      have z4_0 : w.heap.size < w4.heap.size := Nat.lt_of_lt_of_le z3_0 hb4.size
      have z4_1 : w.heap.size + 1 < w4.heap.size := Nat.lt_of_lt_of_le z3_1 hb4.size
      have z4_2 : w2.heap.size < w4.heap.size := Nat.lt_of_lt_of_le z3_2 hb4.size
      have hw4 := Lib.hid (hw3.out.trans (hb4.mono hw3.out.size))
      clear hb4 hw3 c3_0_0 c3_0_1 c3_1_0 c3_1_1 c3_2_0 c3_2_1 c3_2_2 c3_2_3 z3_0 z3_1 z3_2
      go_wp2_with fail
      refine (B1.out _).mono ?_
      rintro e w5 ⟨rfl, hb5⟩
      have c5_0_0 := (hb5.cell (p := ⟨w.heap.size, 0, none⟩) z4_0).trans c4_0_0
      have c5_0_1 := (hb5.cell (p := ⟨w.heap.size, 1, none⟩) z4_0).trans c4_0_1
      have c5_1_0 := (hb5.cell (p := ⟨w.heap.size + 1, 0, none⟩) z4_1).trans c4_1_0
      have c5_1_1 := (hb5.cell (p := ⟨w.heap.size + 1, 1, none⟩) z4_1).trans c4_1_1
      have c5_2_0 := (hb5.cell (p := ⟨w2.heap.size, 0, none⟩) z4_2).trans c4_2_0
      have c5_2_1 := (hb5.cell (p := ⟨w2.heap.size, 1, none⟩) z4_2).trans c4_2_1
      have c5_2_2 := (hb5.cell (p := ⟨w2.heap.size, 2, none⟩) z4_2).trans c4_2_2
      have c5_2_3 := (hb5.cell (p := ⟨w2.heap.size, 3, none⟩) z4_2).trans c4_2_3
      have z5_0 : w.heap.size < w5.heap.size := Nat.lt_of_lt_of_le z4_0 hb5.size
      have z5_1 : w.heap.size + 1 < w5.heap.size := Nat.lt_of_lt_of_le z4_1 hb5.size
      have z5_2 : w2.heap.size < w5.heap.size := Nat.lt_of_lt_of_le z4_2 hb5.size
      have hw5 := Lib.hid (hw4.out.trans (hb5.mono hw4.out.size))
      clear hb5 hw4 c4_0_0 c4_0_1 c4_1_0 c4_1_1 c4_2_0 c4_2_1 c4_2_2 c4_2_3 z4_0 z4_1 z4_2
      go_wp2_with fail
      refine (N1.out _).mono ?_
      rintro e w6 ⟨rfl, hb6⟩
      have c6_0_0 := (hb6.cell (p := ⟨w.heap.size, 0, none⟩) z5_0).trans c5_0_0
      have c6_0_1 := (hb6.cell (p := ⟨w.heap.size, 1, none⟩) z5_0).trans c5_0_1
      have c6_1_0 := (hb6.cell (p := ⟨w.heap.size + 1, 0, none⟩) z5_1).trans c5_1_0
      have c6_1_1 := (hb6.cell (p := ⟨w.heap.size + 1, 1, none⟩) z5_1).trans c5_1_1
      have c6_2_0 := (hb6.cell (p := ⟨w2.heap.size, 0, none⟩) z5_2).trans c5_2_0
      have c6_2_1 := (hb6.cell (p := ⟨w2.heap.size, 1, none⟩) z5_2).trans c5_2_1
      have c6_2_2 := (hb6.cell (p := ⟨w2.heap.size, 2, none⟩) z5_2).trans c5_2_2
      have c6_2_3 := (hb6.cell (p := ⟨w2.heap.size, 3, none⟩) z5_2).trans c5_2_3
      have z6_0 : w.heap.size < w6.heap.size := Nat.lt_of_lt_of_le z5_0 hb6.size
      have z6_1 : w.heap.size + 1 < w6.heap.size := Nat.lt_of_lt_of_le z5_1 hb6.size
      have z6_2 : w2.heap.size < w6.heap.size := Nat.lt_of_lt_of_le z5_2 hb6.size
      have hw6 := Lib.hid (hw5.out.trans (hb6.mono hw5.out.size))
      clear hb6 hw5 c5_0_0 c5_0_1 c5_1_0 c5_1_1 c5_2_0 c5_2_1 c5_2_2 c5_2_3 z5_0 z5_1 z5_2
      go_wp2_with fail
      refine (V2.out _).mono ?_
      rintro e w7 ⟨rfl, hb7⟩
      have c7_0_0 := (hb7.cell (p := ⟨w.heap.size, 0, none⟩) z6_0).trans c6_0_0
      have c7_0_1 := (hb7.cell (p := ⟨w.heap.size, 1, none⟩) z6_0).trans c6_0_1
      have c7_1_0 := (hb7.cell (p := ⟨w.heap.size + 1, 0, none⟩) z6_1).trans c6_1_0
      have c7_1_1 := (hb7.cell (p := ⟨w.heap.size + 1, 1, none⟩) z6_1).trans c6_1_1
      have c7_2_0 := (hb7.cell (p := ⟨w2.heap.size, 0, none⟩) z6_2).trans c6_2_0
      have c7_2_1 := (hb7.cell (p := ⟨w2.heap.size, 1, none⟩) z6_2).trans c6_2_1
      have c7_2_2 := (hb7.cell (p := ⟨w2.heap.size, 2, none⟩) z6_2).trans c6_2_2
      have c7_2_3 := (hb7.cell (p := ⟨w2.heap.size, 3, none⟩) z6_2).trans c6_2_3
      have z7_0 : w.heap.size < w7.heap.size := Nat.lt_of_lt_of_le z6_0 hb7.size
      have z7_1 : w.heap.size + 1 < w7.heap.size := Nat.lt_of_lt_of_le z6_1 hb7.size
      have z7_2 : w2.heap.size < w7.heap.size := Nat.lt_of_lt_of_le z6_2 hb7.size
      have hw7 := Lib.hid (hw6.out.trans (hb7.mono hw6.out.size))
      clear hb7 hw6 c6_0_0 c6_0_1 c6_1_0 c6_1_1 c6_2_0 c6_2_1 c6_2_2 c6_2_3 z6_0 z6_1 z6_2
      go_wp2_with fail
      refine (N2.out _).mono ?_
      rintro e w8 ⟨rfl, hb8⟩
      have c8_0_0 := (hb8.cell (p := ⟨w.heap.size, 0, none⟩) z7_0).trans c7_0_0
      have c8_0_1 := (hb8.cell (p := ⟨w.heap.size, 1, none⟩) z7_0).trans c7_0_1
      have c8_1_0 := (hb8.cell (p := ⟨w.heap.size + 1, 0, none⟩) z7_1).trans c7_1_0
      have c8_1_1 := (hb8.cell (p := ⟨w.heap.size + 1, 1, none⟩) z7_1).trans c7_1_1
      have c8_2_0 := (hb8.cell (p := ⟨w2.heap.size, 0, none⟩) z7_2).trans c7_2_0
      have c8_2_1 := (hb8.cell (p := ⟨w2.heap.size, 1, none⟩) z7_2).trans c7_2_1
      have c8_2_2 := (hb8.cell (p := ⟨w2.heap.size, 2, none⟩) z7_2).trans c7_2_2
      have c8_2_3 := (hb8.cell (p := ⟨w2.heap.size, 3, none⟩) z7_2).trans c7_2_3
      have z8_0 : w.heap.size < w8.heap.size := Nat.lt_of_lt_of_le z7_0 hb8.size
      have z8_1 : w.heap.size + 1 < w8.heap.size := Nat.lt_of_lt_of_le z7_1 hb8.size
      have z8_2 : w2.heap.size < w8.heap.size := Nat.lt_of_lt_of_le z7_2 hb8.size
      have hw8 := Lib.hid (hw7.out.trans (hb8.mono hw7.out.size))
      clear hb8 hw7 c7_0_0 c7_0_1 c7_1_0 c7_1_1 c7_2_0 c7_2_1 c7_2_2 c7_2_3 z7_0 z7_1 z7_2
      go_wp2
      go_ret
      exact ⟨rfl, hw8.out⟩
    | true =>
      obtain ⟨u1, u2, u3, u4⟩ := vldW_iff.1 hu
      rw [hu] at N2 V2
      clear hu
      cases k3 : decide (max (y - x) (x - y) ≤ r) with
      | false =>
        rw [k3] at N2
        simp only [Bool.true_and, Bool.false_and] at N2
        go_enter Tryd.func9, Tryd.ntmps9
        go_wp2_with fail
        have c0_0_0 : ((w.alloc (.cells #[.int .i64 x, .int .i64 n] 23)).alloc (.cells #[.int .i64 y, .int .i64 m] 23)).cell? ⟨w.heap.size, 0, none⟩ = some (.int .i64 x) := (((Below.refl (w.heap.size + 1) (w.alloc (.cells #[.int .i64 x, .int .i64 n] 23))).alloc (by simp; try omega) (.cells #[.int .i64 y, .int .i64 m] 23)).cell (p := ⟨w.heap.size, 0, none⟩) (by simp; try omega)).trans (by rw [World.cell?_alloc_at _ _ _ _ (by simp)]; rfl)
        have c0_0_1 : ((w.alloc (.cells #[.int .i64 x, .int .i64 n] 23)).alloc (.cells #[.int .i64 y, .int .i64 m] 23)).cell? ⟨w.heap.size, 1, none⟩ = some (.int .i64 n) := (((Below.refl (w.heap.size + 1) (w.alloc (.cells #[.int .i64 x, .int .i64 n] 23))).alloc (by simp; try omega) (.cells #[.int .i64 y, .int .i64 m] 23)).cell (p := ⟨w.heap.size, 1, none⟩) (by simp; try omega)).trans (by rw [World.cell?_alloc_at _ _ _ _ (by simp)]; rfl)
        have c0_1_0 : ((w.alloc (.cells #[.int .i64 x, .int .i64 n] 23)).alloc (.cells #[.int .i64 y, .int .i64 m] 23)).cell? ⟨w.heap.size + 1, 0, none⟩ = some (.int .i64 y) := by rw [World.cell?_alloc_at _ _ _ _ (by simp)]; rfl
        have c0_1_1 : ((w.alloc (.cells #[.int .i64 x, .int .i64 n] 23)).alloc (.cells #[.int .i64 y, .int .i64 m] 23)).cell? ⟨w.heap.size + 1, 1, none⟩ = some (.int .i64 m) := by rw [World.cell?_alloc_at _ _ _ _ (by simp)]; rfl
        have z0_0 : w.heap.size < ((w.alloc (.cells #[.int .i64 x, .int .i64 n] 23)).alloc (.cells #[.int .i64 y, .int .i64 m] 23)).heap.size := by simp; try omega
        have z0_1 : w.heap.size + 1 < ((w.alloc (.cells #[.int .i64 x, .int .i64 n] 23)).alloc (.cells #[.int .i64 y, .int .i64 m] 23)).heap.size := by simp; try omega
        have hw0 := Lib.hid (((Below.refl w.heap.size w).alloc (by simp; try omega) (.cells #[.int .i64 x, .int .i64 n] 23)).alloc (by simp; try omega) (.cells #[.int .i64 y, .int .i64 m] 23))
        generalize hW0 : ((w.alloc (.cells #[.int .i64 x, .int .i64 n] 23)).alloc (.cells #[.int .i64 y, .int .i64 m] 23)) = w0 at *
        clear hW0
        refine (awake_any _ (HE.out.below hw0.out)).mono ?_
        rintro e w1 ⟨rfl, hb1⟩
        have c1_0_0 := (hb1.cell (p := ⟨w.heap.size, 0, none⟩) z0_0).trans c0_0_0
        have c1_0_1 := (hb1.cell (p := ⟨w.heap.size, 1, none⟩) z0_0).trans c0_0_1
        have c1_1_0 := (hb1.cell (p := ⟨w.heap.size + 1, 0, none⟩) z0_1).trans c0_1_0
        have c1_1_1 := (hb1.cell (p := ⟨w.heap.size + 1, 1, none⟩) z0_1).trans c0_1_1
        have z1_0 : w.heap.size < w1.heap.size := Nat.lt_of_lt_of_le z0_0 hb1.size
        have z1_1 : w.heap.size + 1 < w1.heap.size := Nat.lt_of_lt_of_le z0_1 hb1.size
        have hw1 := Lib.hid (hw0.out.trans (hb1.mono hw0.out.size))
        clear hb1 hw0 c0_0_0 c0_0_1 c0_1_0 c0_1_1 z0_0 z0_1
        go_wp2_with fail
        refine (R1.out _).mono ?_
        rintro e w2 ⟨rfl, hb2⟩
        have c2_0_0 := (hb2.cell (p := ⟨w.heap.size, 0, none⟩) z1_0).trans c1_0_0
        have c2_0_1 := (hb2.cell (p := ⟨w.heap.size, 1, none⟩) z1_0).trans c1_0_1
        have c2_1_0 := (hb2.cell (p := ⟨w.heap.size + 1, 0, none⟩) z1_1).trans c1_1_0
        have c2_1_1 := (hb2.cell (p := ⟨w.heap.size + 1, 1, none⟩) z1_1).trans c1_1_1
        have z2_0 : w.heap.size < w2.heap.size := Nat.lt_of_lt_of_le z1_0 hb2.size
        have z2_1 : w.heap.size + 1 < w2.heap.size := Nat.lt_of_lt_of_le z1_1 hb2.size
        have hw2 := Lib.hid (hw1.out.trans (hb2.mono hw1.out.size))
        clear hb2 hw1 c1_0_0 c1_0_1 c1_1_0 c1_1_1 z1_0 z1_1
        go_wp2_with fail
        have hb3 : Below w2.heap.size w2 (w2.alloc (.cells #[.int .i64 (max (x - r) (-400)), .int .i64 (min (x + r) 400), .int .i64 (max (n - r) (-400)), .int .i64 (min (n + r) 400)] 34)) := (Below.refl w2.heap.size w2).alloc (Nat.le_refl _) _
        have c3_0_0 := (hb3.cell (p := ⟨w.heap.size, 0, none⟩) z2_0).trans c2_0_0
        have c3_0_1 := (hb3.cell (p := ⟨w.heap.size, 1, none⟩) z2_0).trans c2_0_1
        have c3_1_0 := (hb3.cell (p := ⟨w.heap.size + 1, 0, none⟩) z2_1).trans c2_1_0
        have c3_1_1 := (hb3.cell (p := ⟨w.heap.size + 1, 1, none⟩) z2_1).trans c2_1_1
        have z3_0 : w.heap.size < (w2.alloc (.cells #[.int .i64 (max (x - r) (-400)), .int .i64 (min (x + r) 400), .int .i64 (max (n - r) (-400)), .int .i64 (min (n + r) 400)] 34)).heap.size := Nat.lt_of_lt_of_le z2_0 hb3.size
        have z3_1 : w.heap.size + 1 < (w2.alloc (.cells #[.int .i64 (max (x - r) (-400)), .int .i64 (min (x + r) 400), .int .i64 (max (n - r) (-400)), .int .i64 (min (n + r) 400)] 34)).heap.size := Nat.lt_of_lt_of_le z2_1 hb3.size
        have c3_2_0 : (w2.alloc (.cells #[.int .i64 (max (x - r) (-400)), .int .i64 (min (x + r) 400), .int .i64 (max (n - r) (-400)), .int .i64 (min (n + r) 400)] 34)).cell? ⟨w2.heap.size, 0, none⟩ = some (.int .i64 (max (x - r) (-400))) := by rw [World.cell?_alloc_at _ _ _ _ (by simp)]; rfl
        have c3_2_1 : (w2.alloc (.cells #[.int .i64 (max (x - r) (-400)), .int .i64 (min (x + r) 400), .int .i64 (max (n - r) (-400)), .int .i64 (min (n + r) 400)] 34)).cell? ⟨w2.heap.size, 1, none⟩ = some (.int .i64 (min (x + r) 400)) := by rw [World.cell?_alloc_at _ _ _ _ (by simp)]; rfl
        have c3_2_2 : (w2.alloc (.cells #[.int .i64 (max (x - r) (-400)), .int .i64 (min (x + r) 400), .int .i64 (max (n - r) (-400)), .int .i64 (min (n + r) 400)] 34)).cell? ⟨w2.heap.size, 2, none⟩ = some (.int .i64 (max (n - r) (-400))) := by rw [World.cell?_alloc_at _ _ _ _ (by simp)]; rfl
        have c3_2_3 : (w2.alloc (.cells #[.int .i64 (max (x - r) (-400)), .int .i64 (min (x + r) 400), .int .i64 (max (n - r) (-400)), .int .i64 (min (n + r) 400)] 34)).cell? ⟨w2.heap.size, 3, none⟩ = some (.int .i64 (min (n + r) 400)) := by rw [World.cell?_alloc_at _ _ _ _ (by simp)]; rfl
        have z3_2 : w2.heap.size < (w2.alloc (.cells #[.int .i64 (max (x - r) (-400)), .int .i64 (min (x + r) 400), .int .i64 (max (n - r) (-400)), .int .i64 (min (n + r) 400)] 34)).heap.size := by simp
        have hw3 := Lib.hid (hw2.out.trans (hb3.mono hw2.out.size))
        generalize hW3 : (w2.alloc (.cells #[.int .i64 (max (x - r) (-400)), .int .i64 (min (x + r) 400), .int .i64 (max (n - r) (-400)), .int .i64 (min (n + r) 400)] 34)) = w3 at *
        clear hW3 hb3 hw2 c2_0_0 c2_0_1 c2_1_0 c2_1_1 z2_0 z2_1
        refine (V1.out _).mono ?_
        rintro e w4 ⟨rfl, hb4⟩
        have c4_0_0 := (hb4.cell (p := ⟨w.heap.size, 0, none⟩) z3_0).trans c3_0_0
        have c4_0_1 := (hb4.cell (p := ⟨w.heap.size, 1, none⟩) z3_0).trans c3_0_1
        have c4_1_0 := (hb4.cell (p := ⟨w.heap.size + 1, 0, none⟩) z3_1).trans c3_1_0
        have c4_1_1 := (hb4.cell (p := ⟨w.heap.size + 1, 1, none⟩) z3_1).trans c3_1_1
        have c4_2_0 := (hb4.cell (p := ⟨w2.heap.size, 0, none⟩) z3_2).trans c3_2_0
        have c4_2_1 := (hb4.cell (p := ⟨w2.heap.size, 1, none⟩) z3_2).trans c3_2_1
        have c4_2_2 := (hb4.cell (p := ⟨w2.heap.size, 2, none⟩) z3_2).trans c3_2_2
        have c4_2_3 := (hb4.cell (p := ⟨w2.heap.size, 3, none⟩) z3_2).trans c3_2_3
        have z4_0 : w.heap.size < w4.heap.size := Nat.lt_of_lt_of_le z3_0 hb4.size
        have z4_1 : w.heap.size + 1 < w4.heap.size := Nat.lt_of_lt_of_le z3_1 hb4.size
        have z4_2 : w2.heap.size < w4.heap.size := Nat.lt_of_lt_of_le z3_2 hb4.size
        have hw4 := Lib.hid (hw3.out.trans (hb4.mono hw3.out.size))
        clear hb4 hw3 c3_0_0 c3_0_1 c3_1_0 c3_1_1 c3_2_0 c3_2_1 c3_2_2 c3_2_3 z3_0 z3_1 z3_2
        go_wp2_with fail
        refine (B1.out _).mono ?_
        rintro e w5 ⟨rfl, hb5⟩
        have c5_0_0 := (hb5.cell (p := ⟨w.heap.size, 0, none⟩) z4_0).trans c4_0_0
        have c5_0_1 := (hb5.cell (p := ⟨w.heap.size, 1, none⟩) z4_0).trans c4_0_1
        have c5_1_0 := (hb5.cell (p := ⟨w.heap.size + 1, 0, none⟩) z4_1).trans c4_1_0
        have c5_1_1 := (hb5.cell (p := ⟨w.heap.size + 1, 1, none⟩) z4_1).trans c4_1_1
        have c5_2_0 := (hb5.cell (p := ⟨w2.heap.size, 0, none⟩) z4_2).trans c4_2_0
        have c5_2_1 := (hb5.cell (p := ⟨w2.heap.size, 1, none⟩) z4_2).trans c4_2_1
        have c5_2_2 := (hb5.cell (p := ⟨w2.heap.size, 2, none⟩) z4_2).trans c4_2_2
        have c5_2_3 := (hb5.cell (p := ⟨w2.heap.size, 3, none⟩) z4_2).trans c4_2_3
        have z5_0 : w.heap.size < w5.heap.size := Nat.lt_of_lt_of_le z4_0 hb5.size
        have z5_1 : w.heap.size + 1 < w5.heap.size := Nat.lt_of_lt_of_le z4_1 hb5.size
        have z5_2 : w2.heap.size < w5.heap.size := Nat.lt_of_lt_of_le z4_2 hb5.size
        have hw5 := Lib.hid (hw4.out.trans (hb5.mono hw4.out.size))
        clear hb5 hw4 c4_0_0 c4_0_1 c4_1_0 c4_1_1 c4_2_0 c4_2_1 c4_2_2 c4_2_3 z4_0 z4_1 z4_2
        go_wp2_with fail
        refine (N1.out _).mono ?_
        rintro e w6 ⟨rfl, hb6⟩
        have c6_0_0 := (hb6.cell (p := ⟨w.heap.size, 0, none⟩) z5_0).trans c5_0_0
        have c6_0_1 := (hb6.cell (p := ⟨w.heap.size, 1, none⟩) z5_0).trans c5_0_1
        have c6_1_0 := (hb6.cell (p := ⟨w.heap.size + 1, 0, none⟩) z5_1).trans c5_1_0
        have c6_1_1 := (hb6.cell (p := ⟨w.heap.size + 1, 1, none⟩) z5_1).trans c5_1_1
        have c6_2_0 := (hb6.cell (p := ⟨w2.heap.size, 0, none⟩) z5_2).trans c5_2_0
        have c6_2_1 := (hb6.cell (p := ⟨w2.heap.size, 1, none⟩) z5_2).trans c5_2_1
        have c6_2_2 := (hb6.cell (p := ⟨w2.heap.size, 2, none⟩) z5_2).trans c5_2_2
        have c6_2_3 := (hb6.cell (p := ⟨w2.heap.size, 3, none⟩) z5_2).trans c5_2_3
        have z6_0 : w.heap.size < w6.heap.size := Nat.lt_of_lt_of_le z5_0 hb6.size
        have z6_1 : w.heap.size + 1 < w6.heap.size := Nat.lt_of_lt_of_le z5_1 hb6.size
        have z6_2 : w2.heap.size < w6.heap.size := Nat.lt_of_lt_of_le z5_2 hb6.size
        have hw6 := Lib.hid (hw5.out.trans (hb6.mono hw5.out.size))
        clear hb6 hw5 c5_0_0 c5_0_1 c5_1_0 c5_1_1 c5_2_0 c5_2_1 c5_2_2 c5_2_3 z5_0 z5_1 z5_2
        go_wp2_with fail
        refine (V2.out _).mono ?_
        rintro e w7 ⟨rfl, hb7⟩
        have c7_0_0 := (hb7.cell (p := ⟨w.heap.size, 0, none⟩) z6_0).trans c6_0_0
        have c7_0_1 := (hb7.cell (p := ⟨w.heap.size, 1, none⟩) z6_0).trans c6_0_1
        have c7_1_0 := (hb7.cell (p := ⟨w.heap.size + 1, 0, none⟩) z6_1).trans c6_1_0
        have c7_1_1 := (hb7.cell (p := ⟨w.heap.size + 1, 1, none⟩) z6_1).trans c6_1_1
        have c7_2_0 := (hb7.cell (p := ⟨w2.heap.size, 0, none⟩) z6_2).trans c6_2_0
        have c7_2_1 := (hb7.cell (p := ⟨w2.heap.size, 1, none⟩) z6_2).trans c6_2_1
        have c7_2_2 := (hb7.cell (p := ⟨w2.heap.size, 2, none⟩) z6_2).trans c6_2_2
        have c7_2_3 := (hb7.cell (p := ⟨w2.heap.size, 3, none⟩) z6_2).trans c6_2_3
        have z7_0 : w.heap.size < w7.heap.size := Nat.lt_of_lt_of_le z6_0 hb7.size
        have z7_1 : w.heap.size + 1 < w7.heap.size := Nat.lt_of_lt_of_le z6_1 hb7.size
        have z7_2 : w2.heap.size < w7.heap.size := Nat.lt_of_lt_of_le z6_2 hb7.size
        have hw7 := Lib.hid (hw6.out.trans (hb7.mono hw6.out.size))
        clear hb7 hw6 c6_0_0 c6_0_1 c6_1_0 c6_1_1 c6_2_0 c6_2_1 c6_2_2 c6_2_3 z6_0 z6_1 z6_2
        go_wp2_with fail
        refine (N2.out _).mono ?_
        rintro e w8 ⟨rfl, hb8⟩
        have c8_0_0 := (hb8.cell (p := ⟨w.heap.size, 0, none⟩) z7_0).trans c7_0_0
        have c8_0_1 := (hb8.cell (p := ⟨w.heap.size, 1, none⟩) z7_0).trans c7_0_1
        have c8_1_0 := (hb8.cell (p := ⟨w.heap.size + 1, 0, none⟩) z7_1).trans c7_1_0
        have c8_1_1 := (hb8.cell (p := ⟨w.heap.size + 1, 1, none⟩) z7_1).trans c7_1_1
        have c8_2_0 := (hb8.cell (p := ⟨w2.heap.size, 0, none⟩) z7_2).trans c7_2_0
        have c8_2_1 := (hb8.cell (p := ⟨w2.heap.size, 1, none⟩) z7_2).trans c7_2_1
        have c8_2_2 := (hb8.cell (p := ⟨w2.heap.size, 2, none⟩) z7_2).trans c7_2_2
        have c8_2_3 := (hb8.cell (p := ⟨w2.heap.size, 3, none⟩) z7_2).trans c7_2_3
        have z8_0 : w.heap.size < w8.heap.size := Nat.lt_of_lt_of_le z7_0 hb8.size
        have z8_1 : w.heap.size + 1 < w8.heap.size := Nat.lt_of_lt_of_le z7_1 hb8.size
        have z8_2 : w2.heap.size < w8.heap.size := Nat.lt_of_lt_of_le z7_2 hb8.size
        have hw8 := Lib.hid (hw7.out.trans (hb8.mono hw7.out.size))
        clear hb8 hw7 c7_0_0 c7_0_1 c7_1_0 c7_1_1 c7_2_0 c7_2_1 c7_2_2 c7_2_3 z7_0 z7_1 z7_2
        go_wp2
        go_ret
        exact ⟨rfl, hw8.out⟩
      | true =>
        rw [k3] at N2
        cases k4 : decide (max (m - n) (n - m) ≤ r) with
        | false =>
          rw [k4] at N2
          simp only [Bool.true_and] at N2
          go_enter Tryd.func9, Tryd.ntmps9
          go_wp2_with fail
          have c0_0_0 : ((w.alloc (.cells #[.int .i64 x, .int .i64 n] 23)).alloc (.cells #[.int .i64 y, .int .i64 m] 23)).cell? ⟨w.heap.size, 0, none⟩ = some (.int .i64 x) := (((Below.refl (w.heap.size + 1) (w.alloc (.cells #[.int .i64 x, .int .i64 n] 23))).alloc (by simp; try omega) (.cells #[.int .i64 y, .int .i64 m] 23)).cell (p := ⟨w.heap.size, 0, none⟩) (by simp; try omega)).trans (by rw [World.cell?_alloc_at _ _ _ _ (by simp)]; rfl)
          have c0_0_1 : ((w.alloc (.cells #[.int .i64 x, .int .i64 n] 23)).alloc (.cells #[.int .i64 y, .int .i64 m] 23)).cell? ⟨w.heap.size, 1, none⟩ = some (.int .i64 n) := (((Below.refl (w.heap.size + 1) (w.alloc (.cells #[.int .i64 x, .int .i64 n] 23))).alloc (by simp; try omega) (.cells #[.int .i64 y, .int .i64 m] 23)).cell (p := ⟨w.heap.size, 1, none⟩) (by simp; try omega)).trans (by rw [World.cell?_alloc_at _ _ _ _ (by simp)]; rfl)
          have c0_1_0 : ((w.alloc (.cells #[.int .i64 x, .int .i64 n] 23)).alloc (.cells #[.int .i64 y, .int .i64 m] 23)).cell? ⟨w.heap.size + 1, 0, none⟩ = some (.int .i64 y) := by rw [World.cell?_alloc_at _ _ _ _ (by simp)]; rfl
          have c0_1_1 : ((w.alloc (.cells #[.int .i64 x, .int .i64 n] 23)).alloc (.cells #[.int .i64 y, .int .i64 m] 23)).cell? ⟨w.heap.size + 1, 1, none⟩ = some (.int .i64 m) := by rw [World.cell?_alloc_at _ _ _ _ (by simp)]; rfl
          have z0_0 : w.heap.size < ((w.alloc (.cells #[.int .i64 x, .int .i64 n] 23)).alloc (.cells #[.int .i64 y, .int .i64 m] 23)).heap.size := by simp; try omega
          have z0_1 : w.heap.size + 1 < ((w.alloc (.cells #[.int .i64 x, .int .i64 n] 23)).alloc (.cells #[.int .i64 y, .int .i64 m] 23)).heap.size := by simp; try omega
          have hw0 := Lib.hid (((Below.refl w.heap.size w).alloc (by simp; try omega) (.cells #[.int .i64 x, .int .i64 n] 23)).alloc (by simp; try omega) (.cells #[.int .i64 y, .int .i64 m] 23))
          generalize hW0 : ((w.alloc (.cells #[.int .i64 x, .int .i64 n] 23)).alloc (.cells #[.int .i64 y, .int .i64 m] 23)) = w0 at *
          clear hW0
          refine (awake_any _ (HE.out.below hw0.out)).mono ?_
          rintro e w1 ⟨rfl, hb1⟩
          have c1_0_0 := (hb1.cell (p := ⟨w.heap.size, 0, none⟩) z0_0).trans c0_0_0
          have c1_0_1 := (hb1.cell (p := ⟨w.heap.size, 1, none⟩) z0_0).trans c0_0_1
          have c1_1_0 := (hb1.cell (p := ⟨w.heap.size + 1, 0, none⟩) z0_1).trans c0_1_0
          have c1_1_1 := (hb1.cell (p := ⟨w.heap.size + 1, 1, none⟩) z0_1).trans c0_1_1
          have z1_0 : w.heap.size < w1.heap.size := Nat.lt_of_lt_of_le z0_0 hb1.size
          have z1_1 : w.heap.size + 1 < w1.heap.size := Nat.lt_of_lt_of_le z0_1 hb1.size
          have hw1 := Lib.hid (hw0.out.trans (hb1.mono hw0.out.size))
          clear hb1 hw0 c0_0_0 c0_0_1 c0_1_0 c0_1_1 z0_0 z0_1
          go_wp2_with fail
          refine (R1.out _).mono ?_
          rintro e w2 ⟨rfl, hb2⟩
          have c2_0_0 := (hb2.cell (p := ⟨w.heap.size, 0, none⟩) z1_0).trans c1_0_0
          have c2_0_1 := (hb2.cell (p := ⟨w.heap.size, 1, none⟩) z1_0).trans c1_0_1
          have c2_1_0 := (hb2.cell (p := ⟨w.heap.size + 1, 0, none⟩) z1_1).trans c1_1_0
          have c2_1_1 := (hb2.cell (p := ⟨w.heap.size + 1, 1, none⟩) z1_1).trans c1_1_1
          have z2_0 : w.heap.size < w2.heap.size := Nat.lt_of_lt_of_le z1_0 hb2.size
          have z2_1 : w.heap.size + 1 < w2.heap.size := Nat.lt_of_lt_of_le z1_1 hb2.size
          have hw2 := Lib.hid (hw1.out.trans (hb2.mono hw1.out.size))
          clear hb2 hw1 c1_0_0 c1_0_1 c1_1_0 c1_1_1 z1_0 z1_1
          go_wp2_with fail
          have hb3 : Below w2.heap.size w2 (w2.alloc (.cells #[.int .i64 (max (x - r) (-400)), .int .i64 (min (x + r) 400), .int .i64 (max (n - r) (-400)), .int .i64 (min (n + r) 400)] 34)) := (Below.refl w2.heap.size w2).alloc (Nat.le_refl _) _
          have c3_0_0 := (hb3.cell (p := ⟨w.heap.size, 0, none⟩) z2_0).trans c2_0_0
          have c3_0_1 := (hb3.cell (p := ⟨w.heap.size, 1, none⟩) z2_0).trans c2_0_1
          have c3_1_0 := (hb3.cell (p := ⟨w.heap.size + 1, 0, none⟩) z2_1).trans c2_1_0
          have c3_1_1 := (hb3.cell (p := ⟨w.heap.size + 1, 1, none⟩) z2_1).trans c2_1_1
          have z3_0 : w.heap.size < (w2.alloc (.cells #[.int .i64 (max (x - r) (-400)), .int .i64 (min (x + r) 400), .int .i64 (max (n - r) (-400)), .int .i64 (min (n + r) 400)] 34)).heap.size := Nat.lt_of_lt_of_le z2_0 hb3.size
          have z3_1 : w.heap.size + 1 < (w2.alloc (.cells #[.int .i64 (max (x - r) (-400)), .int .i64 (min (x + r) 400), .int .i64 (max (n - r) (-400)), .int .i64 (min (n + r) 400)] 34)).heap.size := Nat.lt_of_lt_of_le z2_1 hb3.size
          have c3_2_0 : (w2.alloc (.cells #[.int .i64 (max (x - r) (-400)), .int .i64 (min (x + r) 400), .int .i64 (max (n - r) (-400)), .int .i64 (min (n + r) 400)] 34)).cell? ⟨w2.heap.size, 0, none⟩ = some (.int .i64 (max (x - r) (-400))) := by rw [World.cell?_alloc_at _ _ _ _ (by simp)]; rfl
          have c3_2_1 : (w2.alloc (.cells #[.int .i64 (max (x - r) (-400)), .int .i64 (min (x + r) 400), .int .i64 (max (n - r) (-400)), .int .i64 (min (n + r) 400)] 34)).cell? ⟨w2.heap.size, 1, none⟩ = some (.int .i64 (min (x + r) 400)) := by rw [World.cell?_alloc_at _ _ _ _ (by simp)]; rfl
          have c3_2_2 : (w2.alloc (.cells #[.int .i64 (max (x - r) (-400)), .int .i64 (min (x + r) 400), .int .i64 (max (n - r) (-400)), .int .i64 (min (n + r) 400)] 34)).cell? ⟨w2.heap.size, 2, none⟩ = some (.int .i64 (max (n - r) (-400))) := by rw [World.cell?_alloc_at _ _ _ _ (by simp)]; rfl
          have c3_2_3 : (w2.alloc (.cells #[.int .i64 (max (x - r) (-400)), .int .i64 (min (x + r) 400), .int .i64 (max (n - r) (-400)), .int .i64 (min (n + r) 400)] 34)).cell? ⟨w2.heap.size, 3, none⟩ = some (.int .i64 (min (n + r) 400)) := by rw [World.cell?_alloc_at _ _ _ _ (by simp)]; rfl
          have z3_2 : w2.heap.size < (w2.alloc (.cells #[.int .i64 (max (x - r) (-400)), .int .i64 (min (x + r) 400), .int .i64 (max (n - r) (-400)), .int .i64 (min (n + r) 400)] 34)).heap.size := by simp
          have hw3 := Lib.hid (hw2.out.trans (hb3.mono hw2.out.size))
          generalize hW3 : (w2.alloc (.cells #[.int .i64 (max (x - r) (-400)), .int .i64 (min (x + r) 400), .int .i64 (max (n - r) (-400)), .int .i64 (min (n + r) 400)] 34)) = w3 at *
          clear hW3 hb3 hw2 c2_0_0 c2_0_1 c2_1_0 c2_1_1 z2_0 z2_1
          refine (V1.out _).mono ?_
          rintro e w4 ⟨rfl, hb4⟩
          have c4_0_0 := (hb4.cell (p := ⟨w.heap.size, 0, none⟩) z3_0).trans c3_0_0
          have c4_0_1 := (hb4.cell (p := ⟨w.heap.size, 1, none⟩) z3_0).trans c3_0_1
          have c4_1_0 := (hb4.cell (p := ⟨w.heap.size + 1, 0, none⟩) z3_1).trans c3_1_0
          have c4_1_1 := (hb4.cell (p := ⟨w.heap.size + 1, 1, none⟩) z3_1).trans c3_1_1
          have c4_2_0 := (hb4.cell (p := ⟨w2.heap.size, 0, none⟩) z3_2).trans c3_2_0
          have c4_2_1 := (hb4.cell (p := ⟨w2.heap.size, 1, none⟩) z3_2).trans c3_2_1
          have c4_2_2 := (hb4.cell (p := ⟨w2.heap.size, 2, none⟩) z3_2).trans c3_2_2
          have c4_2_3 := (hb4.cell (p := ⟨w2.heap.size, 3, none⟩) z3_2).trans c3_2_3
          have z4_0 : w.heap.size < w4.heap.size := Nat.lt_of_lt_of_le z3_0 hb4.size
          have z4_1 : w.heap.size + 1 < w4.heap.size := Nat.lt_of_lt_of_le z3_1 hb4.size
          have z4_2 : w2.heap.size < w4.heap.size := Nat.lt_of_lt_of_le z3_2 hb4.size
          have hw4 := Lib.hid (hw3.out.trans (hb4.mono hw3.out.size))
          clear hb4 hw3 c3_0_0 c3_0_1 c3_1_0 c3_1_1 c3_2_0 c3_2_1 c3_2_2 c3_2_3 z3_0 z3_1 z3_2
          go_wp2_with fail
          refine (B1.out _).mono ?_
          rintro e w5 ⟨rfl, hb5⟩
          have c5_0_0 := (hb5.cell (p := ⟨w.heap.size, 0, none⟩) z4_0).trans c4_0_0
          have c5_0_1 := (hb5.cell (p := ⟨w.heap.size, 1, none⟩) z4_0).trans c4_0_1
          have c5_1_0 := (hb5.cell (p := ⟨w.heap.size + 1, 0, none⟩) z4_1).trans c4_1_0
          have c5_1_1 := (hb5.cell (p := ⟨w.heap.size + 1, 1, none⟩) z4_1).trans c4_1_1
          have c5_2_0 := (hb5.cell (p := ⟨w2.heap.size, 0, none⟩) z4_2).trans c4_2_0
          have c5_2_1 := (hb5.cell (p := ⟨w2.heap.size, 1, none⟩) z4_2).trans c4_2_1
          have c5_2_2 := (hb5.cell (p := ⟨w2.heap.size, 2, none⟩) z4_2).trans c4_2_2
          have c5_2_3 := (hb5.cell (p := ⟨w2.heap.size, 3, none⟩) z4_2).trans c4_2_3
          have z5_0 : w.heap.size < w5.heap.size := Nat.lt_of_lt_of_le z4_0 hb5.size
          have z5_1 : w.heap.size + 1 < w5.heap.size := Nat.lt_of_lt_of_le z4_1 hb5.size
          have z5_2 : w2.heap.size < w5.heap.size := Nat.lt_of_lt_of_le z4_2 hb5.size
          have hw5 := Lib.hid (hw4.out.trans (hb5.mono hw4.out.size))
          clear hb5 hw4 c4_0_0 c4_0_1 c4_1_0 c4_1_1 c4_2_0 c4_2_1 c4_2_2 c4_2_3 z4_0 z4_1 z4_2
          go_wp2_with fail
          refine (N1.out _).mono ?_
          rintro e w6 ⟨rfl, hb6⟩
          have c6_0_0 := (hb6.cell (p := ⟨w.heap.size, 0, none⟩) z5_0).trans c5_0_0
          have c6_0_1 := (hb6.cell (p := ⟨w.heap.size, 1, none⟩) z5_0).trans c5_0_1
          have c6_1_0 := (hb6.cell (p := ⟨w.heap.size + 1, 0, none⟩) z5_1).trans c5_1_0
          have c6_1_1 := (hb6.cell (p := ⟨w.heap.size + 1, 1, none⟩) z5_1).trans c5_1_1
          have c6_2_0 := (hb6.cell (p := ⟨w2.heap.size, 0, none⟩) z5_2).trans c5_2_0
          have c6_2_1 := (hb6.cell (p := ⟨w2.heap.size, 1, none⟩) z5_2).trans c5_2_1
          have c6_2_2 := (hb6.cell (p := ⟨w2.heap.size, 2, none⟩) z5_2).trans c5_2_2
          have c6_2_3 := (hb6.cell (p := ⟨w2.heap.size, 3, none⟩) z5_2).trans c5_2_3
          have z6_0 : w.heap.size < w6.heap.size := Nat.lt_of_lt_of_le z5_0 hb6.size
          have z6_1 : w.heap.size + 1 < w6.heap.size := Nat.lt_of_lt_of_le z5_1 hb6.size
          have z6_2 : w2.heap.size < w6.heap.size := Nat.lt_of_lt_of_le z5_2 hb6.size
          have hw6 := Lib.hid (hw5.out.trans (hb6.mono hw5.out.size))
          clear hb6 hw5 c5_0_0 c5_0_1 c5_1_0 c5_1_1 c5_2_0 c5_2_1 c5_2_2 c5_2_3 z5_0 z5_1 z5_2
          go_wp2_with fail
          refine (V2.out _).mono ?_
          rintro e w7 ⟨rfl, hb7⟩
          have c7_0_0 := (hb7.cell (p := ⟨w.heap.size, 0, none⟩) z6_0).trans c6_0_0
          have c7_0_1 := (hb7.cell (p := ⟨w.heap.size, 1, none⟩) z6_0).trans c6_0_1
          have c7_1_0 := (hb7.cell (p := ⟨w.heap.size + 1, 0, none⟩) z6_1).trans c6_1_0
          have c7_1_1 := (hb7.cell (p := ⟨w.heap.size + 1, 1, none⟩) z6_1).trans c6_1_1
          have c7_2_0 := (hb7.cell (p := ⟨w2.heap.size, 0, none⟩) z6_2).trans c6_2_0
          have c7_2_1 := (hb7.cell (p := ⟨w2.heap.size, 1, none⟩) z6_2).trans c6_2_1
          have c7_2_2 := (hb7.cell (p := ⟨w2.heap.size, 2, none⟩) z6_2).trans c6_2_2
          have c7_2_3 := (hb7.cell (p := ⟨w2.heap.size, 3, none⟩) z6_2).trans c6_2_3
          have z7_0 : w.heap.size < w7.heap.size := Nat.lt_of_lt_of_le z6_0 hb7.size
          have z7_1 : w.heap.size + 1 < w7.heap.size := Nat.lt_of_lt_of_le z6_1 hb7.size
          have z7_2 : w2.heap.size < w7.heap.size := Nat.lt_of_lt_of_le z6_2 hb7.size
          have hw7 := Lib.hid (hw6.out.trans (hb7.mono hw6.out.size))
          clear hb7 hw6 c6_0_0 c6_0_1 c6_1_0 c6_1_1 c6_2_0 c6_2_1 c6_2_2 c6_2_3 z6_0 z6_1 z6_2
          go_wp2_with fail
          refine (N2.out _).mono ?_
          rintro e w8 ⟨rfl, hb8⟩
          have c8_0_0 := (hb8.cell (p := ⟨w.heap.size, 0, none⟩) z7_0).trans c7_0_0
          have c8_0_1 := (hb8.cell (p := ⟨w.heap.size, 1, none⟩) z7_0).trans c7_0_1
          have c8_1_0 := (hb8.cell (p := ⟨w.heap.size + 1, 0, none⟩) z7_1).trans c7_1_0
          have c8_1_1 := (hb8.cell (p := ⟨w.heap.size + 1, 1, none⟩) z7_1).trans c7_1_1
          have c8_2_0 := (hb8.cell (p := ⟨w2.heap.size, 0, none⟩) z7_2).trans c7_2_0
          have c8_2_1 := (hb8.cell (p := ⟨w2.heap.size, 1, none⟩) z7_2).trans c7_2_1
          have c8_2_2 := (hb8.cell (p := ⟨w2.heap.size, 2, none⟩) z7_2).trans c7_2_2
          have c8_2_3 := (hb8.cell (p := ⟨w2.heap.size, 3, none⟩) z7_2).trans c7_2_3
          have z8_0 : w.heap.size < w8.heap.size := Nat.lt_of_lt_of_le z7_0 hb8.size
          have z8_1 : w.heap.size + 1 < w8.heap.size := Nat.lt_of_lt_of_le z7_1 hb8.size
          have z8_2 : w2.heap.size < w8.heap.size := Nat.lt_of_lt_of_le z7_2 hb8.size
          have hw8 := Lib.hid (hw7.out.trans (hb8.mono hw7.out.size))
          clear hb8 hw7 c7_0_0 c7_0_1 c7_1_0 c7_1_1 c7_2_0 c7_2_1 c7_2_2 c7_2_3 z7_0 z7_1 z7_2
          go_wp2
          go_ret
          exact ⟨rfl, hw8.out⟩
        | true =>
          rw [k4] at N2
          simp only [Bool.true_and] at N2
          go_enter Tryd.func9, Tryd.ntmps9
          go_wp2_with fail
          have c0_0_0 : ((w.alloc (.cells #[.int .i64 x, .int .i64 n] 23)).alloc (.cells #[.int .i64 y, .int .i64 m] 23)).cell? ⟨w.heap.size, 0, none⟩ = some (.int .i64 x) := (((Below.refl (w.heap.size + 1) (w.alloc (.cells #[.int .i64 x, .int .i64 n] 23))).alloc (by simp; try omega) (.cells #[.int .i64 y, .int .i64 m] 23)).cell (p := ⟨w.heap.size, 0, none⟩) (by simp; try omega)).trans (by rw [World.cell?_alloc_at _ _ _ _ (by simp)]; rfl)
          have c0_0_1 : ((w.alloc (.cells #[.int .i64 x, .int .i64 n] 23)).alloc (.cells #[.int .i64 y, .int .i64 m] 23)).cell? ⟨w.heap.size, 1, none⟩ = some (.int .i64 n) := (((Below.refl (w.heap.size + 1) (w.alloc (.cells #[.int .i64 x, .int .i64 n] 23))).alloc (by simp; try omega) (.cells #[.int .i64 y, .int .i64 m] 23)).cell (p := ⟨w.heap.size, 1, none⟩) (by simp; try omega)).trans (by rw [World.cell?_alloc_at _ _ _ _ (by simp)]; rfl)
          have c0_1_0 : ((w.alloc (.cells #[.int .i64 x, .int .i64 n] 23)).alloc (.cells #[.int .i64 y, .int .i64 m] 23)).cell? ⟨w.heap.size + 1, 0, none⟩ = some (.int .i64 y) := by rw [World.cell?_alloc_at _ _ _ _ (by simp)]; rfl
          have c0_1_1 : ((w.alloc (.cells #[.int .i64 x, .int .i64 n] 23)).alloc (.cells #[.int .i64 y, .int .i64 m] 23)).cell? ⟨w.heap.size + 1, 1, none⟩ = some (.int .i64 m) := by rw [World.cell?_alloc_at _ _ _ _ (by simp)]; rfl
          have z0_0 : w.heap.size < ((w.alloc (.cells #[.int .i64 x, .int .i64 n] 23)).alloc (.cells #[.int .i64 y, .int .i64 m] 23)).heap.size := by simp; try omega
          have z0_1 : w.heap.size + 1 < ((w.alloc (.cells #[.int .i64 x, .int .i64 n] 23)).alloc (.cells #[.int .i64 y, .int .i64 m] 23)).heap.size := by simp; try omega
          have hw0 := Lib.hid (((Below.refl w.heap.size w).alloc (by simp; try omega) (.cells #[.int .i64 x, .int .i64 n] 23)).alloc (by simp; try omega) (.cells #[.int .i64 y, .int .i64 m] 23))
          generalize hW0 : ((w.alloc (.cells #[.int .i64 x, .int .i64 n] 23)).alloc (.cells #[.int .i64 y, .int .i64 m] 23)) = w0 at *
          clear hW0
          refine (awake_any _ (HE.out.below hw0.out)).mono ?_
          rintro e w1 ⟨rfl, hb1⟩
          have c1_0_0 := (hb1.cell (p := ⟨w.heap.size, 0, none⟩) z0_0).trans c0_0_0
          have c1_0_1 := (hb1.cell (p := ⟨w.heap.size, 1, none⟩) z0_0).trans c0_0_1
          have c1_1_0 := (hb1.cell (p := ⟨w.heap.size + 1, 0, none⟩) z0_1).trans c0_1_0
          have c1_1_1 := (hb1.cell (p := ⟨w.heap.size + 1, 1, none⟩) z0_1).trans c0_1_1
          have z1_0 : w.heap.size < w1.heap.size := Nat.lt_of_lt_of_le z0_0 hb1.size
          have z1_1 : w.heap.size + 1 < w1.heap.size := Nat.lt_of_lt_of_le z0_1 hb1.size
          have hw1 := Lib.hid (hw0.out.trans (hb1.mono hw0.out.size))
          clear hb1 hw0 c0_0_0 c0_0_1 c0_1_0 c0_1_1 z0_0 z0_1
          go_wp2_with fail
          refine (R1.out _).mono ?_
          rintro e w2 ⟨rfl, hb2⟩
          have c2_0_0 := (hb2.cell (p := ⟨w.heap.size, 0, none⟩) z1_0).trans c1_0_0
          have c2_0_1 := (hb2.cell (p := ⟨w.heap.size, 1, none⟩) z1_0).trans c1_0_1
          have c2_1_0 := (hb2.cell (p := ⟨w.heap.size + 1, 0, none⟩) z1_1).trans c1_1_0
          have c2_1_1 := (hb2.cell (p := ⟨w.heap.size + 1, 1, none⟩) z1_1).trans c1_1_1
          have z2_0 : w.heap.size < w2.heap.size := Nat.lt_of_lt_of_le z1_0 hb2.size
          have z2_1 : w.heap.size + 1 < w2.heap.size := Nat.lt_of_lt_of_le z1_1 hb2.size
          have hw2 := Lib.hid (hw1.out.trans (hb2.mono hw1.out.size))
          clear hb2 hw1 c1_0_0 c1_0_1 c1_1_0 c1_1_1 z1_0 z1_1
          go_wp2_with fail
          have hb3 : Below w2.heap.size w2 (w2.alloc (.cells #[.int .i64 (max (x - r) (-400)), .int .i64 (min (x + r) 400), .int .i64 (max (n - r) (-400)), .int .i64 (min (n + r) 400)] 34)) := (Below.refl w2.heap.size w2).alloc (Nat.le_refl _) _
          have c3_0_0 := (hb3.cell (p := ⟨w.heap.size, 0, none⟩) z2_0).trans c2_0_0
          have c3_0_1 := (hb3.cell (p := ⟨w.heap.size, 1, none⟩) z2_0).trans c2_0_1
          have c3_1_0 := (hb3.cell (p := ⟨w.heap.size + 1, 0, none⟩) z2_1).trans c2_1_0
          have c3_1_1 := (hb3.cell (p := ⟨w.heap.size + 1, 1, none⟩) z2_1).trans c2_1_1
          have z3_0 : w.heap.size < (w2.alloc (.cells #[.int .i64 (max (x - r) (-400)), .int .i64 (min (x + r) 400), .int .i64 (max (n - r) (-400)), .int .i64 (min (n + r) 400)] 34)).heap.size := Nat.lt_of_lt_of_le z2_0 hb3.size
          have z3_1 : w.heap.size + 1 < (w2.alloc (.cells #[.int .i64 (max (x - r) (-400)), .int .i64 (min (x + r) 400), .int .i64 (max (n - r) (-400)), .int .i64 (min (n + r) 400)] 34)).heap.size := Nat.lt_of_lt_of_le z2_1 hb3.size
          have c3_2_0 : (w2.alloc (.cells #[.int .i64 (max (x - r) (-400)), .int .i64 (min (x + r) 400), .int .i64 (max (n - r) (-400)), .int .i64 (min (n + r) 400)] 34)).cell? ⟨w2.heap.size, 0, none⟩ = some (.int .i64 (max (x - r) (-400))) := by rw [World.cell?_alloc_at _ _ _ _ (by simp)]; rfl
          have c3_2_1 : (w2.alloc (.cells #[.int .i64 (max (x - r) (-400)), .int .i64 (min (x + r) 400), .int .i64 (max (n - r) (-400)), .int .i64 (min (n + r) 400)] 34)).cell? ⟨w2.heap.size, 1, none⟩ = some (.int .i64 (min (x + r) 400)) := by rw [World.cell?_alloc_at _ _ _ _ (by simp)]; rfl
          have c3_2_2 : (w2.alloc (.cells #[.int .i64 (max (x - r) (-400)), .int .i64 (min (x + r) 400), .int .i64 (max (n - r) (-400)), .int .i64 (min (n + r) 400)] 34)).cell? ⟨w2.heap.size, 2, none⟩ = some (.int .i64 (max (n - r) (-400))) := by rw [World.cell?_alloc_at _ _ _ _ (by simp)]; rfl
          have c3_2_3 : (w2.alloc (.cells #[.int .i64 (max (x - r) (-400)), .int .i64 (min (x + r) 400), .int .i64 (max (n - r) (-400)), .int .i64 (min (n + r) 400)] 34)).cell? ⟨w2.heap.size, 3, none⟩ = some (.int .i64 (min (n + r) 400)) := by rw [World.cell?_alloc_at _ _ _ _ (by simp)]; rfl
          have z3_2 : w2.heap.size < (w2.alloc (.cells #[.int .i64 (max (x - r) (-400)), .int .i64 (min (x + r) 400), .int .i64 (max (n - r) (-400)), .int .i64 (min (n + r) 400)] 34)).heap.size := by simp
          have hw3 := Lib.hid (hw2.out.trans (hb3.mono hw2.out.size))
          generalize hW3 : (w2.alloc (.cells #[.int .i64 (max (x - r) (-400)), .int .i64 (min (x + r) 400), .int .i64 (max (n - r) (-400)), .int .i64 (min (n + r) 400)] 34)) = w3 at *
          clear hW3 hb3 hw2 c2_0_0 c2_0_1 c2_1_0 c2_1_1 z2_0 z2_1
          refine (V1.out _).mono ?_
          rintro e w4 ⟨rfl, hb4⟩
          have c4_0_0 := (hb4.cell (p := ⟨w.heap.size, 0, none⟩) z3_0).trans c3_0_0
          have c4_0_1 := (hb4.cell (p := ⟨w.heap.size, 1, none⟩) z3_0).trans c3_0_1
          have c4_1_0 := (hb4.cell (p := ⟨w.heap.size + 1, 0, none⟩) z3_1).trans c3_1_0
          have c4_1_1 := (hb4.cell (p := ⟨w.heap.size + 1, 1, none⟩) z3_1).trans c3_1_1
          have c4_2_0 := (hb4.cell (p := ⟨w2.heap.size, 0, none⟩) z3_2).trans c3_2_0
          have c4_2_1 := (hb4.cell (p := ⟨w2.heap.size, 1, none⟩) z3_2).trans c3_2_1
          have c4_2_2 := (hb4.cell (p := ⟨w2.heap.size, 2, none⟩) z3_2).trans c3_2_2
          have c4_2_3 := (hb4.cell (p := ⟨w2.heap.size, 3, none⟩) z3_2).trans c3_2_3
          have z4_0 : w.heap.size < w4.heap.size := Nat.lt_of_lt_of_le z3_0 hb4.size
          have z4_1 : w.heap.size + 1 < w4.heap.size := Nat.lt_of_lt_of_le z3_1 hb4.size
          have z4_2 : w2.heap.size < w4.heap.size := Nat.lt_of_lt_of_le z3_2 hb4.size
          have hw4 := Lib.hid (hw3.out.trans (hb4.mono hw3.out.size))
          clear hb4 hw3 c3_0_0 c3_0_1 c3_1_0 c3_1_1 c3_2_0 c3_2_1 c3_2_2 c3_2_3 z3_0 z3_1 z3_2
          go_wp2_with fail
          refine (B1.out _).mono ?_
          rintro e w5 ⟨rfl, hb5⟩
          have c5_0_0 := (hb5.cell (p := ⟨w.heap.size, 0, none⟩) z4_0).trans c4_0_0
          have c5_0_1 := (hb5.cell (p := ⟨w.heap.size, 1, none⟩) z4_0).trans c4_0_1
          have c5_1_0 := (hb5.cell (p := ⟨w.heap.size + 1, 0, none⟩) z4_1).trans c4_1_0
          have c5_1_1 := (hb5.cell (p := ⟨w.heap.size + 1, 1, none⟩) z4_1).trans c4_1_1
          have c5_2_0 := (hb5.cell (p := ⟨w2.heap.size, 0, none⟩) z4_2).trans c4_2_0
          have c5_2_1 := (hb5.cell (p := ⟨w2.heap.size, 1, none⟩) z4_2).trans c4_2_1
          have c5_2_2 := (hb5.cell (p := ⟨w2.heap.size, 2, none⟩) z4_2).trans c4_2_2
          have c5_2_3 := (hb5.cell (p := ⟨w2.heap.size, 3, none⟩) z4_2).trans c4_2_3
          have z5_0 : w.heap.size < w5.heap.size := Nat.lt_of_lt_of_le z4_0 hb5.size
          have z5_1 : w.heap.size + 1 < w5.heap.size := Nat.lt_of_lt_of_le z4_1 hb5.size
          have z5_2 : w2.heap.size < w5.heap.size := Nat.lt_of_lt_of_le z4_2 hb5.size
          have hw5 := Lib.hid (hw4.out.trans (hb5.mono hw4.out.size))
          clear hb5 hw4 c4_0_0 c4_0_1 c4_1_0 c4_1_1 c4_2_0 c4_2_1 c4_2_2 c4_2_3 z4_0 z4_1 z4_2
          go_wp2_with fail
          refine (N1.out _).mono ?_
          rintro e w6 ⟨rfl, hb6⟩
          have c6_0_0 := (hb6.cell (p := ⟨w.heap.size, 0, none⟩) z5_0).trans c5_0_0
          have c6_0_1 := (hb6.cell (p := ⟨w.heap.size, 1, none⟩) z5_0).trans c5_0_1
          have c6_1_0 := (hb6.cell (p := ⟨w.heap.size + 1, 0, none⟩) z5_1).trans c5_1_0
          have c6_1_1 := (hb6.cell (p := ⟨w.heap.size + 1, 1, none⟩) z5_1).trans c5_1_1
          have c6_2_0 := (hb6.cell (p := ⟨w2.heap.size, 0, none⟩) z5_2).trans c5_2_0
          have c6_2_1 := (hb6.cell (p := ⟨w2.heap.size, 1, none⟩) z5_2).trans c5_2_1
          have c6_2_2 := (hb6.cell (p := ⟨w2.heap.size, 2, none⟩) z5_2).trans c5_2_2
          have c6_2_3 := (hb6.cell (p := ⟨w2.heap.size, 3, none⟩) z5_2).trans c5_2_3
          have z6_0 : w.heap.size < w6.heap.size := Nat.lt_of_lt_of_le z5_0 hb6.size
          have z6_1 : w.heap.size + 1 < w6.heap.size := Nat.lt_of_lt_of_le z5_1 hb6.size
          have z6_2 : w2.heap.size < w6.heap.size := Nat.lt_of_lt_of_le z5_2 hb6.size
          have hw6 := Lib.hid (hw5.out.trans (hb6.mono hw5.out.size))
          clear hb6 hw5 c5_0_0 c5_0_1 c5_1_0 c5_1_1 c5_2_0 c5_2_1 c5_2_2 c5_2_3 z5_0 z5_1 z5_2
          go_wp2_with fail
          refine (V2.out _).mono ?_
          rintro e w7 ⟨rfl, hb7⟩
          have c7_0_0 := (hb7.cell (p := ⟨w.heap.size, 0, none⟩) z6_0).trans c6_0_0
          have c7_0_1 := (hb7.cell (p := ⟨w.heap.size, 1, none⟩) z6_0).trans c6_0_1
          have c7_1_0 := (hb7.cell (p := ⟨w.heap.size + 1, 0, none⟩) z6_1).trans c6_1_0
          have c7_1_1 := (hb7.cell (p := ⟨w.heap.size + 1, 1, none⟩) z6_1).trans c6_1_1
          have c7_2_0 := (hb7.cell (p := ⟨w2.heap.size, 0, none⟩) z6_2).trans c6_2_0
          have c7_2_1 := (hb7.cell (p := ⟨w2.heap.size, 1, none⟩) z6_2).trans c6_2_1
          have c7_2_2 := (hb7.cell (p := ⟨w2.heap.size, 2, none⟩) z6_2).trans c6_2_2
          have c7_2_3 := (hb7.cell (p := ⟨w2.heap.size, 3, none⟩) z6_2).trans c6_2_3
          have z7_0 : w.heap.size < w7.heap.size := Nat.lt_of_lt_of_le z6_0 hb7.size
          have z7_1 : w.heap.size + 1 < w7.heap.size := Nat.lt_of_lt_of_le z6_1 hb7.size
          have z7_2 : w2.heap.size < w7.heap.size := Nat.lt_of_lt_of_le z6_2 hb7.size
          have hw7 := Lib.hid (hw6.out.trans (hb7.mono hw6.out.size))
          clear hb7 hw6 c6_0_0 c6_0_1 c6_1_0 c6_1_1 c6_2_0 c6_2_1 c6_2_2 c6_2_3 z6_0 z6_1 z6_2
          go_wp2_with fail
          refine (N2.out _).mono ?_
          rintro e w8 ⟨rfl, hb8⟩
          have c8_0_0 := (hb8.cell (p := ⟨w.heap.size, 0, none⟩) z7_0).trans c7_0_0
          have c8_0_1 := (hb8.cell (p := ⟨w.heap.size, 1, none⟩) z7_0).trans c7_0_1
          have c8_1_0 := (hb8.cell (p := ⟨w.heap.size + 1, 0, none⟩) z7_1).trans c7_1_0
          have c8_1_1 := (hb8.cell (p := ⟨w.heap.size + 1, 1, none⟩) z7_1).trans c7_1_1
          have c8_2_0 := (hb8.cell (p := ⟨w2.heap.size, 0, none⟩) z7_2).trans c7_2_0
          have c8_2_1 := (hb8.cell (p := ⟨w2.heap.size, 1, none⟩) z7_2).trans c7_2_1
          have c8_2_2 := (hb8.cell (p := ⟨w2.heap.size, 2, none⟩) z7_2).trans c7_2_2
          have c8_2_3 := (hb8.cell (p := ⟨w2.heap.size, 3, none⟩) z7_2).trans c7_2_3
          have z8_0 : w.heap.size < w8.heap.size := Nat.lt_of_lt_of_le z7_0 hb8.size
          have z8_1 : w.heap.size + 1 < w8.heap.size := Nat.lt_of_lt_of_le z7_1 hb8.size
          have z8_2 : w2.heap.size < w8.heap.size := Nat.lt_of_lt_of_le z7_2 hb8.size
          have hw8 := Lib.hid (hw7.out.trans (hb8.mono hw7.out.size))
          clear hb8 hw7 c7_0_0 c7_0_1 c7_1_0 c7_1_1 c7_2_0 c7_2_1 c7_2_2 c7_2_3 z7_0 z7_1 z7_2
          go_wp2
          go_ret
          exact ⟨rfl, hw8.out⟩

/-! ### the row's step -/
theorem contract (H : Type) (enc : TypeId × Value → H) (W : World) (base : Nat) (args : Array Value) (ds gs : List (DataW H)) (before : List MemPlace)
    (hval : ∀ (j : Nat) t v, Tryd.f9.params[j]? = some t → args[j]? = some v → Value.okWide Tryd.prog W .any base t v)
    (hW : DataW.Whole enc Tryd.prog Tryd.f9.params.toList Rows.windBoxesSpec.vars false W args.toList ds gs before) (hL : laidMetH Tryd.prog Rows.windBoxesRow.laid W) (hsh : W.ShapedOpen Tryd.prog) :
    Calls Tryd.prog 9 args W fun e W' => ∃ v, e = .returned v ∧ Rows.windBoxesSpec.post enc Tryd.prog Tryd.f9 false true false false W args v W' := by
  have hW' := hW
  obtain ⟨p, q, hA0, hV, rfl, hfz, hnd⟩ := hW
  have hA : DataW.TrodAll enc Tryd.prog W 0 (fun _ => true) true Tryd.f9.params.toList args.toList ds p := hA0
  rw [Tryd.params9] at hA hval
  obtain ⟨v0, vs0, d0, ds0, p0, q0, hargs, rfl, rfl, h0, r0⟩ := trodAll_cons hA
  obtain ⟨v1, vs1, d1, ds1, p1, q1, rfl, rfl, rfl, h1, r1⟩ := trodAll_cons r0
  obtain ⟨v2, vs2, d2, ds2, p2, q2, rfl, rfl, rfl, h2, r2⟩ := trodAll_cons r1
  obtain ⟨rfl, rfl, rfl⟩ := trodAll_nil r2
  obtain rfl : args = #[v0, v1, v2] := by cases args; simp_all
  obtain ⟨rfl, rfl⟩ := trodVars_none hV
  obtain ⟨x0_0, x0_1, rfl, rfl, rfl, w0_0, w0_1⟩ := open_wind (hval 0 23 v0 rfl rfl) h0
  obtain ⟨x1_0, x1_1, rfl, rfl, rfl, w1_0, w1_1⟩ := open_wind (hval 1 23 v1 rfl rfl) h1
  obtain ⟨a2, rfl, rfl, rfl, w2⟩ := open_int Tryd.underlying2 (hval 2 2 v2 rfl rfl) h2
  clear hA0
  simp only [List.append_nil] at hW'
  refine (walk x0_0 x0_1 x1_0 x1_1 a2 (bd64 w0_0).1 (bd64 w0_0).2 (bd64 w0_1).1 (bd64 w0_1).2 (bd64 w1_0).1 (bd64 w1_0).2 (bd64 w1_1).1 (bd64 w1_1).2 (bd64 w2).1 (bd64 w2).2 W (env_of hL hsh)).mono fun e W' ⟨he, hb⟩ => ?_
  subst he
  exact ⟨_, rfl, post_of_below (pa := []) (pv := []) hW' (fun _ _ _ => trodAll_cons_mk (shut_bool Tryd.underlying4 _) trodAll_mk0) (fun sp _ => (trodAll_cons_mk (shut_wind w0_0 w0_1) (trodAll_cons_mk (shut_wind w1_0 w1_1) (trodAll_cons_mk (shut_int Tryd.underlying2 w2) trodAll_mk0)))) (fun _ _ => rfl) rfl
    hb (ok_one (by kernel_rfl) rfl (okWide_bool_mk Tryd.underlying4 _))⟩

theorem reads (os : Os) {H : Type} (enc : TypeId × Value → H) : ∃ places, DataW.whole enc Tryd.prog ((laidWorld os).forCall (fun _ _ => 0) ⟨#[], #[.agg #[.int .i64 0, .int .i64 0], .agg #[.int .i64 0, .int .i64 0], .int .i64 0], []⟩).memory Tryd.f9.params.toList Rows.windBoxesSpec.vars false (#[.agg #[.int .i64 0, .int .i64 0], .agg #[.int .i64 0, .int .i64 0], .int .i64 0] : Array Value).toList 8 = some ([.agg [.lit (.int .i64 0), .lit (.int .i64 0)], .agg [.lit (.int .i64 0), .lit (.int .i64 0)], .lit (.int .i64 0)], [], places) :=
  ⟨[], by kernel_rfl⟩

set_option maxRecDepth 100000 in
theorem lifted (os : Os) (started : os.Started) (H : Type) (enc : TypeId × Value → H) (F : Stop.Interp) :
    ReturnsInHanded {} Tryd.checked os 9 .any ((OpenSpec.ofChange Rows.windBoxesSpec).preRow enc Tryd.prog Tryd.f9 Rows.windBoxesRow.domain false Rows.windBoxesRow.laid) (((OpenSpec.ofChange Rows.windBoxesSpec).at F).post enc Tryd.prog Tryd.f9 false true false false) := by
  obtain ⟨places, hx⟩ := reads os enc
  refine returnsInHanded_of_row (C := Tryd.checked) (s := OpenSpec.ofChange Rows.windBoxesSpec) own started (by kernel_rfl) Tryd.func9
    (witness_row_at (enc := enc) (C := Tryd.checked) false (laidWorld os) #[.agg #[.int .i64 0, .int .i64 0], .agg #[.int .i64 0, .int .i64 0], .int .i64 0] rfl (by kernel_rfl) (by kernel_rfl) (by kernel_rfl)
      (OpenSpec.preRow_of_cond 8 hx (by kernel_rfl) (fun k hk => by cases hk) (by kernel_rfl) (laid_met_any os _))) ?_
  intro W base args ds gs before hval hW _ _ _ hL hsh _
  exact contract H enc W base args ds gs before hval hW hL hsh

theorem said : Rows.WindBoxesSaid :=
  OpenClaim.holds_of_cond 9 Tryd.f9 rfl rfl rfl rfl rfl rfl rfl ⟨rfl, rfl, rfl, rfl, rfl⟩ rfl rfl rfl rfl rfl (by kernel_rfl) Tryd.func9 (by kernel_rfl)
    (of_decide_eq_true (by kernel_rfl)) (by unfold Func.isWrapper; first | (rw [if_pos (by decide +kernel)]; kernel_rfl) | (rw [if_neg (by decide +kernel)]; exact ⟨rfl, rfl⟩))
    (fun os started H enc _ F => by rw [OpenClaim.pre_eq_preRow]; exact lifted os started H enc F)

theorem plain (f : FuncId) (fn : Func) (hf : Tryd.pinned.checked.prog.funcNamed "flightdeck/flightdecklaw13.WindBoxes" = some f) (hfn : Tryd.pinned.checked.prog.funcs[f]? = some fn) :
    false = Tryd.pinned.checked.prog.looks [] ∧ ∀ (j : Nat) t, fn.params[j]? = some t → Tryd.pinned.checked.prog.wantsStandIn t = false := by
  obtain rfl : f = 9 := Option.some.inj ((show Tryd.prog.funcNamed "flightdeck/flightdecklaw13.WindBoxes" = some 9 by kernel_rfl).symm.trans hf) |>.symm
  obtain rfl : fn = Tryd.f9 := (Option.some.inj (Tryd.func9.symm.trans hfn)).symm
  refine ⟨by kernel_rfl, fun j t ht => ?_⟩
  rw [Tryd.params9] at ht
  have hm := Array.mem_of_getElem? ht
  simp only [List.mem_toArray, List.mem_cons, List.not_mem_nil, or_false] at hm
  rcases hm with rfl | rfl | rfl
  · exact (show Tryd.prog.wantsStandIn 23 = false by kernel_rfl)
  · exact (show Tryd.prog.wantsStandIn 23 = false by kernel_rfl)
  · exact (show Tryd.prog.wantsStandIn 2 = false by kernel_rfl)
/-- the law -/
theorem card : Rows.WindBoxesCardSaid :=
  Claim7.holds_tied_plain_at .later [] _ _ _ _ said (fun _ h => by cases h) (by kernel_rfl) (fun _ h => by cases h) windBoxes_row_tie rfl ⟨rfl, rfl⟩ (by kernel_rfl) rfl plain (by kernel_rfl)
end Go.Proofs.YtdfpbojlimeccaaDoor.windBoxes

