/-
  The law WindEncloses holds for every input: the ground speed for each true airspeed of an interval and each wind of a set lies in the interval of ground speeds. No condition.
-/
import Derived.Test.YtdfpbojlimeccaaDoorStructs
import Derived.Test.YtdfpbojlimeccaaDoorAwake
import Derived.Test.YtdfpbojlimeccaaDoorWindIn
import Derived.Test.YtdfpbojlimeccaaDoorWindSetsRef
import Derived.Test.YtdfpbojlimeccaaDoorEnclosePlain
namespace Go.Proofs.YtdfpbojlimeccaaDoor.windEncloses
set_option linter.unusedVariables false
open Go.ChangeShapes Go.WideShapes Go.ChangeAt Go.RowKit Tr Sq

/-- errors of GroundIn -/
theorem gi_err (c tl th el eh nl nh : Int) : (∃ lo hi, groundInF c tl th el eh nl nh = (lo, hi, 0)) ∨ groundInF c tl th el eh nl nh = (0, 0, 1) ∨ groundInF c tl th el eh nl nh = (0, 0, 10) := by
  unfold groundInF
  split
  · unfold giEnd
    split
    · exact .inr (.inr rfl)
    · split
      · exact .inr (.inr rfl)
      · exact .inl ⟨_, _, rfl⟩
  · exact .inr (.inl rfl)
set_option maxHeartbeats 8000000 in
set_option maxRecDepth 100000 in
theorem walk (c x0 x1 x2 x3 x4 y0 y1 y2 y3 : Int) (ca : -9223372036854775808 ≤ c) (cb : c ≤ 9223372036854775807) (x0a : -9223372036854775808 ≤ x0) (x0b : x0 ≤ 9223372036854775807) (x1a : -9223372036854775808 ≤ x1) (x1b : x1 ≤ 9223372036854775807) (x2a : -9223372036854775808 ≤ x2) (x2b : x2 ≤ 9223372036854775807) (x3a : -9223372036854775808 ≤ x3) (x3b : x3 ≤ 9223372036854775807) (x4a : -9223372036854775808 ≤ x4) (x4b : x4 ≤ 9223372036854775807) (y0a : -9223372036854775808 ≤ y0) (y0b : y0 ≤ 9223372036854775807) (y1a : -9223372036854775808 ≤ y1) (y1b : y1 ≤ 9223372036854775807) (y2a : -9223372036854775808 ≤ y2) (y2b : y2 ≤ 9223372036854775807) (y3a : -9223372036854775808 ≤ y3) (y3b : y3 ≤ 9223372036854775807) (w : World) (hE : Env w) :
    Calls Tryd.prog 4 #[.int .i64 c, .agg #[.int .i64 x0, .int .i64 x1, .int .i64 x2, .int .i64 x3, .int .i64 x4], .agg #[.int .i64 y0, .int .i64 y1, .int .i64 y2, .int .i64 y3]] w fun e w' => e = .returned (.bool true) ∧ Below w.heap.size w w' := by
  have HE := Lib.hid hE
  have C1 := Lib.hid (fun w => groundin_any c x0 x1 y0 y1 y2 y3 w ca cb)
  have N1 := Lib.hid (fun w => within_ref y0 y1 y2 y3 x3 x4 w)
  have G1 := Lib.hid (fun w => ground_any c x2 x3 x4 w ca cb)
  clear hE
  rcases gi_err c x0 x1 y0 y1 y2 y3 with ⟨lo, hi, hg⟩ | hg | hg
  · by_cases k1 : x2 < x0
    · rw [hg] at C1
      clear G1 N1 hg
      have k1 : decide (x2 < x0) = true := by simpa using k1
      go_enter Tryd.func4, Tryd.ntmps4
      go_wp2_with fail
      have p0 : ((w.alloc (.cells #[.int .i64 x0, .int .i64 x1, .int .i64 x2, .int .i64 x3, .int .i64 x4] 32)).alloc (.cells #[.int .i64 y0, .int .i64 y1, .int .i64 y2, .int .i64 y3] 34)).cell? ⟨w.heap.size, 0, none⟩ = some (.int .i64 x0) := (((Below.refl _ (w.alloc (.cells #[.int .i64 x0, .int .i64 x1, .int .i64 x2, .int .i64 x3, .int .i64 x4] 32))).alloc (Nat.le_refl _) (.cells #[.int .i64 y0, .int .i64 y1, .int .i64 y2, .int .i64 y3] 34)).cell (p := ⟨w.heap.size, 0, none⟩) (by simp)).trans (by rw [World.cell?_alloc_at _ _ _ _ (by simp)]; rfl)
      have p1 : ((w.alloc (.cells #[.int .i64 x0, .int .i64 x1, .int .i64 x2, .int .i64 x3, .int .i64 x4] 32)).alloc (.cells #[.int .i64 y0, .int .i64 y1, .int .i64 y2, .int .i64 y3] 34)).cell? ⟨w.heap.size, 1, none⟩ = some (.int .i64 x1) := (((Below.refl _ (w.alloc (.cells #[.int .i64 x0, .int .i64 x1, .int .i64 x2, .int .i64 x3, .int .i64 x4] 32))).alloc (Nat.le_refl _) (.cells #[.int .i64 y0, .int .i64 y1, .int .i64 y2, .int .i64 y3] 34)).cell (p := ⟨w.heap.size, 1, none⟩) (by simp)).trans (by rw [World.cell?_alloc_at _ _ _ _ (by simp)]; rfl)
      have p2 : ((w.alloc (.cells #[.int .i64 x0, .int .i64 x1, .int .i64 x2, .int .i64 x3, .int .i64 x4] 32)).alloc (.cells #[.int .i64 y0, .int .i64 y1, .int .i64 y2, .int .i64 y3] 34)).cell? ⟨w.heap.size, 2, none⟩ = some (.int .i64 x2) := (((Below.refl _ (w.alloc (.cells #[.int .i64 x0, .int .i64 x1, .int .i64 x2, .int .i64 x3, .int .i64 x4] 32))).alloc (Nat.le_refl _) (.cells #[.int .i64 y0, .int .i64 y1, .int .i64 y2, .int .i64 y3] 34)).cell (p := ⟨w.heap.size, 2, none⟩) (by simp)).trans (by rw [World.cell?_alloc_at _ _ _ _ (by simp)]; rfl)
      have p3 : ((w.alloc (.cells #[.int .i64 x0, .int .i64 x1, .int .i64 x2, .int .i64 x3, .int .i64 x4] 32)).alloc (.cells #[.int .i64 y0, .int .i64 y1, .int .i64 y2, .int .i64 y3] 34)).cell? ⟨w.heap.size, 3, none⟩ = some (.int .i64 x3) := (((Below.refl _ (w.alloc (.cells #[.int .i64 x0, .int .i64 x1, .int .i64 x2, .int .i64 x3, .int .i64 x4] 32))).alloc (Nat.le_refl _) (.cells #[.int .i64 y0, .int .i64 y1, .int .i64 y2, .int .i64 y3] 34)).cell (p := ⟨w.heap.size, 3, none⟩) (by simp)).trans (by rw [World.cell?_alloc_at _ _ _ _ (by simp)]; rfl)
      have p4 : ((w.alloc (.cells #[.int .i64 x0, .int .i64 x1, .int .i64 x2, .int .i64 x3, .int .i64 x4] 32)).alloc (.cells #[.int .i64 y0, .int .i64 y1, .int .i64 y2, .int .i64 y3] 34)).cell? ⟨w.heap.size, 4, none⟩ = some (.int .i64 x4) := (((Below.refl _ (w.alloc (.cells #[.int .i64 x0, .int .i64 x1, .int .i64 x2, .int .i64 x3, .int .i64 x4] 32))).alloc (Nat.le_refl _) (.cells #[.int .i64 y0, .int .i64 y1, .int .i64 y2, .int .i64 y3] 34)).cell (p := ⟨w.heap.size, 4, none⟩) (by simp)).trans (by rw [World.cell?_alloc_at _ _ _ _ (by simp)]; rfl)
      have p5 : ((w.alloc (.cells #[.int .i64 x0, .int .i64 x1, .int .i64 x2, .int .i64 x3, .int .i64 x4] 32)).alloc (.cells #[.int .i64 y0, .int .i64 y1, .int .i64 y2, .int .i64 y3] 34)).cell? ⟨w.heap.size + 1, 0, none⟩ = some (.int .i64 y0) := by rw [World.cell?_alloc_at _ _ _ _ (by simp)]; rfl
      have p6 : ((w.alloc (.cells #[.int .i64 x0, .int .i64 x1, .int .i64 x2, .int .i64 x3, .int .i64 x4] 32)).alloc (.cells #[.int .i64 y0, .int .i64 y1, .int .i64 y2, .int .i64 y3] 34)).cell? ⟨w.heap.size + 1, 1, none⟩ = some (.int .i64 y1) := by rw [World.cell?_alloc_at _ _ _ _ (by simp)]; rfl
      have p7 : ((w.alloc (.cells #[.int .i64 x0, .int .i64 x1, .int .i64 x2, .int .i64 x3, .int .i64 x4] 32)).alloc (.cells #[.int .i64 y0, .int .i64 y1, .int .i64 y2, .int .i64 y3] 34)).cell? ⟨w.heap.size + 1, 2, none⟩ = some (.int .i64 y2) := by rw [World.cell?_alloc_at _ _ _ _ (by simp)]; rfl
      have p8 : ((w.alloc (.cells #[.int .i64 x0, .int .i64 x1, .int .i64 x2, .int .i64 x3, .int .i64 x4] 32)).alloc (.cells #[.int .i64 y0, .int .i64 y1, .int .i64 y2, .int .i64 y3] 34)).cell? ⟨w.heap.size + 1, 3, none⟩ = some (.int .i64 y3) := by rw [World.cell?_alloc_at _ _ _ _ (by simp)]; rfl
      have hz : w.heap.size < ((w.alloc (.cells #[.int .i64 x0, .int .i64 x1, .int .i64 x2, .int .i64 x3, .int .i64 x4] 32)).alloc (.cells #[.int .i64 y0, .int .i64 y1, .int .i64 y2, .int .i64 y3] 34)).heap.size ∧ w.heap.size + 1 < ((w.alloc (.cells #[.int .i64 x0, .int .i64 x1, .int .i64 x2, .int .i64 x3, .int .i64 x4] 32)).alloc (.cells #[.int .i64 y0, .int .i64 y1, .int .i64 y2, .int .i64 y3] 34)).heap.size := by simp; omega
      have hw := Lib.hid (((Below.refl w.heap.size w).alloc (Nat.le_refl _) (.cells #[.int .i64 x0, .int .i64 x1, .int .i64 x2, .int .i64 x3, .int .i64 x4] 32)).alloc (by simp) (.cells #[.int .i64 y0, .int .i64 y1, .int .i64 y2, .int .i64 y3] 34))
      generalize hW1 : (w.alloc (.cells #[.int .i64 x0, .int .i64 x1, .int .i64 x2, .int .i64 x3, .int .i64 x4] 32)).alloc (.cells #[.int .i64 y0, .int .i64 y1, .int .i64 y2, .int .i64 y3] 34) = W1 at *
      clear hW1
      refine (awake_any _ (HE.out.below hw.out)).mono ?_
      rintro e w2 ⟨rfl, hb2⟩
      have q0 := (hb2.cell (p := ⟨w.heap.size, 0, none⟩) hz.1).trans p0
      have q1 := (hb2.cell (p := ⟨w.heap.size, 1, none⟩) hz.1).trans p1
      have q2 := (hb2.cell (p := ⟨w.heap.size, 2, none⟩) hz.1).trans p2
      have q3 := (hb2.cell (p := ⟨w.heap.size, 3, none⟩) hz.1).trans p3
      have q4 := (hb2.cell (p := ⟨w.heap.size, 4, none⟩) hz.1).trans p4
      have q5 := (hb2.cell (p := ⟨w.heap.size + 1, 0, none⟩) hz.2).trans p5
      have q6 := (hb2.cell (p := ⟨w.heap.size + 1, 1, none⟩) hz.2).trans p6
      have q7 := (hb2.cell (p := ⟨w.heap.size + 1, 2, none⟩) hz.2).trans p7
      have q8 := (hb2.cell (p := ⟨w.heap.size + 1, 3, none⟩) hz.2).trans p8
      have hz2 : w.heap.size < w2.heap.size ∧ w.heap.size + 1 < w2.heap.size := ⟨Nat.lt_of_lt_of_le hz.1 hb2.size, Nat.lt_of_lt_of_le hz.2 hb2.size⟩
      have hw2 := Lib.hid (hw.out.trans (hb2.mono hw.out.size))
      clear hb2 hz hw p0 p1 p2 p3 p4 p5 p6 p7 p8
      go_wp2_with fail
      refine (C1.out _).mono ?_
      rintro e w3 ⟨rfl, hb3⟩
      have p0 := (hb3.cell (p := ⟨w.heap.size, 0, none⟩) hz2.1).trans q0
      have p1 := (hb3.cell (p := ⟨w.heap.size, 1, none⟩) hz2.1).trans q1
      have p2 := (hb3.cell (p := ⟨w.heap.size, 2, none⟩) hz2.1).trans q2
      have p3 := (hb3.cell (p := ⟨w.heap.size, 3, none⟩) hz2.1).trans q3
      have p4 := (hb3.cell (p := ⟨w.heap.size, 4, none⟩) hz2.1).trans q4
      have p5 := (hb3.cell (p := ⟨w.heap.size + 1, 0, none⟩) hz2.2).trans q5
      have p6 := (hb3.cell (p := ⟨w.heap.size + 1, 1, none⟩) hz2.2).trans q6
      have p7 := (hb3.cell (p := ⟨w.heap.size + 1, 2, none⟩) hz2.2).trans q7
      have p8 := (hb3.cell (p := ⟨w.heap.size + 1, 3, none⟩) hz2.2).trans q8
      have hz3 : w.heap.size < w3.heap.size ∧ w.heap.size + 1 < w3.heap.size := ⟨Nat.lt_of_lt_of_le hz2.1 hb3.size, Nat.lt_of_lt_of_le hz2.2 hb3.size⟩
      have hw3 := Lib.hid (hw2.out.trans (hb3.mono hw2.out.size))
      clear hb3 hz2 hw2 q0 q1 q2 q3 q4 q5 q6 q7 q8
      go_wp2
      go_ret
      exact ⟨rfl, hw3.out.alloc hw3.out.size _⟩
    by_cases k2 : x1 < x2
    · rw [hg] at C1
      clear G1 N1 hg
      have k1 : decide (x2 < x0) = false := by simpa using k1
      have k2 : decide (x1 < x2) = true := by simpa using k2
      go_enter Tryd.func4, Tryd.ntmps4
      go_wp2_with fail
      have p0 : ((w.alloc (.cells #[.int .i64 x0, .int .i64 x1, .int .i64 x2, .int .i64 x3, .int .i64 x4] 32)).alloc (.cells #[.int .i64 y0, .int .i64 y1, .int .i64 y2, .int .i64 y3] 34)).cell? ⟨w.heap.size, 0, none⟩ = some (.int .i64 x0) := (((Below.refl _ (w.alloc (.cells #[.int .i64 x0, .int .i64 x1, .int .i64 x2, .int .i64 x3, .int .i64 x4] 32))).alloc (Nat.le_refl _) (.cells #[.int .i64 y0, .int .i64 y1, .int .i64 y2, .int .i64 y3] 34)).cell (p := ⟨w.heap.size, 0, none⟩) (by simp)).trans (by rw [World.cell?_alloc_at _ _ _ _ (by simp)]; rfl)
      have p1 : ((w.alloc (.cells #[.int .i64 x0, .int .i64 x1, .int .i64 x2, .int .i64 x3, .int .i64 x4] 32)).alloc (.cells #[.int .i64 y0, .int .i64 y1, .int .i64 y2, .int .i64 y3] 34)).cell? ⟨w.heap.size, 1, none⟩ = some (.int .i64 x1) := (((Below.refl _ (w.alloc (.cells #[.int .i64 x0, .int .i64 x1, .int .i64 x2, .int .i64 x3, .int .i64 x4] 32))).alloc (Nat.le_refl _) (.cells #[.int .i64 y0, .int .i64 y1, .int .i64 y2, .int .i64 y3] 34)).cell (p := ⟨w.heap.size, 1, none⟩) (by simp)).trans (by rw [World.cell?_alloc_at _ _ _ _ (by simp)]; rfl)
      have p2 : ((w.alloc (.cells #[.int .i64 x0, .int .i64 x1, .int .i64 x2, .int .i64 x3, .int .i64 x4] 32)).alloc (.cells #[.int .i64 y0, .int .i64 y1, .int .i64 y2, .int .i64 y3] 34)).cell? ⟨w.heap.size, 2, none⟩ = some (.int .i64 x2) := (((Below.refl _ (w.alloc (.cells #[.int .i64 x0, .int .i64 x1, .int .i64 x2, .int .i64 x3, .int .i64 x4] 32))).alloc (Nat.le_refl _) (.cells #[.int .i64 y0, .int .i64 y1, .int .i64 y2, .int .i64 y3] 34)).cell (p := ⟨w.heap.size, 2, none⟩) (by simp)).trans (by rw [World.cell?_alloc_at _ _ _ _ (by simp)]; rfl)
      have p3 : ((w.alloc (.cells #[.int .i64 x0, .int .i64 x1, .int .i64 x2, .int .i64 x3, .int .i64 x4] 32)).alloc (.cells #[.int .i64 y0, .int .i64 y1, .int .i64 y2, .int .i64 y3] 34)).cell? ⟨w.heap.size, 3, none⟩ = some (.int .i64 x3) := (((Below.refl _ (w.alloc (.cells #[.int .i64 x0, .int .i64 x1, .int .i64 x2, .int .i64 x3, .int .i64 x4] 32))).alloc (Nat.le_refl _) (.cells #[.int .i64 y0, .int .i64 y1, .int .i64 y2, .int .i64 y3] 34)).cell (p := ⟨w.heap.size, 3, none⟩) (by simp)).trans (by rw [World.cell?_alloc_at _ _ _ _ (by simp)]; rfl)
      have p4 : ((w.alloc (.cells #[.int .i64 x0, .int .i64 x1, .int .i64 x2, .int .i64 x3, .int .i64 x4] 32)).alloc (.cells #[.int .i64 y0, .int .i64 y1, .int .i64 y2, .int .i64 y3] 34)).cell? ⟨w.heap.size, 4, none⟩ = some (.int .i64 x4) := (((Below.refl _ (w.alloc (.cells #[.int .i64 x0, .int .i64 x1, .int .i64 x2, .int .i64 x3, .int .i64 x4] 32))).alloc (Nat.le_refl _) (.cells #[.int .i64 y0, .int .i64 y1, .int .i64 y2, .int .i64 y3] 34)).cell (p := ⟨w.heap.size, 4, none⟩) (by simp)).trans (by rw [World.cell?_alloc_at _ _ _ _ (by simp)]; rfl)
      have p5 : ((w.alloc (.cells #[.int .i64 x0, .int .i64 x1, .int .i64 x2, .int .i64 x3, .int .i64 x4] 32)).alloc (.cells #[.int .i64 y0, .int .i64 y1, .int .i64 y2, .int .i64 y3] 34)).cell? ⟨w.heap.size + 1, 0, none⟩ = some (.int .i64 y0) := by rw [World.cell?_alloc_at _ _ _ _ (by simp)]; rfl
      have p6 : ((w.alloc (.cells #[.int .i64 x0, .int .i64 x1, .int .i64 x2, .int .i64 x3, .int .i64 x4] 32)).alloc (.cells #[.int .i64 y0, .int .i64 y1, .int .i64 y2, .int .i64 y3] 34)).cell? ⟨w.heap.size + 1, 1, none⟩ = some (.int .i64 y1) := by rw [World.cell?_alloc_at _ _ _ _ (by simp)]; rfl
      have p7 : ((w.alloc (.cells #[.int .i64 x0, .int .i64 x1, .int .i64 x2, .int .i64 x3, .int .i64 x4] 32)).alloc (.cells #[.int .i64 y0, .int .i64 y1, .int .i64 y2, .int .i64 y3] 34)).cell? ⟨w.heap.size + 1, 2, none⟩ = some (.int .i64 y2) := by rw [World.cell?_alloc_at _ _ _ _ (by simp)]; rfl
      have p8 : ((w.alloc (.cells #[.int .i64 x0, .int .i64 x1, .int .i64 x2, .int .i64 x3, .int .i64 x4] 32)).alloc (.cells #[.int .i64 y0, .int .i64 y1, .int .i64 y2, .int .i64 y3] 34)).cell? ⟨w.heap.size + 1, 3, none⟩ = some (.int .i64 y3) := by rw [World.cell?_alloc_at _ _ _ _ (by simp)]; rfl
      have hz : w.heap.size < ((w.alloc (.cells #[.int .i64 x0, .int .i64 x1, .int .i64 x2, .int .i64 x3, .int .i64 x4] 32)).alloc (.cells #[.int .i64 y0, .int .i64 y1, .int .i64 y2, .int .i64 y3] 34)).heap.size ∧ w.heap.size + 1 < ((w.alloc (.cells #[.int .i64 x0, .int .i64 x1, .int .i64 x2, .int .i64 x3, .int .i64 x4] 32)).alloc (.cells #[.int .i64 y0, .int .i64 y1, .int .i64 y2, .int .i64 y3] 34)).heap.size := by simp; omega
      have hw := Lib.hid (((Below.refl w.heap.size w).alloc (Nat.le_refl _) (.cells #[.int .i64 x0, .int .i64 x1, .int .i64 x2, .int .i64 x3, .int .i64 x4] 32)).alloc (by simp) (.cells #[.int .i64 y0, .int .i64 y1, .int .i64 y2, .int .i64 y3] 34))
      generalize hW1 : (w.alloc (.cells #[.int .i64 x0, .int .i64 x1, .int .i64 x2, .int .i64 x3, .int .i64 x4] 32)).alloc (.cells #[.int .i64 y0, .int .i64 y1, .int .i64 y2, .int .i64 y3] 34) = W1 at *
      clear hW1
      refine (awake_any _ (HE.out.below hw.out)).mono ?_
      rintro e w2 ⟨rfl, hb2⟩
      have q0 := (hb2.cell (p := ⟨w.heap.size, 0, none⟩) hz.1).trans p0
      have q1 := (hb2.cell (p := ⟨w.heap.size, 1, none⟩) hz.1).trans p1
      have q2 := (hb2.cell (p := ⟨w.heap.size, 2, none⟩) hz.1).trans p2
      have q3 := (hb2.cell (p := ⟨w.heap.size, 3, none⟩) hz.1).trans p3
      have q4 := (hb2.cell (p := ⟨w.heap.size, 4, none⟩) hz.1).trans p4
      have q5 := (hb2.cell (p := ⟨w.heap.size + 1, 0, none⟩) hz.2).trans p5
      have q6 := (hb2.cell (p := ⟨w.heap.size + 1, 1, none⟩) hz.2).trans p6
      have q7 := (hb2.cell (p := ⟨w.heap.size + 1, 2, none⟩) hz.2).trans p7
      have q8 := (hb2.cell (p := ⟨w.heap.size + 1, 3, none⟩) hz.2).trans p8
      have hz2 : w.heap.size < w2.heap.size ∧ w.heap.size + 1 < w2.heap.size := ⟨Nat.lt_of_lt_of_le hz.1 hb2.size, Nat.lt_of_lt_of_le hz.2 hb2.size⟩
      have hw2 := Lib.hid (hw.out.trans (hb2.mono hw.out.size))
      clear hb2 hz hw p0 p1 p2 p3 p4 p5 p6 p7 p8
      go_wp2_with fail
      refine (C1.out _).mono ?_
      rintro e w3 ⟨rfl, hb3⟩
      have p0 := (hb3.cell (p := ⟨w.heap.size, 0, none⟩) hz2.1).trans q0
      have p1 := (hb3.cell (p := ⟨w.heap.size, 1, none⟩) hz2.1).trans q1
      have p2 := (hb3.cell (p := ⟨w.heap.size, 2, none⟩) hz2.1).trans q2
      have p3 := (hb3.cell (p := ⟨w.heap.size, 3, none⟩) hz2.1).trans q3
      have p4 := (hb3.cell (p := ⟨w.heap.size, 4, none⟩) hz2.1).trans q4
      have p5 := (hb3.cell (p := ⟨w.heap.size + 1, 0, none⟩) hz2.2).trans q5
      have p6 := (hb3.cell (p := ⟨w.heap.size + 1, 1, none⟩) hz2.2).trans q6
      have p7 := (hb3.cell (p := ⟨w.heap.size + 1, 2, none⟩) hz2.2).trans q7
      have p8 := (hb3.cell (p := ⟨w.heap.size + 1, 3, none⟩) hz2.2).trans q8
      have hz3 : w.heap.size < w3.heap.size ∧ w.heap.size + 1 < w3.heap.size := ⟨Nat.lt_of_lt_of_le hz2.1 hb3.size, Nat.lt_of_lt_of_le hz2.2 hb3.size⟩
      have hw3 := Lib.hid (hw2.out.trans (hb3.mono hw2.out.size))
      clear hb3 hz2 hw2 q0 q1 q2 q3 q4 q5 q6 q7 q8
      go_wp2
      go_ret
      exact ⟨rfl, hw3.out.alloc hw3.out.size _⟩
    cases k3 : withinB y0 y1 y2 y3 x3 x4 with
    | false =>
      rw [hg] at C1
      rw [k3] at N1
      clear G1 hg k3
      have k1 : decide (x2 < x0) = false := by simpa using k1
      have k2 : decide (x1 < x2) = false := by simpa using k2
      go_enter Tryd.func4, Tryd.ntmps4
      go_wp2_with fail
      have p0 : ((w.alloc (.cells #[.int .i64 x0, .int .i64 x1, .int .i64 x2, .int .i64 x3, .int .i64 x4] 32)).alloc (.cells #[.int .i64 y0, .int .i64 y1, .int .i64 y2, .int .i64 y3] 34)).cell? ⟨w.heap.size, 0, none⟩ = some (.int .i64 x0) := (((Below.refl _ (w.alloc (.cells #[.int .i64 x0, .int .i64 x1, .int .i64 x2, .int .i64 x3, .int .i64 x4] 32))).alloc (Nat.le_refl _) (.cells #[.int .i64 y0, .int .i64 y1, .int .i64 y2, .int .i64 y3] 34)).cell (p := ⟨w.heap.size, 0, none⟩) (by simp)).trans (by rw [World.cell?_alloc_at _ _ _ _ (by simp)]; rfl)
      have p1 : ((w.alloc (.cells #[.int .i64 x0, .int .i64 x1, .int .i64 x2, .int .i64 x3, .int .i64 x4] 32)).alloc (.cells #[.int .i64 y0, .int .i64 y1, .int .i64 y2, .int .i64 y3] 34)).cell? ⟨w.heap.size, 1, none⟩ = some (.int .i64 x1) := (((Below.refl _ (w.alloc (.cells #[.int .i64 x0, .int .i64 x1, .int .i64 x2, .int .i64 x3, .int .i64 x4] 32))).alloc (Nat.le_refl _) (.cells #[.int .i64 y0, .int .i64 y1, .int .i64 y2, .int .i64 y3] 34)).cell (p := ⟨w.heap.size, 1, none⟩) (by simp)).trans (by rw [World.cell?_alloc_at _ _ _ _ (by simp)]; rfl)
      have p2 : ((w.alloc (.cells #[.int .i64 x0, .int .i64 x1, .int .i64 x2, .int .i64 x3, .int .i64 x4] 32)).alloc (.cells #[.int .i64 y0, .int .i64 y1, .int .i64 y2, .int .i64 y3] 34)).cell? ⟨w.heap.size, 2, none⟩ = some (.int .i64 x2) := (((Below.refl _ (w.alloc (.cells #[.int .i64 x0, .int .i64 x1, .int .i64 x2, .int .i64 x3, .int .i64 x4] 32))).alloc (Nat.le_refl _) (.cells #[.int .i64 y0, .int .i64 y1, .int .i64 y2, .int .i64 y3] 34)).cell (p := ⟨w.heap.size, 2, none⟩) (by simp)).trans (by rw [World.cell?_alloc_at _ _ _ _ (by simp)]; rfl)
      have p3 : ((w.alloc (.cells #[.int .i64 x0, .int .i64 x1, .int .i64 x2, .int .i64 x3, .int .i64 x4] 32)).alloc (.cells #[.int .i64 y0, .int .i64 y1, .int .i64 y2, .int .i64 y3] 34)).cell? ⟨w.heap.size, 3, none⟩ = some (.int .i64 x3) := (((Below.refl _ (w.alloc (.cells #[.int .i64 x0, .int .i64 x1, .int .i64 x2, .int .i64 x3, .int .i64 x4] 32))).alloc (Nat.le_refl _) (.cells #[.int .i64 y0, .int .i64 y1, .int .i64 y2, .int .i64 y3] 34)).cell (p := ⟨w.heap.size, 3, none⟩) (by simp)).trans (by rw [World.cell?_alloc_at _ _ _ _ (by simp)]; rfl)
      have p4 : ((w.alloc (.cells #[.int .i64 x0, .int .i64 x1, .int .i64 x2, .int .i64 x3, .int .i64 x4] 32)).alloc (.cells #[.int .i64 y0, .int .i64 y1, .int .i64 y2, .int .i64 y3] 34)).cell? ⟨w.heap.size, 4, none⟩ = some (.int .i64 x4) := (((Below.refl _ (w.alloc (.cells #[.int .i64 x0, .int .i64 x1, .int .i64 x2, .int .i64 x3, .int .i64 x4] 32))).alloc (Nat.le_refl _) (.cells #[.int .i64 y0, .int .i64 y1, .int .i64 y2, .int .i64 y3] 34)).cell (p := ⟨w.heap.size, 4, none⟩) (by simp)).trans (by rw [World.cell?_alloc_at _ _ _ _ (by simp)]; rfl)
      have p5 : ((w.alloc (.cells #[.int .i64 x0, .int .i64 x1, .int .i64 x2, .int .i64 x3, .int .i64 x4] 32)).alloc (.cells #[.int .i64 y0, .int .i64 y1, .int .i64 y2, .int .i64 y3] 34)).cell? ⟨w.heap.size + 1, 0, none⟩ = some (.int .i64 y0) := by rw [World.cell?_alloc_at _ _ _ _ (by simp)]; rfl
      have p6 : ((w.alloc (.cells #[.int .i64 x0, .int .i64 x1, .int .i64 x2, .int .i64 x3, .int .i64 x4] 32)).alloc (.cells #[.int .i64 y0, .int .i64 y1, .int .i64 y2, .int .i64 y3] 34)).cell? ⟨w.heap.size + 1, 1, none⟩ = some (.int .i64 y1) := by rw [World.cell?_alloc_at _ _ _ _ (by simp)]; rfl
      have p7 : ((w.alloc (.cells #[.int .i64 x0, .int .i64 x1, .int .i64 x2, .int .i64 x3, .int .i64 x4] 32)).alloc (.cells #[.int .i64 y0, .int .i64 y1, .int .i64 y2, .int .i64 y3] 34)).cell? ⟨w.heap.size + 1, 2, none⟩ = some (.int .i64 y2) := by rw [World.cell?_alloc_at _ _ _ _ (by simp)]; rfl
      have p8 : ((w.alloc (.cells #[.int .i64 x0, .int .i64 x1, .int .i64 x2, .int .i64 x3, .int .i64 x4] 32)).alloc (.cells #[.int .i64 y0, .int .i64 y1, .int .i64 y2, .int .i64 y3] 34)).cell? ⟨w.heap.size + 1, 3, none⟩ = some (.int .i64 y3) := by rw [World.cell?_alloc_at _ _ _ _ (by simp)]; rfl
      have hz : w.heap.size < ((w.alloc (.cells #[.int .i64 x0, .int .i64 x1, .int .i64 x2, .int .i64 x3, .int .i64 x4] 32)).alloc (.cells #[.int .i64 y0, .int .i64 y1, .int .i64 y2, .int .i64 y3] 34)).heap.size ∧ w.heap.size + 1 < ((w.alloc (.cells #[.int .i64 x0, .int .i64 x1, .int .i64 x2, .int .i64 x3, .int .i64 x4] 32)).alloc (.cells #[.int .i64 y0, .int .i64 y1, .int .i64 y2, .int .i64 y3] 34)).heap.size := by simp; omega
      have hw := Lib.hid (((Below.refl w.heap.size w).alloc (Nat.le_refl _) (.cells #[.int .i64 x0, .int .i64 x1, .int .i64 x2, .int .i64 x3, .int .i64 x4] 32)).alloc (by simp) (.cells #[.int .i64 y0, .int .i64 y1, .int .i64 y2, .int .i64 y3] 34))
      generalize hW1 : (w.alloc (.cells #[.int .i64 x0, .int .i64 x1, .int .i64 x2, .int .i64 x3, .int .i64 x4] 32)).alloc (.cells #[.int .i64 y0, .int .i64 y1, .int .i64 y2, .int .i64 y3] 34) = W1 at *
      clear hW1
      refine (awake_any _ (HE.out.below hw.out)).mono ?_
      rintro e w2 ⟨rfl, hb2⟩
      have q0 := (hb2.cell (p := ⟨w.heap.size, 0, none⟩) hz.1).trans p0
      have q1 := (hb2.cell (p := ⟨w.heap.size, 1, none⟩) hz.1).trans p1
      have q2 := (hb2.cell (p := ⟨w.heap.size, 2, none⟩) hz.1).trans p2
      have q3 := (hb2.cell (p := ⟨w.heap.size, 3, none⟩) hz.1).trans p3
      have q4 := (hb2.cell (p := ⟨w.heap.size, 4, none⟩) hz.1).trans p4
      have q5 := (hb2.cell (p := ⟨w.heap.size + 1, 0, none⟩) hz.2).trans p5
      have q6 := (hb2.cell (p := ⟨w.heap.size + 1, 1, none⟩) hz.2).trans p6
      have q7 := (hb2.cell (p := ⟨w.heap.size + 1, 2, none⟩) hz.2).trans p7
      have q8 := (hb2.cell (p := ⟨w.heap.size + 1, 3, none⟩) hz.2).trans p8
      have hz2 : w.heap.size < w2.heap.size ∧ w.heap.size + 1 < w2.heap.size := ⟨Nat.lt_of_lt_of_le hz.1 hb2.size, Nat.lt_of_lt_of_le hz.2 hb2.size⟩
      have hw2 := Lib.hid (hw.out.trans (hb2.mono hw.out.size))
      clear hb2 hz hw p0 p1 p2 p3 p4 p5 p6 p7 p8
      go_wp2_with fail
      refine (C1.out _).mono ?_
      rintro e w3 ⟨rfl, hb3⟩
      have p0 := (hb3.cell (p := ⟨w.heap.size, 0, none⟩) hz2.1).trans q0
      have p1 := (hb3.cell (p := ⟨w.heap.size, 1, none⟩) hz2.1).trans q1
      have p2 := (hb3.cell (p := ⟨w.heap.size, 2, none⟩) hz2.1).trans q2
      have p3 := (hb3.cell (p := ⟨w.heap.size, 3, none⟩) hz2.1).trans q3
      have p4 := (hb3.cell (p := ⟨w.heap.size, 4, none⟩) hz2.1).trans q4
      have p5 := (hb3.cell (p := ⟨w.heap.size + 1, 0, none⟩) hz2.2).trans q5
      have p6 := (hb3.cell (p := ⟨w.heap.size + 1, 1, none⟩) hz2.2).trans q6
      have p7 := (hb3.cell (p := ⟨w.heap.size + 1, 2, none⟩) hz2.2).trans q7
      have p8 := (hb3.cell (p := ⟨w.heap.size + 1, 3, none⟩) hz2.2).trans q8
      have hz3 : w.heap.size < w3.heap.size ∧ w.heap.size + 1 < w3.heap.size := ⟨Nat.lt_of_lt_of_le hz2.1 hb3.size, Nat.lt_of_lt_of_le hz2.2 hb3.size⟩
      have hw3 := Lib.hid (hw2.out.trans (hb3.mono hw2.out.size))
      clear hb3 hz2 hw2 q0 q1 q2 q3 q4 q5 q6 q7 q8
      go_wp2_with fail
      refine (N1.out _).mono ?_
      rintro e w4 ⟨rfl, hb4⟩
      have v0 := (hb4.cell (p := ⟨w3.heap.size, 0, none⟩) (by simp)).trans (show _ = some (Value.int .i64 lo) by rw [World.cell?_alloc_at _ _ _ _ (by simp)]; rfl)
      have v1 := (hb4.cell (p := ⟨w3.heap.size, 1, none⟩) (by simp)).trans (show _ = some (Value.int .i64 hi) by rw [World.cell?_alloc_at _ _ _ _ (by simp)]; rfl)
      have hzv : w3.heap.size < w4.heap.size := by have := hb4.size; simp at this; omega
      have hb4 := ((Below.refl _ w3).alloc (Nat.le_refl _) _).trans (hb4.mono (by simp))
      have q0 := (hb4.cell (p := ⟨w.heap.size, 0, none⟩) hz3.1).trans p0
      have q1 := (hb4.cell (p := ⟨w.heap.size, 1, none⟩) hz3.1).trans p1
      have q2 := (hb4.cell (p := ⟨w.heap.size, 2, none⟩) hz3.1).trans p2
      have q3 := (hb4.cell (p := ⟨w.heap.size, 3, none⟩) hz3.1).trans p3
      have q4 := (hb4.cell (p := ⟨w.heap.size, 4, none⟩) hz3.1).trans p4
      have q5 := (hb4.cell (p := ⟨w.heap.size + 1, 0, none⟩) hz3.2).trans p5
      have q6 := (hb4.cell (p := ⟨w.heap.size + 1, 1, none⟩) hz3.2).trans p6
      have q7 := (hb4.cell (p := ⟨w.heap.size + 1, 2, none⟩) hz3.2).trans p7
      have q8 := (hb4.cell (p := ⟨w.heap.size + 1, 3, none⟩) hz3.2).trans p8
      have hz4 : w.heap.size < w4.heap.size ∧ w.heap.size + 1 < w4.heap.size := ⟨Nat.lt_of_lt_of_le hz3.1 hb4.size, Nat.lt_of_lt_of_le hz3.2 hb4.size⟩
      have hw4 := Lib.hid (hw3.out.trans (hb4.mono hw3.out.size))
      clear hb4 hz3 hw3 p0 p1 p2 p3 p4 p5 p6 p7 p8
      go_wp2
      go_ret
      exact ⟨rfl, hw4.out⟩
    | true =>
      obtain ⟨g, d, h1, h2, h3, h4, h5, h6⟩ := encloses hg (Int.not_lt.1 k1) (Int.not_lt.1 k2) k3
      rw [hg] at C1
      rw [k3] at N1
      rw [h1] at G1
      clear hg k3 h1
      have k1 : decide (x2 < x0) = false := by simpa using k1
      have k2 : decide (x1 < x2) = false := by simpa using k2
      have k4 : decide (1 ≤ lo) = true := by simpa using h4
      have k5 : decide (lo ≤ g / 1024) = true := by simpa using h5
      have k6 : decide ((g + 1024 - 1) / 1024 ≤ hi) = true := by simp; omega
      go_enter Tryd.func4, Tryd.ntmps4
      go_wp2_with fail
      have p0 : ((w.alloc (.cells #[.int .i64 x0, .int .i64 x1, .int .i64 x2, .int .i64 x3, .int .i64 x4] 32)).alloc (.cells #[.int .i64 y0, .int .i64 y1, .int .i64 y2, .int .i64 y3] 34)).cell? ⟨w.heap.size, 0, none⟩ = some (.int .i64 x0) := (((Below.refl _ (w.alloc (.cells #[.int .i64 x0, .int .i64 x1, .int .i64 x2, .int .i64 x3, .int .i64 x4] 32))).alloc (Nat.le_refl _) (.cells #[.int .i64 y0, .int .i64 y1, .int .i64 y2, .int .i64 y3] 34)).cell (p := ⟨w.heap.size, 0, none⟩) (by simp)).trans (by rw [World.cell?_alloc_at _ _ _ _ (by simp)]; rfl)
      have p1 : ((w.alloc (.cells #[.int .i64 x0, .int .i64 x1, .int .i64 x2, .int .i64 x3, .int .i64 x4] 32)).alloc (.cells #[.int .i64 y0, .int .i64 y1, .int .i64 y2, .int .i64 y3] 34)).cell? ⟨w.heap.size, 1, none⟩ = some (.int .i64 x1) := (((Below.refl _ (w.alloc (.cells #[.int .i64 x0, .int .i64 x1, .int .i64 x2, .int .i64 x3, .int .i64 x4] 32))).alloc (Nat.le_refl _) (.cells #[.int .i64 y0, .int .i64 y1, .int .i64 y2, .int .i64 y3] 34)).cell (p := ⟨w.heap.size, 1, none⟩) (by simp)).trans (by rw [World.cell?_alloc_at _ _ _ _ (by simp)]; rfl)
      have p2 : ((w.alloc (.cells #[.int .i64 x0, .int .i64 x1, .int .i64 x2, .int .i64 x3, .int .i64 x4] 32)).alloc (.cells #[.int .i64 y0, .int .i64 y1, .int .i64 y2, .int .i64 y3] 34)).cell? ⟨w.heap.size, 2, none⟩ = some (.int .i64 x2) := (((Below.refl _ (w.alloc (.cells #[.int .i64 x0, .int .i64 x1, .int .i64 x2, .int .i64 x3, .int .i64 x4] 32))).alloc (Nat.le_refl _) (.cells #[.int .i64 y0, .int .i64 y1, .int .i64 y2, .int .i64 y3] 34)).cell (p := ⟨w.heap.size, 2, none⟩) (by simp)).trans (by rw [World.cell?_alloc_at _ _ _ _ (by simp)]; rfl)
      have p3 : ((w.alloc (.cells #[.int .i64 x0, .int .i64 x1, .int .i64 x2, .int .i64 x3, .int .i64 x4] 32)).alloc (.cells #[.int .i64 y0, .int .i64 y1, .int .i64 y2, .int .i64 y3] 34)).cell? ⟨w.heap.size, 3, none⟩ = some (.int .i64 x3) := (((Below.refl _ (w.alloc (.cells #[.int .i64 x0, .int .i64 x1, .int .i64 x2, .int .i64 x3, .int .i64 x4] 32))).alloc (Nat.le_refl _) (.cells #[.int .i64 y0, .int .i64 y1, .int .i64 y2, .int .i64 y3] 34)).cell (p := ⟨w.heap.size, 3, none⟩) (by simp)).trans (by rw [World.cell?_alloc_at _ _ _ _ (by simp)]; rfl)
      have p4 : ((w.alloc (.cells #[.int .i64 x0, .int .i64 x1, .int .i64 x2, .int .i64 x3, .int .i64 x4] 32)).alloc (.cells #[.int .i64 y0, .int .i64 y1, .int .i64 y2, .int .i64 y3] 34)).cell? ⟨w.heap.size, 4, none⟩ = some (.int .i64 x4) := (((Below.refl _ (w.alloc (.cells #[.int .i64 x0, .int .i64 x1, .int .i64 x2, .int .i64 x3, .int .i64 x4] 32))).alloc (Nat.le_refl _) (.cells #[.int .i64 y0, .int .i64 y1, .int .i64 y2, .int .i64 y3] 34)).cell (p := ⟨w.heap.size, 4, none⟩) (by simp)).trans (by rw [World.cell?_alloc_at _ _ _ _ (by simp)]; rfl)
      have p5 : ((w.alloc (.cells #[.int .i64 x0, .int .i64 x1, .int .i64 x2, .int .i64 x3, .int .i64 x4] 32)).alloc (.cells #[.int .i64 y0, .int .i64 y1, .int .i64 y2, .int .i64 y3] 34)).cell? ⟨w.heap.size + 1, 0, none⟩ = some (.int .i64 y0) := by rw [World.cell?_alloc_at _ _ _ _ (by simp)]; rfl
      have p6 : ((w.alloc (.cells #[.int .i64 x0, .int .i64 x1, .int .i64 x2, .int .i64 x3, .int .i64 x4] 32)).alloc (.cells #[.int .i64 y0, .int .i64 y1, .int .i64 y2, .int .i64 y3] 34)).cell? ⟨w.heap.size + 1, 1, none⟩ = some (.int .i64 y1) := by rw [World.cell?_alloc_at _ _ _ _ (by simp)]; rfl
      have p7 : ((w.alloc (.cells #[.int .i64 x0, .int .i64 x1, .int .i64 x2, .int .i64 x3, .int .i64 x4] 32)).alloc (.cells #[.int .i64 y0, .int .i64 y1, .int .i64 y2, .int .i64 y3] 34)).cell? ⟨w.heap.size + 1, 2, none⟩ = some (.int .i64 y2) := by rw [World.cell?_alloc_at _ _ _ _ (by simp)]; rfl
      have p8 : ((w.alloc (.cells #[.int .i64 x0, .int .i64 x1, .int .i64 x2, .int .i64 x3, .int .i64 x4] 32)).alloc (.cells #[.int .i64 y0, .int .i64 y1, .int .i64 y2, .int .i64 y3] 34)).cell? ⟨w.heap.size + 1, 3, none⟩ = some (.int .i64 y3) := by rw [World.cell?_alloc_at _ _ _ _ (by simp)]; rfl
      have hz : w.heap.size < ((w.alloc (.cells #[.int .i64 x0, .int .i64 x1, .int .i64 x2, .int .i64 x3, .int .i64 x4] 32)).alloc (.cells #[.int .i64 y0, .int .i64 y1, .int .i64 y2, .int .i64 y3] 34)).heap.size ∧ w.heap.size + 1 < ((w.alloc (.cells #[.int .i64 x0, .int .i64 x1, .int .i64 x2, .int .i64 x3, .int .i64 x4] 32)).alloc (.cells #[.int .i64 y0, .int .i64 y1, .int .i64 y2, .int .i64 y3] 34)).heap.size := by simp; omega
      have hw := Lib.hid (((Below.refl w.heap.size w).alloc (Nat.le_refl _) (.cells #[.int .i64 x0, .int .i64 x1, .int .i64 x2, .int .i64 x3, .int .i64 x4] 32)).alloc (by simp) (.cells #[.int .i64 y0, .int .i64 y1, .int .i64 y2, .int .i64 y3] 34))
      generalize hW1 : (w.alloc (.cells #[.int .i64 x0, .int .i64 x1, .int .i64 x2, .int .i64 x3, .int .i64 x4] 32)).alloc (.cells #[.int .i64 y0, .int .i64 y1, .int .i64 y2, .int .i64 y3] 34) = W1 at *
      clear hW1
      refine (awake_any _ (HE.out.below hw.out)).mono ?_
      rintro e w2 ⟨rfl, hb2⟩
      have q0 := (hb2.cell (p := ⟨w.heap.size, 0, none⟩) hz.1).trans p0
      have q1 := (hb2.cell (p := ⟨w.heap.size, 1, none⟩) hz.1).trans p1
      have q2 := (hb2.cell (p := ⟨w.heap.size, 2, none⟩) hz.1).trans p2
      have q3 := (hb2.cell (p := ⟨w.heap.size, 3, none⟩) hz.1).trans p3
      have q4 := (hb2.cell (p := ⟨w.heap.size, 4, none⟩) hz.1).trans p4
      have q5 := (hb2.cell (p := ⟨w.heap.size + 1, 0, none⟩) hz.2).trans p5
      have q6 := (hb2.cell (p := ⟨w.heap.size + 1, 1, none⟩) hz.2).trans p6
      have q7 := (hb2.cell (p := ⟨w.heap.size + 1, 2, none⟩) hz.2).trans p7
      have q8 := (hb2.cell (p := ⟨w.heap.size + 1, 3, none⟩) hz.2).trans p8
      have hz2 : w.heap.size < w2.heap.size ∧ w.heap.size + 1 < w2.heap.size := ⟨Nat.lt_of_lt_of_le hz.1 hb2.size, Nat.lt_of_lt_of_le hz.2 hb2.size⟩
      have hw2 := Lib.hid (hw.out.trans (hb2.mono hw.out.size))
      clear hb2 hz hw p0 p1 p2 p3 p4 p5 p6 p7 p8
      go_wp2_with fail
      refine (C1.out _).mono ?_
      rintro e w3 ⟨rfl, hb3⟩
      have p0 := (hb3.cell (p := ⟨w.heap.size, 0, none⟩) hz2.1).trans q0
      have p1 := (hb3.cell (p := ⟨w.heap.size, 1, none⟩) hz2.1).trans q1
      have p2 := (hb3.cell (p := ⟨w.heap.size, 2, none⟩) hz2.1).trans q2
      have p3 := (hb3.cell (p := ⟨w.heap.size, 3, none⟩) hz2.1).trans q3
      have p4 := (hb3.cell (p := ⟨w.heap.size, 4, none⟩) hz2.1).trans q4
      have p5 := (hb3.cell (p := ⟨w.heap.size + 1, 0, none⟩) hz2.2).trans q5
      have p6 := (hb3.cell (p := ⟨w.heap.size + 1, 1, none⟩) hz2.2).trans q6
      have p7 := (hb3.cell (p := ⟨w.heap.size + 1, 2, none⟩) hz2.2).trans q7
      have p8 := (hb3.cell (p := ⟨w.heap.size + 1, 3, none⟩) hz2.2).trans q8
      have hz3 : w.heap.size < w3.heap.size ∧ w.heap.size + 1 < w3.heap.size := ⟨Nat.lt_of_lt_of_le hz2.1 hb3.size, Nat.lt_of_lt_of_le hz2.2 hb3.size⟩
      have hw3 := Lib.hid (hw2.out.trans (hb3.mono hw2.out.size))
      clear hb3 hz2 hw2 q0 q1 q2 q3 q4 q5 q6 q7 q8
      go_wp2_with fail
      refine (N1.out _).mono ?_
      rintro e w4 ⟨rfl, hb4⟩
      have v0 := (hb4.cell (p := ⟨w3.heap.size, 0, none⟩) (by simp)).trans (show _ = some (Value.int .i64 lo) by rw [World.cell?_alloc_at _ _ _ _ (by simp)]; rfl)
      have v1 := (hb4.cell (p := ⟨w3.heap.size, 1, none⟩) (by simp)).trans (show _ = some (Value.int .i64 hi) by rw [World.cell?_alloc_at _ _ _ _ (by simp)]; rfl)
      have hzv : w3.heap.size < w4.heap.size := by have := hb4.size; simp at this; omega
      have hb4 := ((Below.refl _ w3).alloc (Nat.le_refl _) _).trans (hb4.mono (by simp))
      have q0 := (hb4.cell (p := ⟨w.heap.size, 0, none⟩) hz3.1).trans p0
      have q1 := (hb4.cell (p := ⟨w.heap.size, 1, none⟩) hz3.1).trans p1
      have q2 := (hb4.cell (p := ⟨w.heap.size, 2, none⟩) hz3.1).trans p2
      have q3 := (hb4.cell (p := ⟨w.heap.size, 3, none⟩) hz3.1).trans p3
      have q4 := (hb4.cell (p := ⟨w.heap.size, 4, none⟩) hz3.1).trans p4
      have q5 := (hb4.cell (p := ⟨w.heap.size + 1, 0, none⟩) hz3.2).trans p5
      have q6 := (hb4.cell (p := ⟨w.heap.size + 1, 1, none⟩) hz3.2).trans p6
      have q7 := (hb4.cell (p := ⟨w.heap.size + 1, 2, none⟩) hz3.2).trans p7
      have q8 := (hb4.cell (p := ⟨w.heap.size + 1, 3, none⟩) hz3.2).trans p8
      have hz4 : w.heap.size < w4.heap.size ∧ w.heap.size + 1 < w4.heap.size := ⟨Nat.lt_of_lt_of_le hz3.1 hb4.size, Nat.lt_of_lt_of_le hz3.2 hb4.size⟩
      have hw4 := Lib.hid (hw3.out.trans (hb4.mono hw3.out.size))
      clear hb4 hz3 hw3 p0 p1 p2 p3 p4 p5 p6 p7 p8
      go_wp2_with fail
      refine (G1.out _).mono ?_
      rintro e w5 ⟨rfl, hb5⟩
      have u0 := (hb5.cell (p := ⟨w3.heap.size, 0, none⟩) hzv).trans v0
      have u1 := (hb5.cell (p := ⟨w3.heap.size, 1, none⟩) hzv).trans v1
      have hw5 := Lib.hid (hw4.out.trans (hb5.mono hw4.out.size))
      clear hb5 v0 v1 hw4
      go_wp2
      go_ret
      exact ⟨rfl, hw5.out⟩
  · rw [hg] at C1
    clear G1 N1 hg
    go_enter Tryd.func4, Tryd.ntmps4
    go_wp2_with fail
    have p0 : ((w.alloc (.cells #[.int .i64 x0, .int .i64 x1, .int .i64 x2, .int .i64 x3, .int .i64 x4] 32)).alloc (.cells #[.int .i64 y0, .int .i64 y1, .int .i64 y2, .int .i64 y3] 34)).cell? ⟨w.heap.size, 0, none⟩ = some (.int .i64 x0) := (((Below.refl _ (w.alloc (.cells #[.int .i64 x0, .int .i64 x1, .int .i64 x2, .int .i64 x3, .int .i64 x4] 32))).alloc (Nat.le_refl _) (.cells #[.int .i64 y0, .int .i64 y1, .int .i64 y2, .int .i64 y3] 34)).cell (p := ⟨w.heap.size, 0, none⟩) (by simp)).trans (by rw [World.cell?_alloc_at _ _ _ _ (by simp)]; rfl)
    have p1 : ((w.alloc (.cells #[.int .i64 x0, .int .i64 x1, .int .i64 x2, .int .i64 x3, .int .i64 x4] 32)).alloc (.cells #[.int .i64 y0, .int .i64 y1, .int .i64 y2, .int .i64 y3] 34)).cell? ⟨w.heap.size, 1, none⟩ = some (.int .i64 x1) := (((Below.refl _ (w.alloc (.cells #[.int .i64 x0, .int .i64 x1, .int .i64 x2, .int .i64 x3, .int .i64 x4] 32))).alloc (Nat.le_refl _) (.cells #[.int .i64 y0, .int .i64 y1, .int .i64 y2, .int .i64 y3] 34)).cell (p := ⟨w.heap.size, 1, none⟩) (by simp)).trans (by rw [World.cell?_alloc_at _ _ _ _ (by simp)]; rfl)
    have p2 : ((w.alloc (.cells #[.int .i64 x0, .int .i64 x1, .int .i64 x2, .int .i64 x3, .int .i64 x4] 32)).alloc (.cells #[.int .i64 y0, .int .i64 y1, .int .i64 y2, .int .i64 y3] 34)).cell? ⟨w.heap.size, 2, none⟩ = some (.int .i64 x2) := (((Below.refl _ (w.alloc (.cells #[.int .i64 x0, .int .i64 x1, .int .i64 x2, .int .i64 x3, .int .i64 x4] 32))).alloc (Nat.le_refl _) (.cells #[.int .i64 y0, .int .i64 y1, .int .i64 y2, .int .i64 y3] 34)).cell (p := ⟨w.heap.size, 2, none⟩) (by simp)).trans (by rw [World.cell?_alloc_at _ _ _ _ (by simp)]; rfl)
    have p3 : ((w.alloc (.cells #[.int .i64 x0, .int .i64 x1, .int .i64 x2, .int .i64 x3, .int .i64 x4] 32)).alloc (.cells #[.int .i64 y0, .int .i64 y1, .int .i64 y2, .int .i64 y3] 34)).cell? ⟨w.heap.size, 3, none⟩ = some (.int .i64 x3) := (((Below.refl _ (w.alloc (.cells #[.int .i64 x0, .int .i64 x1, .int .i64 x2, .int .i64 x3, .int .i64 x4] 32))).alloc (Nat.le_refl _) (.cells #[.int .i64 y0, .int .i64 y1, .int .i64 y2, .int .i64 y3] 34)).cell (p := ⟨w.heap.size, 3, none⟩) (by simp)).trans (by rw [World.cell?_alloc_at _ _ _ _ (by simp)]; rfl)
    have p4 : ((w.alloc (.cells #[.int .i64 x0, .int .i64 x1, .int .i64 x2, .int .i64 x3, .int .i64 x4] 32)).alloc (.cells #[.int .i64 y0, .int .i64 y1, .int .i64 y2, .int .i64 y3] 34)).cell? ⟨w.heap.size, 4, none⟩ = some (.int .i64 x4) := (((Below.refl _ (w.alloc (.cells #[.int .i64 x0, .int .i64 x1, .int .i64 x2, .int .i64 x3, .int .i64 x4] 32))).alloc (Nat.le_refl _) (.cells #[.int .i64 y0, .int .i64 y1, .int .i64 y2, .int .i64 y3] 34)).cell (p := ⟨w.heap.size, 4, none⟩) (by simp)).trans (by rw [World.cell?_alloc_at _ _ _ _ (by simp)]; rfl)
    have p5 : ((w.alloc (.cells #[.int .i64 x0, .int .i64 x1, .int .i64 x2, .int .i64 x3, .int .i64 x4] 32)).alloc (.cells #[.int .i64 y0, .int .i64 y1, .int .i64 y2, .int .i64 y3] 34)).cell? ⟨w.heap.size + 1, 0, none⟩ = some (.int .i64 y0) := by rw [World.cell?_alloc_at _ _ _ _ (by simp)]; rfl
    have p6 : ((w.alloc (.cells #[.int .i64 x0, .int .i64 x1, .int .i64 x2, .int .i64 x3, .int .i64 x4] 32)).alloc (.cells #[.int .i64 y0, .int .i64 y1, .int .i64 y2, .int .i64 y3] 34)).cell? ⟨w.heap.size + 1, 1, none⟩ = some (.int .i64 y1) := by rw [World.cell?_alloc_at _ _ _ _ (by simp)]; rfl
    have p7 : ((w.alloc (.cells #[.int .i64 x0, .int .i64 x1, .int .i64 x2, .int .i64 x3, .int .i64 x4] 32)).alloc (.cells #[.int .i64 y0, .int .i64 y1, .int .i64 y2, .int .i64 y3] 34)).cell? ⟨w.heap.size + 1, 2, none⟩ = some (.int .i64 y2) := by rw [World.cell?_alloc_at _ _ _ _ (by simp)]; rfl
    have p8 : ((w.alloc (.cells #[.int .i64 x0, .int .i64 x1, .int .i64 x2, .int .i64 x3, .int .i64 x4] 32)).alloc (.cells #[.int .i64 y0, .int .i64 y1, .int .i64 y2, .int .i64 y3] 34)).cell? ⟨w.heap.size + 1, 3, none⟩ = some (.int .i64 y3) := by rw [World.cell?_alloc_at _ _ _ _ (by simp)]; rfl
    have hz : w.heap.size < ((w.alloc (.cells #[.int .i64 x0, .int .i64 x1, .int .i64 x2, .int .i64 x3, .int .i64 x4] 32)).alloc (.cells #[.int .i64 y0, .int .i64 y1, .int .i64 y2, .int .i64 y3] 34)).heap.size ∧ w.heap.size + 1 < ((w.alloc (.cells #[.int .i64 x0, .int .i64 x1, .int .i64 x2, .int .i64 x3, .int .i64 x4] 32)).alloc (.cells #[.int .i64 y0, .int .i64 y1, .int .i64 y2, .int .i64 y3] 34)).heap.size := by simp; omega
    have hw := Lib.hid (((Below.refl w.heap.size w).alloc (Nat.le_refl _) (.cells #[.int .i64 x0, .int .i64 x1, .int .i64 x2, .int .i64 x3, .int .i64 x4] 32)).alloc (by simp) (.cells #[.int .i64 y0, .int .i64 y1, .int .i64 y2, .int .i64 y3] 34))
    generalize hW1 : (w.alloc (.cells #[.int .i64 x0, .int .i64 x1, .int .i64 x2, .int .i64 x3, .int .i64 x4] 32)).alloc (.cells #[.int .i64 y0, .int .i64 y1, .int .i64 y2, .int .i64 y3] 34) = W1 at *
    clear hW1
    refine (awake_any _ (HE.out.below hw.out)).mono ?_
    rintro e w2 ⟨rfl, hb2⟩
    have q0 := (hb2.cell (p := ⟨w.heap.size, 0, none⟩) hz.1).trans p0
    have q1 := (hb2.cell (p := ⟨w.heap.size, 1, none⟩) hz.1).trans p1
    have q2 := (hb2.cell (p := ⟨w.heap.size, 2, none⟩) hz.1).trans p2
    have q3 := (hb2.cell (p := ⟨w.heap.size, 3, none⟩) hz.1).trans p3
    have q4 := (hb2.cell (p := ⟨w.heap.size, 4, none⟩) hz.1).trans p4
    have q5 := (hb2.cell (p := ⟨w.heap.size + 1, 0, none⟩) hz.2).trans p5
    have q6 := (hb2.cell (p := ⟨w.heap.size + 1, 1, none⟩) hz.2).trans p6
    have q7 := (hb2.cell (p := ⟨w.heap.size + 1, 2, none⟩) hz.2).trans p7
    have q8 := (hb2.cell (p := ⟨w.heap.size + 1, 3, none⟩) hz.2).trans p8
    have hz2 : w.heap.size < w2.heap.size ∧ w.heap.size + 1 < w2.heap.size := ⟨Nat.lt_of_lt_of_le hz.1 hb2.size, Nat.lt_of_lt_of_le hz.2 hb2.size⟩
    have hw2 := Lib.hid (hw.out.trans (hb2.mono hw.out.size))
    clear hb2 hz hw p0 p1 p2 p3 p4 p5 p6 p7 p8
    go_wp2_with fail
    refine (C1.out _).mono ?_
    rintro e w3 ⟨rfl, hb3⟩
    have p0 := (hb3.cell (p := ⟨w.heap.size, 0, none⟩) hz2.1).trans q0
    have p1 := (hb3.cell (p := ⟨w.heap.size, 1, none⟩) hz2.1).trans q1
    have p2 := (hb3.cell (p := ⟨w.heap.size, 2, none⟩) hz2.1).trans q2
    have p3 := (hb3.cell (p := ⟨w.heap.size, 3, none⟩) hz2.1).trans q3
    have p4 := (hb3.cell (p := ⟨w.heap.size, 4, none⟩) hz2.1).trans q4
    have p5 := (hb3.cell (p := ⟨w.heap.size + 1, 0, none⟩) hz2.2).trans q5
    have p6 := (hb3.cell (p := ⟨w.heap.size + 1, 1, none⟩) hz2.2).trans q6
    have p7 := (hb3.cell (p := ⟨w.heap.size + 1, 2, none⟩) hz2.2).trans q7
    have p8 := (hb3.cell (p := ⟨w.heap.size + 1, 3, none⟩) hz2.2).trans q8
    have hz3 : w.heap.size < w3.heap.size ∧ w.heap.size + 1 < w3.heap.size := ⟨Nat.lt_of_lt_of_le hz2.1 hb3.size, Nat.lt_of_lt_of_le hz2.2 hb3.size⟩
    have hw3 := Lib.hid (hw2.out.trans (hb3.mono hw2.out.size))
    clear hb3 hz2 hw2 q0 q1 q2 q3 q4 q5 q6 q7 q8
    go_wp2
    go_ret
    exact ⟨rfl, hw3.out.alloc hw3.out.size _⟩
  · rw [hg] at C1
    clear G1 N1 hg
    go_enter Tryd.func4, Tryd.ntmps4
    go_wp2_with fail
    have p0 : ((w.alloc (.cells #[.int .i64 x0, .int .i64 x1, .int .i64 x2, .int .i64 x3, .int .i64 x4] 32)).alloc (.cells #[.int .i64 y0, .int .i64 y1, .int .i64 y2, .int .i64 y3] 34)).cell? ⟨w.heap.size, 0, none⟩ = some (.int .i64 x0) := (((Below.refl _ (w.alloc (.cells #[.int .i64 x0, .int .i64 x1, .int .i64 x2, .int .i64 x3, .int .i64 x4] 32))).alloc (Nat.le_refl _) (.cells #[.int .i64 y0, .int .i64 y1, .int .i64 y2, .int .i64 y3] 34)).cell (p := ⟨w.heap.size, 0, none⟩) (by simp)).trans (by rw [World.cell?_alloc_at _ _ _ _ (by simp)]; rfl)
    have p1 : ((w.alloc (.cells #[.int .i64 x0, .int .i64 x1, .int .i64 x2, .int .i64 x3, .int .i64 x4] 32)).alloc (.cells #[.int .i64 y0, .int .i64 y1, .int .i64 y2, .int .i64 y3] 34)).cell? ⟨w.heap.size, 1, none⟩ = some (.int .i64 x1) := (((Below.refl _ (w.alloc (.cells #[.int .i64 x0, .int .i64 x1, .int .i64 x2, .int .i64 x3, .int .i64 x4] 32))).alloc (Nat.le_refl _) (.cells #[.int .i64 y0, .int .i64 y1, .int .i64 y2, .int .i64 y3] 34)).cell (p := ⟨w.heap.size, 1, none⟩) (by simp)).trans (by rw [World.cell?_alloc_at _ _ _ _ (by simp)]; rfl)
    have p2 : ((w.alloc (.cells #[.int .i64 x0, .int .i64 x1, .int .i64 x2, .int .i64 x3, .int .i64 x4] 32)).alloc (.cells #[.int .i64 y0, .int .i64 y1, .int .i64 y2, .int .i64 y3] 34)).cell? ⟨w.heap.size, 2, none⟩ = some (.int .i64 x2) := (((Below.refl _ (w.alloc (.cells #[.int .i64 x0, .int .i64 x1, .int .i64 x2, .int .i64 x3, .int .i64 x4] 32))).alloc (Nat.le_refl _) (.cells #[.int .i64 y0, .int .i64 y1, .int .i64 y2, .int .i64 y3] 34)).cell (p := ⟨w.heap.size, 2, none⟩) (by simp)).trans (by rw [World.cell?_alloc_at _ _ _ _ (by simp)]; rfl)
    have p3 : ((w.alloc (.cells #[.int .i64 x0, .int .i64 x1, .int .i64 x2, .int .i64 x3, .int .i64 x4] 32)).alloc (.cells #[.int .i64 y0, .int .i64 y1, .int .i64 y2, .int .i64 y3] 34)).cell? ⟨w.heap.size, 3, none⟩ = some (.int .i64 x3) := (((Below.refl _ (w.alloc (.cells #[.int .i64 x0, .int .i64 x1, .int .i64 x2, .int .i64 x3, .int .i64 x4] 32))).alloc (Nat.le_refl _) (.cells #[.int .i64 y0, .int .i64 y1, .int .i64 y2, .int .i64 y3] 34)).cell (p := ⟨w.heap.size, 3, none⟩) (by simp)).trans (by rw [World.cell?_alloc_at _ _ _ _ (by simp)]; rfl)
    have p4 : ((w.alloc (.cells #[.int .i64 x0, .int .i64 x1, .int .i64 x2, .int .i64 x3, .int .i64 x4] 32)).alloc (.cells #[.int .i64 y0, .int .i64 y1, .int .i64 y2, .int .i64 y3] 34)).cell? ⟨w.heap.size, 4, none⟩ = some (.int .i64 x4) := (((Below.refl _ (w.alloc (.cells #[.int .i64 x0, .int .i64 x1, .int .i64 x2, .int .i64 x3, .int .i64 x4] 32))).alloc (Nat.le_refl _) (.cells #[.int .i64 y0, .int .i64 y1, .int .i64 y2, .int .i64 y3] 34)).cell (p := ⟨w.heap.size, 4, none⟩) (by simp)).trans (by rw [World.cell?_alloc_at _ _ _ _ (by simp)]; rfl)
    have p5 : ((w.alloc (.cells #[.int .i64 x0, .int .i64 x1, .int .i64 x2, .int .i64 x3, .int .i64 x4] 32)).alloc (.cells #[.int .i64 y0, .int .i64 y1, .int .i64 y2, .int .i64 y3] 34)).cell? ⟨w.heap.size + 1, 0, none⟩ = some (.int .i64 y0) := by rw [World.cell?_alloc_at _ _ _ _ (by simp)]; rfl
    have p6 : ((w.alloc (.cells #[.int .i64 x0, .int .i64 x1, .int .i64 x2, .int .i64 x3, .int .i64 x4] 32)).alloc (.cells #[.int .i64 y0, .int .i64 y1, .int .i64 y2, .int .i64 y3] 34)).cell? ⟨w.heap.size + 1, 1, none⟩ = some (.int .i64 y1) := by rw [World.cell?_alloc_at _ _ _ _ (by simp)]; rfl
    have p7 : ((w.alloc (.cells #[.int .i64 x0, .int .i64 x1, .int .i64 x2, .int .i64 x3, .int .i64 x4] 32)).alloc (.cells #[.int .i64 y0, .int .i64 y1, .int .i64 y2, .int .i64 y3] 34)).cell? ⟨w.heap.size + 1, 2, none⟩ = some (.int .i64 y2) := by rw [World.cell?_alloc_at _ _ _ _ (by simp)]; rfl
    have p8 : ((w.alloc (.cells #[.int .i64 x0, .int .i64 x1, .int .i64 x2, .int .i64 x3, .int .i64 x4] 32)).alloc (.cells #[.int .i64 y0, .int .i64 y1, .int .i64 y2, .int .i64 y3] 34)).cell? ⟨w.heap.size + 1, 3, none⟩ = some (.int .i64 y3) := by rw [World.cell?_alloc_at _ _ _ _ (by simp)]; rfl
    have hz : w.heap.size < ((w.alloc (.cells #[.int .i64 x0, .int .i64 x1, .int .i64 x2, .int .i64 x3, .int .i64 x4] 32)).alloc (.cells #[.int .i64 y0, .int .i64 y1, .int .i64 y2, .int .i64 y3] 34)).heap.size ∧ w.heap.size + 1 < ((w.alloc (.cells #[.int .i64 x0, .int .i64 x1, .int .i64 x2, .int .i64 x3, .int .i64 x4] 32)).alloc (.cells #[.int .i64 y0, .int .i64 y1, .int .i64 y2, .int .i64 y3] 34)).heap.size := by simp; omega
    have hw := Lib.hid (((Below.refl w.heap.size w).alloc (Nat.le_refl _) (.cells #[.int .i64 x0, .int .i64 x1, .int .i64 x2, .int .i64 x3, .int .i64 x4] 32)).alloc (by simp) (.cells #[.int .i64 y0, .int .i64 y1, .int .i64 y2, .int .i64 y3] 34))
    generalize hW1 : (w.alloc (.cells #[.int .i64 x0, .int .i64 x1, .int .i64 x2, .int .i64 x3, .int .i64 x4] 32)).alloc (.cells #[.int .i64 y0, .int .i64 y1, .int .i64 y2, .int .i64 y3] 34) = W1 at *
    clear hW1
    refine (awake_any _ (HE.out.below hw.out)).mono ?_
    rintro e w2 ⟨rfl, hb2⟩
    have q0 := (hb2.cell (p := ⟨w.heap.size, 0, none⟩) hz.1).trans p0
    have q1 := (hb2.cell (p := ⟨w.heap.size, 1, none⟩) hz.1).trans p1
    have q2 := (hb2.cell (p := ⟨w.heap.size, 2, none⟩) hz.1).trans p2
    have q3 := (hb2.cell (p := ⟨w.heap.size, 3, none⟩) hz.1).trans p3
    have q4 := (hb2.cell (p := ⟨w.heap.size, 4, none⟩) hz.1).trans p4
    have q5 := (hb2.cell (p := ⟨w.heap.size + 1, 0, none⟩) hz.2).trans p5
    have q6 := (hb2.cell (p := ⟨w.heap.size + 1, 1, none⟩) hz.2).trans p6
    have q7 := (hb2.cell (p := ⟨w.heap.size + 1, 2, none⟩) hz.2).trans p7
    have q8 := (hb2.cell (p := ⟨w.heap.size + 1, 3, none⟩) hz.2).trans p8
    have hz2 : w.heap.size < w2.heap.size ∧ w.heap.size + 1 < w2.heap.size := ⟨Nat.lt_of_lt_of_le hz.1 hb2.size, Nat.lt_of_lt_of_le hz.2 hb2.size⟩
    have hw2 := Lib.hid (hw.out.trans (hb2.mono hw.out.size))
    clear hb2 hz hw p0 p1 p2 p3 p4 p5 p6 p7 p8
    go_wp2_with fail
    refine (C1.out _).mono ?_
    rintro e w3 ⟨rfl, hb3⟩
    have p0 := (hb3.cell (p := ⟨w.heap.size, 0, none⟩) hz2.1).trans q0
    have p1 := (hb3.cell (p := ⟨w.heap.size, 1, none⟩) hz2.1).trans q1
    have p2 := (hb3.cell (p := ⟨w.heap.size, 2, none⟩) hz2.1).trans q2
    have p3 := (hb3.cell (p := ⟨w.heap.size, 3, none⟩) hz2.1).trans q3
    have p4 := (hb3.cell (p := ⟨w.heap.size, 4, none⟩) hz2.1).trans q4
    have p5 := (hb3.cell (p := ⟨w.heap.size + 1, 0, none⟩) hz2.2).trans q5
    have p6 := (hb3.cell (p := ⟨w.heap.size + 1, 1, none⟩) hz2.2).trans q6
    have p7 := (hb3.cell (p := ⟨w.heap.size + 1, 2, none⟩) hz2.2).trans q7
    have p8 := (hb3.cell (p := ⟨w.heap.size + 1, 3, none⟩) hz2.2).trans q8
    have hz3 : w.heap.size < w3.heap.size ∧ w.heap.size + 1 < w3.heap.size := ⟨Nat.lt_of_lt_of_le hz2.1 hb3.size, Nat.lt_of_lt_of_le hz2.2 hb3.size⟩
    have hw3 := Lib.hid (hw2.out.trans (hb3.mono hw2.out.size))
    clear hb3 hz2 hw2 q0 q1 q2 q3 q4 q5 q6 q7 q8
    go_wp2
    go_ret
    exact ⟨rfl, hw3.out.alloc hw3.out.size _⟩

/-! ### the row's step -/
theorem contract (H : Type) (enc : TypeId × Value → H) (W : World) (base : Nat) (args : Array Value) (ds gs : List (DataW H)) (before : List MemPlace)
    (hval : ∀ (j : Nat) t v, Tryd.f4.params[j]? = some t → args[j]? = some v → Value.okWide Tryd.prog W .any base t v)
    (hW : DataW.Whole enc Tryd.prog Tryd.f4.params.toList Rows.windEnclosesSpec.vars false W args.toList ds gs before) (hL : laidMetH Tryd.prog Rows.windEnclosesRow.laid W) (hsh : W.ShapedOpen Tryd.prog) :
    Calls Tryd.prog 4 args W fun e W' => ∃ v, e = .returned v ∧ Rows.windEnclosesSpec.post enc Tryd.prog Tryd.f4 false true false false W args v W' := by
  have hW' := hW
  obtain ⟨p, q, hA0, hV, rfl, hfz, hnd⟩ := hW
  have hA : DataW.TrodAll enc Tryd.prog W 0 (fun _ => true) true Tryd.f4.params.toList args.toList ds p := hA0
  rw [Tryd.params4] at hA hval
  obtain ⟨v0, vs0, d0, ds0, p0, q0, hargs, rfl, rfl, h0, r0⟩ := trodAll_cons hA
  obtain ⟨v1, vs1, d1, ds1, p1, q1, rfl, rfl, rfl, h1, r1⟩ := trodAll_cons r0
  obtain ⟨v2, vs2, d2, ds2, p2, q2, rfl, rfl, rfl, h2, r2⟩ := trodAll_cons r1
  obtain ⟨rfl, rfl, rfl⟩ := trodAll_nil r2
  obtain rfl : args = #[v0, v1, v2] := by cases args; simp_all
  obtain ⟨rfl, rfl⟩ := trodVars_none hV
  obtain ⟨a0, rfl, rfl, rfl, w0⟩ := open_int Tryd.underlying2 (hval 0 2 v0 rfl rfl) h0
  obtain ⟨x1_0, x1_1, x1_2, x1_3, x1_4, rfl, rfl, rfl, w1_0, w1_1, w1_2, w1_3, w1_4⟩ := open_flight (hval 1 32 v1 rfl rfl) h1
  obtain ⟨x2_0, x2_1, x2_2, x2_3, rfl, rfl, rfl, w2_0, w2_1, w2_2, w2_3⟩ := open_windbox (hval 2 34 v2 rfl rfl) h2
  clear hA0
  simp only [List.append_nil] at hW'
  refine (walk a0 x1_0 x1_1 x1_2 x1_3 x1_4 x2_0 x2_1 x2_2 x2_3 (bd64 w0).1 (bd64 w0).2 (bd64 w1_0).1 (bd64 w1_0).2 (bd64 w1_1).1 (bd64 w1_1).2 (bd64 w1_2).1 (bd64 w1_2).2 (bd64 w1_3).1 (bd64 w1_3).2 (bd64 w1_4).1 (bd64 w1_4).2 (bd64 w2_0).1 (bd64 w2_0).2 (bd64 w2_1).1 (bd64 w2_1).2 (bd64 w2_2).1 (bd64 w2_2).2 (bd64 w2_3).1 (bd64 w2_3).2 W (env_of hL hsh)).mono fun e W' ⟨he, hb⟩ => ?_
  subst he
  exact ⟨_, rfl, post_of_below (pa := []) (pv := []) hW' (fun _ _ _ => trodAll_cons_mk (shut_bool Tryd.underlying4 _) trodAll_mk0) (fun sp _ => (trodAll_cons_mk (shut_int Tryd.underlying2 w0) (trodAll_cons_mk (shut_flight w1_0 w1_1 w1_2 w1_3 w1_4) (trodAll_cons_mk (shut_windbox w2_0 w2_1 w2_2 w2_3) trodAll_mk0)))) (fun _ _ => rfl) rfl
    hb (ok_one (by kernel_rfl) rfl (okWide_bool_mk Tryd.underlying4 _))⟩

theorem reads (os : Os) {H : Type} (enc : TypeId × Value → H) : ∃ places, DataW.whole enc Tryd.prog ((laidWorld os).forCall (fun _ _ => 0) ⟨#[], #[.int .i64 0, .agg #[.int .i64 0, .int .i64 0, .int .i64 0, .int .i64 0, .int .i64 0], .agg #[.int .i64 0, .int .i64 0, .int .i64 0, .int .i64 0]], []⟩).memory Tryd.f4.params.toList Rows.windEnclosesSpec.vars false (#[.int .i64 0, .agg #[.int .i64 0, .int .i64 0, .int .i64 0, .int .i64 0, .int .i64 0], .agg #[.int .i64 0, .int .i64 0, .int .i64 0, .int .i64 0]] : Array Value).toList 8 = some ([.lit (.int .i64 0), .agg [.agg [.lit (.int .i64 0), .lit (.int .i64 0)], .lit (.int .i64 0), .agg [.lit (.int .i64 0), .lit (.int .i64 0)]], .agg [.agg [.lit (.int .i64 0), .lit (.int .i64 0)], .agg [.lit (.int .i64 0), .lit (.int .i64 0)]]], [], places) :=
  ⟨[], by kernel_rfl⟩

set_option maxRecDepth 100000 in
theorem lifted (os : Os) (started : os.Started) (H : Type) (enc : TypeId × Value → H) (F : Stop.Interp) :
    ReturnsInHanded {} Tryd.checked os 4 .any ((OpenSpec.ofChange Rows.windEnclosesSpec).preRow enc Tryd.prog Tryd.f4 Rows.windEnclosesRow.domain false Rows.windEnclosesRow.laid) (((OpenSpec.ofChange Rows.windEnclosesSpec).at F).post enc Tryd.prog Tryd.f4 false true false false) := by
  obtain ⟨places, hx⟩ := reads os enc
  refine returnsInHanded_of_row (C := Tryd.checked) (s := OpenSpec.ofChange Rows.windEnclosesSpec) own started (by kernel_rfl) Tryd.func4
    (witness_row_at (enc := enc) (C := Tryd.checked) false (laidWorld os) #[.int .i64 0, .agg #[.int .i64 0, .int .i64 0, .int .i64 0, .int .i64 0, .int .i64 0], .agg #[.int .i64 0, .int .i64 0, .int .i64 0, .int .i64 0]] rfl (by kernel_rfl) (by kernel_rfl) (by kernel_rfl)
      (OpenSpec.preRow_of_cond 8 hx (by kernel_rfl) (fun k hk => by cases hk) (by kernel_rfl) (laid_met_any os _))) ?_
  intro W base args ds gs before hval hW _ _ _ hL hsh _
  exact contract H enc W base args ds gs before hval hW hL hsh

theorem said : Rows.WindEnclosesSaid :=
  OpenClaim.holds_of_cond 4 Tryd.f4 rfl rfl rfl rfl rfl rfl rfl ⟨rfl, rfl, rfl, rfl, rfl⟩ rfl rfl rfl rfl rfl (by kernel_rfl) Tryd.func4 (by kernel_rfl)
    (of_decide_eq_true (by kernel_rfl)) (by unfold Func.isWrapper; first | (rw [if_pos (by decide +kernel)]; kernel_rfl) | (rw [if_neg (by decide +kernel)]; exact ⟨rfl, rfl⟩))
    (fun os started H enc _ F => by rw [OpenClaim.pre_eq_preRow]; exact lifted os started H enc F)

theorem plain (f : FuncId) (fn : Func) (hf : Tryd.pinned.checked.prog.funcNamed "flightdeck/flightdecklaw13.WindEncloses" = some f) (hfn : Tryd.pinned.checked.prog.funcs[f]? = some fn) :
    false = Tryd.pinned.checked.prog.looks [] ∧ ∀ (j : Nat) t, fn.params[j]? = some t → Tryd.pinned.checked.prog.wantsStandIn t = false := by
  obtain rfl : f = 4 := Option.some.inj ((show Tryd.prog.funcNamed "flightdeck/flightdecklaw13.WindEncloses" = some 4 by kernel_rfl).symm.trans hf) |>.symm
  obtain rfl : fn = Tryd.f4 := (Option.some.inj (Tryd.func4.symm.trans hfn)).symm
  refine ⟨by kernel_rfl, fun j t ht => ?_⟩
  rw [Tryd.params4] at ht
  have hm := Array.mem_of_getElem? ht
  simp only [List.mem_toArray, List.mem_cons, List.not_mem_nil, or_false] at hm
  rcases hm with rfl | rfl | rfl
  · exact (show Tryd.prog.wantsStandIn 2 = false by kernel_rfl)
  · exact (show Tryd.prog.wantsStandIn 32 = false by kernel_rfl)
  · exact (show Tryd.prog.wantsStandIn 34 = false by kernel_rfl)
/-- the law -/
theorem card : Rows.WindEnclosesCardSaid :=
  Claim7.holds_tied_plain_at .later [] _ _ _ _ said (fun _ h => by cases h) (by kernel_rfl) (fun _ h => by cases h) windEncloses_row_tie rfl ⟨rfl, rfl⟩ (by kernel_rfl) rfl plain (by kernel_rfl)
end Go.Proofs.YtdfpbojlimeccaaDoor.windEncloses

