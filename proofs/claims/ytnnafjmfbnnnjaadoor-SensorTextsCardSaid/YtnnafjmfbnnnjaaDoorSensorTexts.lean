/-
  The law SensorTexts holds for every input: the text of a report is the specified one, and Parse returns the report. No condition.
-/
import Derived.Test.YtnnafjmfbnnnjaaDoorStructs41
import Derived.Test.YtnnafjmfbnnnjaaDoorAwake41
import Derived.Test.YtnnafjmfbnnnjaaDoorParseRef
import Derived.Test.YtnnafjmfbnnnjaaDoorParseLaw
import Derived.Test.YtnnafjmfbnnnjaaDoorTextRef41
import Derived.Test.YtnnafjmfbnnnjaaDoorFrame41b
namespace Go.Proofs.YtnnafjmfbnnnjaaDoor.sensorTexts
set_option linter.unusedVariables false
open Go.ChangeShapes Go.WideShapes Go.ChangeAt Go.RowKit Tr Sq

theorem textF_size (s k x y v b wt t : Int) : (⟨(textF s k x y v b wt t).toArray⟩ : ByteArray).size ≤ 1000 := by
  show (textF s k x y v b wt t).length ≤ 1000
  unfold textF
  split
  · rename_i h
    obtain ⟨⟨s0, s1⟩, hk, ⟨x0, x1, y0, y1⟩, ⟨v0, v1⟩, ⟨b0, b1⟩, ⟨t0, t1⟩, u0, u1⟩ := check_bd h
    have hl := joinN_len (Lib.itoa s ++ [32, letterK k]) [x, y, v, b, wt, t] (fun n hn => by simp only [List.mem_cons, List.not_mem_nil, or_false] at hn; omega)
    have ls := Lib.itoa_length_le s (by omega) (by omega)
    unfold textL
    simp only [List.length_append, List.length_cons, List.length_nil] at hl
    omega
  · simp
set_option maxHeartbeats 8000000 in
set_option maxRecDepth 100000 in
theorem walk (s k x y v b wt t : Int) (s_a : -9223372036854775808 ≤ s) (s_b : s ≤ 9223372036854775807) (k_a : 0 ≤ k) (k_b : k ≤ 255) (x_a : -9223372036854775808 ≤ x) (x_b : x ≤ 9223372036854775807) (y_a : -9223372036854775808 ≤ y) (y_b : y ≤ 9223372036854775807) (v_a : -9223372036854775808 ≤ v) (v_b : v ≤ 9223372036854775807) (b_a : -9223372036854775808 ≤ b) (b_b : b ≤ 9223372036854775807) (wt_a : -9223372036854775808 ≤ wt) (wt_b : wt ≤ 9223372036854775807) (t_a : -9223372036854775808 ≤ t) (t_b : t ≤ 9223372036854775807) (w : World) (hE : Env w) :
    Calls Tryd.prog 10 #[.agg #[.int .i64 s, .int .u8 k, .int .i64 x, .int .i64 y, .int .i64 v, .int .i64 b, .int .i64 wt, .int .i64 t]] w fun e w' => e = .returned (.bool true) ∧ Below w.heap.size w w' := by
  have HE := Lib.hid hE
  clear hE
  have hsz := textF_size s k x y v b wt t
  have T1 := fun w hE => text_any s k x y v b wt t w hE k_a k_b
  have T2 := fun w => text_ref s k x y v b wt t w k_a k_b
  have C1 := fun w => check_any s k x y v b wt t w k_a k_b
  obtain ⟨T, hT⟩ : ∃ T : ByteArray, (⟨(textF s k x y v b wt t).toArray⟩ : ByteArray) = T := ⟨_, rfl⟩
  unfold RetB at T1 T2
  rw [hT] at T1 T2 hsz
  have hTl : T.data.toList = textF s k x y v b wt t := by rw [← hT]
  have P1 := fun w hE => parse_any T w hE hsz
  rw [hTl] at P1
  have HT1 := Lib.hid T1
  have HT2 := Lib.hid T2
  by_cases h : checkI s k x y v b wt t = 0
  · have e : textF s k x y v b wt t = textL s k x y v b wt t := by unfold textF; rw [if_pos h]
    rw [e, parse_text h] at P1
    rw [h] at C1
    have HP := Lib.hid P1
    have HC := Lib.hid C1
    clear P1 C1 T1 T2 hT hTl e h hsz
    go_enter Tryd.func10, Tryd.ntmps10
    go_wp2_with fail
    have c0_0_0 : (w.alloc (.cells #[.int .i64 s, .int .u8 k, .int .i64 x, .int .i64 y, .int .i64 v, .int .i64 b, .int .i64 wt, .int .i64 t] 26)).cell? ⟨w.heap.size, 0, none⟩ = some (.int .i64 s) := by rw [World.cell?_alloc_at _ _ _ _ (by simp)]; rfl
    have c0_0_1 : (w.alloc (.cells #[.int .i64 s, .int .u8 k, .int .i64 x, .int .i64 y, .int .i64 v, .int .i64 b, .int .i64 wt, .int .i64 t] 26)).cell? ⟨w.heap.size, 1, none⟩ = some (.int .u8 k) := by rw [World.cell?_alloc_at _ _ _ _ (by simp)]; rfl
    have c0_0_2 : (w.alloc (.cells #[.int .i64 s, .int .u8 k, .int .i64 x, .int .i64 y, .int .i64 v, .int .i64 b, .int .i64 wt, .int .i64 t] 26)).cell? ⟨w.heap.size, 2, none⟩ = some (.int .i64 x) := by rw [World.cell?_alloc_at _ _ _ _ (by simp)]; rfl
    have c0_0_3 : (w.alloc (.cells #[.int .i64 s, .int .u8 k, .int .i64 x, .int .i64 y, .int .i64 v, .int .i64 b, .int .i64 wt, .int .i64 t] 26)).cell? ⟨w.heap.size, 3, none⟩ = some (.int .i64 y) := by rw [World.cell?_alloc_at _ _ _ _ (by simp)]; rfl
    have c0_0_4 : (w.alloc (.cells #[.int .i64 s, .int .u8 k, .int .i64 x, .int .i64 y, .int .i64 v, .int .i64 b, .int .i64 wt, .int .i64 t] 26)).cell? ⟨w.heap.size, 4, none⟩ = some (.int .i64 v) := by rw [World.cell?_alloc_at _ _ _ _ (by simp)]; rfl
    have c0_0_5 : (w.alloc (.cells #[.int .i64 s, .int .u8 k, .int .i64 x, .int .i64 y, .int .i64 v, .int .i64 b, .int .i64 wt, .int .i64 t] 26)).cell? ⟨w.heap.size, 5, none⟩ = some (.int .i64 b) := by rw [World.cell?_alloc_at _ _ _ _ (by simp)]; rfl
    have c0_0_6 : (w.alloc (.cells #[.int .i64 s, .int .u8 k, .int .i64 x, .int .i64 y, .int .i64 v, .int .i64 b, .int .i64 wt, .int .i64 t] 26)).cell? ⟨w.heap.size, 6, none⟩ = some (.int .i64 wt) := by rw [World.cell?_alloc_at _ _ _ _ (by simp)]; rfl
    have c0_0_7 : (w.alloc (.cells #[.int .i64 s, .int .u8 k, .int .i64 x, .int .i64 y, .int .i64 v, .int .i64 b, .int .i64 wt, .int .i64 t] 26)).cell? ⟨w.heap.size, 7, none⟩ = some (.int .i64 t) := by rw [World.cell?_alloc_at _ _ _ _ (by simp)]; rfl
    have z0_0 : w.heap.size < (w.alloc (.cells #[.int .i64 s, .int .u8 k, .int .i64 x, .int .i64 y, .int .i64 v, .int .i64 b, .int .i64 wt, .int .i64 t] 26)).heap.size := by simp; try omega
    have hw0 := Lib.hid ((Below.refl w.heap.size w).alloc (by simp; try omega) (.cells #[.int .i64 s, .int .u8 k, .int .i64 x, .int .i64 y, .int .i64 v, .int .i64 b, .int .i64 wt, .int .i64 t] 26))
    generalize hW0 : (w.alloc (.cells #[.int .i64 s, .int .u8 k, .int .i64 x, .int .i64 y, .int .i64 v, .int .i64 b, .int .i64 wt, .int .i64 t] 26)) = w0 at *
    clear hW0
    refine (awake_any _ (HE.out.below hw0.out)).mono ?_
    rintro e w1 ⟨rfl, hb1⟩
    have c1_0_0 := (hb1.cell (p := ⟨w.heap.size, 0, none⟩) z0_0).trans c0_0_0
    have c1_0_1 := (hb1.cell (p := ⟨w.heap.size, 1, none⟩) z0_0).trans c0_0_1
    have c1_0_2 := (hb1.cell (p := ⟨w.heap.size, 2, none⟩) z0_0).trans c0_0_2
    have c1_0_3 := (hb1.cell (p := ⟨w.heap.size, 3, none⟩) z0_0).trans c0_0_3
    have c1_0_4 := (hb1.cell (p := ⟨w.heap.size, 4, none⟩) z0_0).trans c0_0_4
    have c1_0_5 := (hb1.cell (p := ⟨w.heap.size, 5, none⟩) z0_0).trans c0_0_5
    have c1_0_6 := (hb1.cell (p := ⟨w.heap.size, 6, none⟩) z0_0).trans c0_0_6
    have c1_0_7 := (hb1.cell (p := ⟨w.heap.size, 7, none⟩) z0_0).trans c0_0_7
    have z1_0 : w.heap.size < w1.heap.size := Nat.lt_of_lt_of_le z0_0 hb1.size
    have hw1 := Lib.hid (hw0.out.trans (hb1.mono hw0.out.size))
    clear hb1 hw0 c0_0_0 c0_0_1 c0_0_2 c0_0_3 c0_0_4 c0_0_5 c0_0_6 c0_0_7 z0_0
    go_wp2_with fail
    refine (HT1.out _ (HE.out.below hw1.out)).mono ?_
    rintro e w2 ⟨rfl, hb2⟩
    have c2_0_0 := (hb2.cell (p := ⟨w.heap.size, 0, none⟩) z1_0).trans c1_0_0
    have c2_0_1 := (hb2.cell (p := ⟨w.heap.size, 1, none⟩) z1_0).trans c1_0_1
    have c2_0_2 := (hb2.cell (p := ⟨w.heap.size, 2, none⟩) z1_0).trans c1_0_2
    have c2_0_3 := (hb2.cell (p := ⟨w.heap.size, 3, none⟩) z1_0).trans c1_0_3
    have c2_0_4 := (hb2.cell (p := ⟨w.heap.size, 4, none⟩) z1_0).trans c1_0_4
    have c2_0_5 := (hb2.cell (p := ⟨w.heap.size, 5, none⟩) z1_0).trans c1_0_5
    have c2_0_6 := (hb2.cell (p := ⟨w.heap.size, 6, none⟩) z1_0).trans c1_0_6
    have c2_0_7 := (hb2.cell (p := ⟨w.heap.size, 7, none⟩) z1_0).trans c1_0_7
    have z2_0 : w.heap.size < w2.heap.size := Nat.lt_of_lt_of_le z1_0 hb2.size
    have hw2 := Lib.hid (hw1.out.trans (hb2.mono hw1.out.size))
    clear hb2 hw1 c1_0_0 c1_0_1 c1_0_2 c1_0_3 c1_0_4 c1_0_5 c1_0_6 c1_0_7 z1_0
    go_wp2_with fail
    refine (HP.out _ (HE.out.below hw2.out)).mono ?_
    rintro e w3 ⟨rfl, hb3⟩
    have c3_0_0 := (hb3.cell (p := ⟨w.heap.size, 0, none⟩) z2_0).trans c2_0_0
    have c3_0_1 := (hb3.cell (p := ⟨w.heap.size, 1, none⟩) z2_0).trans c2_0_1
    have c3_0_2 := (hb3.cell (p := ⟨w.heap.size, 2, none⟩) z2_0).trans c2_0_2
    have c3_0_3 := (hb3.cell (p := ⟨w.heap.size, 3, none⟩) z2_0).trans c2_0_3
    have c3_0_4 := (hb3.cell (p := ⟨w.heap.size, 4, none⟩) z2_0).trans c2_0_4
    have c3_0_5 := (hb3.cell (p := ⟨w.heap.size, 5, none⟩) z2_0).trans c2_0_5
    have c3_0_6 := (hb3.cell (p := ⟨w.heap.size, 6, none⟩) z2_0).trans c2_0_6
    have c3_0_7 := (hb3.cell (p := ⟨w.heap.size, 7, none⟩) z2_0).trans c2_0_7
    have z3_0 : w.heap.size < w3.heap.size := Nat.lt_of_lt_of_le z2_0 hb3.size
    have hw3 := Lib.hid (hw2.out.trans (hb3.mono hw2.out.size))
    clear hb3 hw2 c2_0_0 c2_0_1 c2_0_2 c2_0_3 c2_0_4 c2_0_5 c2_0_6 c2_0_7 z2_0
    simp only [repV]
    go_wp2_with fail
    have hb4 : Below w3.heap.size w3 (w3.alloc (.cells #[.int .i64 s, .int .u8 k, .int .i64 x, .int .i64 y, .int .i64 v, .int .i64 b, .int .i64 wt, .int .i64 t] 26)) := (Below.refl w3.heap.size w3).alloc (Nat.le_refl _) _
    have c4_0_0 := (hb4.cell (p := ⟨w.heap.size, 0, none⟩) z3_0).trans c3_0_0
    have c4_0_1 := (hb4.cell (p := ⟨w.heap.size, 1, none⟩) z3_0).trans c3_0_1
    have c4_0_2 := (hb4.cell (p := ⟨w.heap.size, 2, none⟩) z3_0).trans c3_0_2
    have c4_0_3 := (hb4.cell (p := ⟨w.heap.size, 3, none⟩) z3_0).trans c3_0_3
    have c4_0_4 := (hb4.cell (p := ⟨w.heap.size, 4, none⟩) z3_0).trans c3_0_4
    have c4_0_5 := (hb4.cell (p := ⟨w.heap.size, 5, none⟩) z3_0).trans c3_0_5
    have c4_0_6 := (hb4.cell (p := ⟨w.heap.size, 6, none⟩) z3_0).trans c3_0_6
    have c4_0_7 := (hb4.cell (p := ⟨w.heap.size, 7, none⟩) z3_0).trans c3_0_7
    have z4_0 : w.heap.size < (w3.alloc (.cells #[.int .i64 s, .int .u8 k, .int .i64 x, .int .i64 y, .int .i64 v, .int .i64 b, .int .i64 wt, .int .i64 t] 26)).heap.size := Nat.lt_of_lt_of_le z3_0 hb4.size
    have c4_1_0 : (w3.alloc (.cells #[.int .i64 s, .int .u8 k, .int .i64 x, .int .i64 y, .int .i64 v, .int .i64 b, .int .i64 wt, .int .i64 t] 26)).cell? ⟨w3.heap.size, 0, none⟩ = some (.int .i64 s) := by rw [World.cell?_alloc_at _ _ _ _ (by simp)]; rfl
    have c4_1_1 : (w3.alloc (.cells #[.int .i64 s, .int .u8 k, .int .i64 x, .int .i64 y, .int .i64 v, .int .i64 b, .int .i64 wt, .int .i64 t] 26)).cell? ⟨w3.heap.size, 1, none⟩ = some (.int .u8 k) := by rw [World.cell?_alloc_at _ _ _ _ (by simp)]; rfl
    have c4_1_2 : (w3.alloc (.cells #[.int .i64 s, .int .u8 k, .int .i64 x, .int .i64 y, .int .i64 v, .int .i64 b, .int .i64 wt, .int .i64 t] 26)).cell? ⟨w3.heap.size, 2, none⟩ = some (.int .i64 x) := by rw [World.cell?_alloc_at _ _ _ _ (by simp)]; rfl
    have c4_1_3 : (w3.alloc (.cells #[.int .i64 s, .int .u8 k, .int .i64 x, .int .i64 y, .int .i64 v, .int .i64 b, .int .i64 wt, .int .i64 t] 26)).cell? ⟨w3.heap.size, 3, none⟩ = some (.int .i64 y) := by rw [World.cell?_alloc_at _ _ _ _ (by simp)]; rfl
    have c4_1_4 : (w3.alloc (.cells #[.int .i64 s, .int .u8 k, .int .i64 x, .int .i64 y, .int .i64 v, .int .i64 b, .int .i64 wt, .int .i64 t] 26)).cell? ⟨w3.heap.size, 4, none⟩ = some (.int .i64 v) := by rw [World.cell?_alloc_at _ _ _ _ (by simp)]; rfl
    have c4_1_5 : (w3.alloc (.cells #[.int .i64 s, .int .u8 k, .int .i64 x, .int .i64 y, .int .i64 v, .int .i64 b, .int .i64 wt, .int .i64 t] 26)).cell? ⟨w3.heap.size, 5, none⟩ = some (.int .i64 b) := by rw [World.cell?_alloc_at _ _ _ _ (by simp)]; rfl
    have c4_1_6 : (w3.alloc (.cells #[.int .i64 s, .int .u8 k, .int .i64 x, .int .i64 y, .int .i64 v, .int .i64 b, .int .i64 wt, .int .i64 t] 26)).cell? ⟨w3.heap.size, 6, none⟩ = some (.int .i64 wt) := by rw [World.cell?_alloc_at _ _ _ _ (by simp)]; rfl
    have c4_1_7 : (w3.alloc (.cells #[.int .i64 s, .int .u8 k, .int .i64 x, .int .i64 y, .int .i64 v, .int .i64 b, .int .i64 wt, .int .i64 t] 26)).cell? ⟨w3.heap.size, 7, none⟩ = some (.int .i64 t) := by rw [World.cell?_alloc_at _ _ _ _ (by simp)]; rfl
    have z4_1 : w3.heap.size < (w3.alloc (.cells #[.int .i64 s, .int .u8 k, .int .i64 x, .int .i64 y, .int .i64 v, .int .i64 b, .int .i64 wt, .int .i64 t] 26)).heap.size := by simp
    have hw4 := Lib.hid (hw3.out.trans (hb4.mono hw3.out.size))
    generalize hW4 : (w3.alloc (.cells #[.int .i64 s, .int .u8 k, .int .i64 x, .int .i64 y, .int .i64 v, .int .i64 b, .int .i64 wt, .int .i64 t] 26)) = w4 at *
    clear hW4 hb4 hw3 c3_0_0 c3_0_1 c3_0_2 c3_0_3 c3_0_4 c3_0_5 c3_0_6 c3_0_7 z3_0
    refine (HC.out _).mono ?_
    rintro e w5 ⟨rfl, hb5⟩
    have c5_0_0 := (hb5.cell (p := ⟨w.heap.size, 0, none⟩) z4_0).trans c4_0_0
    have c5_0_1 := (hb5.cell (p := ⟨w.heap.size, 1, none⟩) z4_0).trans c4_0_1
    have c5_0_2 := (hb5.cell (p := ⟨w.heap.size, 2, none⟩) z4_0).trans c4_0_2
    have c5_0_3 := (hb5.cell (p := ⟨w.heap.size, 3, none⟩) z4_0).trans c4_0_3
    have c5_0_4 := (hb5.cell (p := ⟨w.heap.size, 4, none⟩) z4_0).trans c4_0_4
    have c5_0_5 := (hb5.cell (p := ⟨w.heap.size, 5, none⟩) z4_0).trans c4_0_5
    have c5_0_6 := (hb5.cell (p := ⟨w.heap.size, 6, none⟩) z4_0).trans c4_0_6
    have c5_0_7 := (hb5.cell (p := ⟨w.heap.size, 7, none⟩) z4_0).trans c4_0_7
    have c5_1_0 := (hb5.cell (p := ⟨w3.heap.size, 0, none⟩) z4_1).trans c4_1_0
    have c5_1_1 := (hb5.cell (p := ⟨w3.heap.size, 1, none⟩) z4_1).trans c4_1_1
    have c5_1_2 := (hb5.cell (p := ⟨w3.heap.size, 2, none⟩) z4_1).trans c4_1_2
    have c5_1_3 := (hb5.cell (p := ⟨w3.heap.size, 3, none⟩) z4_1).trans c4_1_3
    have c5_1_4 := (hb5.cell (p := ⟨w3.heap.size, 4, none⟩) z4_1).trans c4_1_4
    have c5_1_5 := (hb5.cell (p := ⟨w3.heap.size, 5, none⟩) z4_1).trans c4_1_5
    have c5_1_6 := (hb5.cell (p := ⟨w3.heap.size, 6, none⟩) z4_1).trans c4_1_6
    have c5_1_7 := (hb5.cell (p := ⟨w3.heap.size, 7, none⟩) z4_1).trans c4_1_7
    have z5_0 : w.heap.size < w5.heap.size := Nat.lt_of_lt_of_le z4_0 hb5.size
    have z5_1 : w3.heap.size < w5.heap.size := Nat.lt_of_lt_of_le z4_1 hb5.size
    have hw5 := Lib.hid (hw4.out.trans (hb5.mono hw4.out.size))
    clear hb5 hw4 c4_0_0 c4_0_1 c4_0_2 c4_0_3 c4_0_4 c4_0_5 c4_0_6 c4_0_7 c4_1_0 c4_1_1 c4_1_2 c4_1_3 c4_1_4 c4_1_5 c4_1_6 c4_1_7 z4_0 z4_1
    go_wp2_with fail
    refine (HT2.out _).mono ?_
    rintro e w6 ⟨rfl, hb6⟩
    have c6_0_0 := (hb6.cell (p := ⟨w.heap.size, 0, none⟩) z5_0).trans c5_0_0
    have c6_0_1 := (hb6.cell (p := ⟨w.heap.size, 1, none⟩) z5_0).trans c5_0_1
    have c6_0_2 := (hb6.cell (p := ⟨w.heap.size, 2, none⟩) z5_0).trans c5_0_2
    have c6_0_3 := (hb6.cell (p := ⟨w.heap.size, 3, none⟩) z5_0).trans c5_0_3
    have c6_0_4 := (hb6.cell (p := ⟨w.heap.size, 4, none⟩) z5_0).trans c5_0_4
    have c6_0_5 := (hb6.cell (p := ⟨w.heap.size, 5, none⟩) z5_0).trans c5_0_5
    have c6_0_6 := (hb6.cell (p := ⟨w.heap.size, 6, none⟩) z5_0).trans c5_0_6
    have c6_0_7 := (hb6.cell (p := ⟨w.heap.size, 7, none⟩) z5_0).trans c5_0_7
    have c6_1_0 := (hb6.cell (p := ⟨w3.heap.size, 0, none⟩) z5_1).trans c5_1_0
    have c6_1_1 := (hb6.cell (p := ⟨w3.heap.size, 1, none⟩) z5_1).trans c5_1_1
    have c6_1_2 := (hb6.cell (p := ⟨w3.heap.size, 2, none⟩) z5_1).trans c5_1_2
    have c6_1_3 := (hb6.cell (p := ⟨w3.heap.size, 3, none⟩) z5_1).trans c5_1_3
    have c6_1_4 := (hb6.cell (p := ⟨w3.heap.size, 4, none⟩) z5_1).trans c5_1_4
    have c6_1_5 := (hb6.cell (p := ⟨w3.heap.size, 5, none⟩) z5_1).trans c5_1_5
    have c6_1_6 := (hb6.cell (p := ⟨w3.heap.size, 6, none⟩) z5_1).trans c5_1_6
    have c6_1_7 := (hb6.cell (p := ⟨w3.heap.size, 7, none⟩) z5_1).trans c5_1_7
    have z6_0 : w.heap.size < w6.heap.size := Nat.lt_of_lt_of_le z5_0 hb6.size
    have z6_1 : w3.heap.size < w6.heap.size := Nat.lt_of_lt_of_le z5_1 hb6.size
    have hw6 := Lib.hid (hw5.out.trans (hb6.mono hw5.out.size))
    clear hb6 hw5 c5_0_0 c5_0_1 c5_0_2 c5_0_3 c5_0_4 c5_0_5 c5_0_6 c5_0_7 c5_1_0 c5_1_1 c5_1_2 c5_1_3 c5_1_4 c5_1_5 c5_1_6 c5_1_7 z5_0 z5_1
    go_wp2
    go_ret
    exact ⟨rfl, hw6.out⟩
  · have e : textF s k x y v b wt t = [] := by unfold textF; rw [if_neg h]
    rw [e, parse_nil] at P1
    have g1 : (checkI s k x y v b wt t == 0) = false := by simpa using h
    have g2 : (checkI s k x y v b wt t != 0) = true := by simpa using h
    generalize checkI s k x y v b wt t = en at *
    obtain rfl : T = ⟨#[]⟩ := by rw [← hT, e]
    have HP := Lib.hid P1
    have HC := Lib.hid C1
    clear P1 C1 T1 T2 hT hTl e h hsz
    go_enter Tryd.func10, Tryd.ntmps10
    go_wp2_with fail
    have c0_0_0 : (w.alloc (.cells #[.int .i64 s, .int .u8 k, .int .i64 x, .int .i64 y, .int .i64 v, .int .i64 b, .int .i64 wt, .int .i64 t] 26)).cell? ⟨w.heap.size, 0, none⟩ = some (.int .i64 s) := by rw [World.cell?_alloc_at _ _ _ _ (by simp)]; rfl
    have c0_0_1 : (w.alloc (.cells #[.int .i64 s, .int .u8 k, .int .i64 x, .int .i64 y, .int .i64 v, .int .i64 b, .int .i64 wt, .int .i64 t] 26)).cell? ⟨w.heap.size, 1, none⟩ = some (.int .u8 k) := by rw [World.cell?_alloc_at _ _ _ _ (by simp)]; rfl
    have c0_0_2 : (w.alloc (.cells #[.int .i64 s, .int .u8 k, .int .i64 x, .int .i64 y, .int .i64 v, .int .i64 b, .int .i64 wt, .int .i64 t] 26)).cell? ⟨w.heap.size, 2, none⟩ = some (.int .i64 x) := by rw [World.cell?_alloc_at _ _ _ _ (by simp)]; rfl
    have c0_0_3 : (w.alloc (.cells #[.int .i64 s, .int .u8 k, .int .i64 x, .int .i64 y, .int .i64 v, .int .i64 b, .int .i64 wt, .int .i64 t] 26)).cell? ⟨w.heap.size, 3, none⟩ = some (.int .i64 y) := by rw [World.cell?_alloc_at _ _ _ _ (by simp)]; rfl
    have c0_0_4 : (w.alloc (.cells #[.int .i64 s, .int .u8 k, .int .i64 x, .int .i64 y, .int .i64 v, .int .i64 b, .int .i64 wt, .int .i64 t] 26)).cell? ⟨w.heap.size, 4, none⟩ = some (.int .i64 v) := by rw [World.cell?_alloc_at _ _ _ _ (by simp)]; rfl
    have c0_0_5 : (w.alloc (.cells #[.int .i64 s, .int .u8 k, .int .i64 x, .int .i64 y, .int .i64 v, .int .i64 b, .int .i64 wt, .int .i64 t] 26)).cell? ⟨w.heap.size, 5, none⟩ = some (.int .i64 b) := by rw [World.cell?_alloc_at _ _ _ _ (by simp)]; rfl
    have c0_0_6 : (w.alloc (.cells #[.int .i64 s, .int .u8 k, .int .i64 x, .int .i64 y, .int .i64 v, .int .i64 b, .int .i64 wt, .int .i64 t] 26)).cell? ⟨w.heap.size, 6, none⟩ = some (.int .i64 wt) := by rw [World.cell?_alloc_at _ _ _ _ (by simp)]; rfl
    have c0_0_7 : (w.alloc (.cells #[.int .i64 s, .int .u8 k, .int .i64 x, .int .i64 y, .int .i64 v, .int .i64 b, .int .i64 wt, .int .i64 t] 26)).cell? ⟨w.heap.size, 7, none⟩ = some (.int .i64 t) := by rw [World.cell?_alloc_at _ _ _ _ (by simp)]; rfl
    have z0_0 : w.heap.size < (w.alloc (.cells #[.int .i64 s, .int .u8 k, .int .i64 x, .int .i64 y, .int .i64 v, .int .i64 b, .int .i64 wt, .int .i64 t] 26)).heap.size := by simp; try omega
    have hw0 := Lib.hid ((Below.refl w.heap.size w).alloc (by simp; try omega) (.cells #[.int .i64 s, .int .u8 k, .int .i64 x, .int .i64 y, .int .i64 v, .int .i64 b, .int .i64 wt, .int .i64 t] 26))
    generalize hW0 : (w.alloc (.cells #[.int .i64 s, .int .u8 k, .int .i64 x, .int .i64 y, .int .i64 v, .int .i64 b, .int .i64 wt, .int .i64 t] 26)) = w0 at *
    clear hW0
    refine (awake_any _ (HE.out.below hw0.out)).mono ?_
    rintro e w1 ⟨rfl, hb1⟩
    have c1_0_0 := (hb1.cell (p := ⟨w.heap.size, 0, none⟩) z0_0).trans c0_0_0
    have c1_0_1 := (hb1.cell (p := ⟨w.heap.size, 1, none⟩) z0_0).trans c0_0_1
    have c1_0_2 := (hb1.cell (p := ⟨w.heap.size, 2, none⟩) z0_0).trans c0_0_2
    have c1_0_3 := (hb1.cell (p := ⟨w.heap.size, 3, none⟩) z0_0).trans c0_0_3
    have c1_0_4 := (hb1.cell (p := ⟨w.heap.size, 4, none⟩) z0_0).trans c0_0_4
    have c1_0_5 := (hb1.cell (p := ⟨w.heap.size, 5, none⟩) z0_0).trans c0_0_5
    have c1_0_6 := (hb1.cell (p := ⟨w.heap.size, 6, none⟩) z0_0).trans c0_0_6
    have c1_0_7 := (hb1.cell (p := ⟨w.heap.size, 7, none⟩) z0_0).trans c0_0_7
    have z1_0 : w.heap.size < w1.heap.size := Nat.lt_of_lt_of_le z0_0 hb1.size
    have hw1 := Lib.hid (hw0.out.trans (hb1.mono hw0.out.size))
    clear hb1 hw0 c0_0_0 c0_0_1 c0_0_2 c0_0_3 c0_0_4 c0_0_5 c0_0_6 c0_0_7 z0_0
    go_wp2_with fail
    refine (HT1.out _ (HE.out.below hw1.out)).mono ?_
    rintro e w2 ⟨rfl, hb2⟩
    have c2_0_0 := (hb2.cell (p := ⟨w.heap.size, 0, none⟩) z1_0).trans c1_0_0
    have c2_0_1 := (hb2.cell (p := ⟨w.heap.size, 1, none⟩) z1_0).trans c1_0_1
    have c2_0_2 := (hb2.cell (p := ⟨w.heap.size, 2, none⟩) z1_0).trans c1_0_2
    have c2_0_3 := (hb2.cell (p := ⟨w.heap.size, 3, none⟩) z1_0).trans c1_0_3
    have c2_0_4 := (hb2.cell (p := ⟨w.heap.size, 4, none⟩) z1_0).trans c1_0_4
    have c2_0_5 := (hb2.cell (p := ⟨w.heap.size, 5, none⟩) z1_0).trans c1_0_5
    have c2_0_6 := (hb2.cell (p := ⟨w.heap.size, 6, none⟩) z1_0).trans c1_0_6
    have c2_0_7 := (hb2.cell (p := ⟨w.heap.size, 7, none⟩) z1_0).trans c1_0_7
    have z2_0 : w.heap.size < w2.heap.size := Nat.lt_of_lt_of_le z1_0 hb2.size
    have hw2 := Lib.hid (hw1.out.trans (hb2.mono hw1.out.size))
    clear hb2 hw1 c1_0_0 c1_0_1 c1_0_2 c1_0_3 c1_0_4 c1_0_5 c1_0_6 c1_0_7 z1_0
    go_wp2_with fail
    refine (HP.out _ (HE.out.below hw2.out)).mono ?_
    rintro e w3 ⟨rfl, hb3⟩
    have c3_0_0 := (hb3.cell (p := ⟨w.heap.size, 0, none⟩) z2_0).trans c2_0_0
    have c3_0_1 := (hb3.cell (p := ⟨w.heap.size, 1, none⟩) z2_0).trans c2_0_1
    have c3_0_2 := (hb3.cell (p := ⟨w.heap.size, 2, none⟩) z2_0).trans c2_0_2
    have c3_0_3 := (hb3.cell (p := ⟨w.heap.size, 3, none⟩) z2_0).trans c2_0_3
    have c3_0_4 := (hb3.cell (p := ⟨w.heap.size, 4, none⟩) z2_0).trans c2_0_4
    have c3_0_5 := (hb3.cell (p := ⟨w.heap.size, 5, none⟩) z2_0).trans c2_0_5
    have c3_0_6 := (hb3.cell (p := ⟨w.heap.size, 6, none⟩) z2_0).trans c2_0_6
    have c3_0_7 := (hb3.cell (p := ⟨w.heap.size, 7, none⟩) z2_0).trans c2_0_7
    have z3_0 : w.heap.size < w3.heap.size := Nat.lt_of_lt_of_le z2_0 hb3.size
    have hw3 := Lib.hid (hw2.out.trans (hb3.mono hw2.out.size))
    clear hb3 hw2 c2_0_0 c2_0_1 c2_0_2 c2_0_3 c2_0_4 c2_0_5 c2_0_6 c2_0_7 z2_0
    simp only [repV, rp0]
    go_wp2_with fail
    have hb4 : Below w3.heap.size w3 (w3.alloc (.cells #[.int .i64 0, .int .u8 0, .int .i64 0, .int .i64 0, .int .i64 0, .int .i64 0, .int .i64 0, .int .i64 0] 26)) := (Below.refl w3.heap.size w3).alloc (Nat.le_refl _) _
    have c4_0_0 := (hb4.cell (p := ⟨w.heap.size, 0, none⟩) z3_0).trans c3_0_0
    have c4_0_1 := (hb4.cell (p := ⟨w.heap.size, 1, none⟩) z3_0).trans c3_0_1
    have c4_0_2 := (hb4.cell (p := ⟨w.heap.size, 2, none⟩) z3_0).trans c3_0_2
    have c4_0_3 := (hb4.cell (p := ⟨w.heap.size, 3, none⟩) z3_0).trans c3_0_3
    have c4_0_4 := (hb4.cell (p := ⟨w.heap.size, 4, none⟩) z3_0).trans c3_0_4
    have c4_0_5 := (hb4.cell (p := ⟨w.heap.size, 5, none⟩) z3_0).trans c3_0_5
    have c4_0_6 := (hb4.cell (p := ⟨w.heap.size, 6, none⟩) z3_0).trans c3_0_6
    have c4_0_7 := (hb4.cell (p := ⟨w.heap.size, 7, none⟩) z3_0).trans c3_0_7
    have z4_0 : w.heap.size < (w3.alloc (.cells #[.int .i64 0, .int .u8 0, .int .i64 0, .int .i64 0, .int .i64 0, .int .i64 0, .int .i64 0, .int .i64 0] 26)).heap.size := Nat.lt_of_lt_of_le z3_0 hb4.size
    have c4_1_0 : (w3.alloc (.cells #[.int .i64 0, .int .u8 0, .int .i64 0, .int .i64 0, .int .i64 0, .int .i64 0, .int .i64 0, .int .i64 0] 26)).cell? ⟨w3.heap.size, 0, none⟩ = some (.int .i64 0) := by rw [World.cell?_alloc_at _ _ _ _ (by simp)]; rfl
    have c4_1_1 : (w3.alloc (.cells #[.int .i64 0, .int .u8 0, .int .i64 0, .int .i64 0, .int .i64 0, .int .i64 0, .int .i64 0, .int .i64 0] 26)).cell? ⟨w3.heap.size, 1, none⟩ = some (.int .u8 0) := by rw [World.cell?_alloc_at _ _ _ _ (by simp)]; rfl
    have c4_1_2 : (w3.alloc (.cells #[.int .i64 0, .int .u8 0, .int .i64 0, .int .i64 0, .int .i64 0, .int .i64 0, .int .i64 0, .int .i64 0] 26)).cell? ⟨w3.heap.size, 2, none⟩ = some (.int .i64 0) := by rw [World.cell?_alloc_at _ _ _ _ (by simp)]; rfl
    have c4_1_3 : (w3.alloc (.cells #[.int .i64 0, .int .u8 0, .int .i64 0, .int .i64 0, .int .i64 0, .int .i64 0, .int .i64 0, .int .i64 0] 26)).cell? ⟨w3.heap.size, 3, none⟩ = some (.int .i64 0) := by rw [World.cell?_alloc_at _ _ _ _ (by simp)]; rfl
    have c4_1_4 : (w3.alloc (.cells #[.int .i64 0, .int .u8 0, .int .i64 0, .int .i64 0, .int .i64 0, .int .i64 0, .int .i64 0, .int .i64 0] 26)).cell? ⟨w3.heap.size, 4, none⟩ = some (.int .i64 0) := by rw [World.cell?_alloc_at _ _ _ _ (by simp)]; rfl
    have c4_1_5 : (w3.alloc (.cells #[.int .i64 0, .int .u8 0, .int .i64 0, .int .i64 0, .int .i64 0, .int .i64 0, .int .i64 0, .int .i64 0] 26)).cell? ⟨w3.heap.size, 5, none⟩ = some (.int .i64 0) := by rw [World.cell?_alloc_at _ _ _ _ (by simp)]; rfl
    have c4_1_6 : (w3.alloc (.cells #[.int .i64 0, .int .u8 0, .int .i64 0, .int .i64 0, .int .i64 0, .int .i64 0, .int .i64 0, .int .i64 0] 26)).cell? ⟨w3.heap.size, 6, none⟩ = some (.int .i64 0) := by rw [World.cell?_alloc_at _ _ _ _ (by simp)]; rfl
    have c4_1_7 : (w3.alloc (.cells #[.int .i64 0, .int .u8 0, .int .i64 0, .int .i64 0, .int .i64 0, .int .i64 0, .int .i64 0, .int .i64 0] 26)).cell? ⟨w3.heap.size, 7, none⟩ = some (.int .i64 0) := by rw [World.cell?_alloc_at _ _ _ _ (by simp)]; rfl
    have z4_1 : w3.heap.size < (w3.alloc (.cells #[.int .i64 0, .int .u8 0, .int .i64 0, .int .i64 0, .int .i64 0, .int .i64 0, .int .i64 0, .int .i64 0] 26)).heap.size := by simp
    have hw4 := Lib.hid (hw3.out.trans (hb4.mono hw3.out.size))
    generalize hW4 : (w3.alloc (.cells #[.int .i64 0, .int .u8 0, .int .i64 0, .int .i64 0, .int .i64 0, .int .i64 0, .int .i64 0, .int .i64 0] 26)) = w4 at *
    clear hW4 hb4 hw3 c3_0_0 c3_0_1 c3_0_2 c3_0_3 c3_0_4 c3_0_5 c3_0_6 c3_0_7 z3_0
    refine (HC.out _).mono ?_
    rintro e w5 ⟨rfl, hb5⟩
    have c5_0_0 := (hb5.cell (p := ⟨w.heap.size, 0, none⟩) z4_0).trans c4_0_0
    have c5_0_1 := (hb5.cell (p := ⟨w.heap.size, 1, none⟩) z4_0).trans c4_0_1
    have c5_0_2 := (hb5.cell (p := ⟨w.heap.size, 2, none⟩) z4_0).trans c4_0_2
    have c5_0_3 := (hb5.cell (p := ⟨w.heap.size, 3, none⟩) z4_0).trans c4_0_3
    have c5_0_4 := (hb5.cell (p := ⟨w.heap.size, 4, none⟩) z4_0).trans c4_0_4
    have c5_0_5 := (hb5.cell (p := ⟨w.heap.size, 5, none⟩) z4_0).trans c4_0_5
    have c5_0_6 := (hb5.cell (p := ⟨w.heap.size, 6, none⟩) z4_0).trans c4_0_6
    have c5_0_7 := (hb5.cell (p := ⟨w.heap.size, 7, none⟩) z4_0).trans c4_0_7
    have c5_1_0 := (hb5.cell (p := ⟨w3.heap.size, 0, none⟩) z4_1).trans c4_1_0
    have c5_1_1 := (hb5.cell (p := ⟨w3.heap.size, 1, none⟩) z4_1).trans c4_1_1
    have c5_1_2 := (hb5.cell (p := ⟨w3.heap.size, 2, none⟩) z4_1).trans c4_1_2
    have c5_1_3 := (hb5.cell (p := ⟨w3.heap.size, 3, none⟩) z4_1).trans c4_1_3
    have c5_1_4 := (hb5.cell (p := ⟨w3.heap.size, 4, none⟩) z4_1).trans c4_1_4
    have c5_1_5 := (hb5.cell (p := ⟨w3.heap.size, 5, none⟩) z4_1).trans c4_1_5
    have c5_1_6 := (hb5.cell (p := ⟨w3.heap.size, 6, none⟩) z4_1).trans c4_1_6
    have c5_1_7 := (hb5.cell (p := ⟨w3.heap.size, 7, none⟩) z4_1).trans c4_1_7
    have z5_0 : w.heap.size < w5.heap.size := Nat.lt_of_lt_of_le z4_0 hb5.size
    have z5_1 : w3.heap.size < w5.heap.size := Nat.lt_of_lt_of_le z4_1 hb5.size
    have hw5 := Lib.hid (hw4.out.trans (hb5.mono hw4.out.size))
    clear hb5 hw4 c4_0_0 c4_0_1 c4_0_2 c4_0_3 c4_0_4 c4_0_5 c4_0_6 c4_0_7 c4_1_0 c4_1_1 c4_1_2 c4_1_3 c4_1_4 c4_1_5 c4_1_6 c4_1_7 z4_0 z4_1
    go_wp2
    go_ret
    exact ⟨rfl, hw5.out⟩
/-! ### the row's step -/
set_option maxRecDepth 100000 in
theorem contract (H : Type) (enc : TypeId × Value → H) (W : World) (base : Nat) (args : Array Value) (ds gs : List (DataW H)) (before : List MemPlace)
    (hval : ∀ (j : Nat) t v, Tryd.f10.params[j]? = some t → args[j]? = some v → Value.okWide Tryd.prog W .any base t v)
    (hW : DataW.Whole enc Tryd.prog Tryd.f10.params.toList Rows.sensorTextsSpec.vars false W args.toList ds gs before) (hL : laidMetH Tryd.prog Rows.sensorTextsRow.laid W) (hsh : W.ShapedOpen Tryd.prog) :
    Calls Tryd.prog 10 args W fun e W' => ∃ v, e = .returned v ∧ Rows.sensorTextsSpec.post enc Tryd.prog Tryd.f10 false true false false W args v W' := by
  have hW' := hW
  obtain ⟨p, q, hA0, hV, rfl, hfz, hnd⟩ := hW
  have hA : DataW.TrodAll enc Tryd.prog W 0 (fun _ => true) true Tryd.f10.params.toList args.toList ds p := hA0
  rw [Tryd.params10] at hA hval
  obtain ⟨v0, vs0, d0, ds0, p0, q0, hargs, rfl, rfl, h0, r0⟩ := trodAll_cons hA
  obtain ⟨rfl, rfl, rfl⟩ := trodAll_nil r0
  obtain rfl : args = #[v0] := by cases args; simp_all
  obtain ⟨rfl, rfl⟩ := trodVars_none hV
  obtain ⟨x0_0, x0_1, x0_2, x0_3, x0_4, x0_5, x0_6, x0_7, rfl, rfl, rfl, w0_0, w0_1, w0_2, w0_3, w0_4, w0_5, w0_6, w0_7⟩ := open_report (hval 0 26 v0 rfl rfl) h0
  clear hA0
  simp only [List.append_nil] at hW'
  refine (walk x0_0 x0_1 x0_2 x0_3 x0_4 x0_5 x0_6 x0_7 (bd64 w0_0).1 (bd64 w0_0).2 (bd8 w0_1).1 (bd8 w0_1).2 (bd64 w0_2).1 (bd64 w0_2).2 (bd64 w0_3).1 (bd64 w0_3).2 (bd64 w0_4).1 (bd64 w0_4).2 (bd64 w0_5).1 (bd64 w0_5).2 (bd64 w0_6).1 (bd64 w0_6).2 (bd64 w0_7).1 (bd64 w0_7).2 W (env_of5 hL hsh)).mono fun e W' ⟨he, hb⟩ => ?_
  subst he
  exact ⟨_, rfl, post_of_below (pa := []) (pv := []) hW' (fun _ _ _ => trodAll_cons_mk (shut_bool Tryd.underlying4 _) trodAll_mk0) (fun sp _ => (trodAll_cons_mk (shut_report w0_0 w0_1 w0_2 w0_3 w0_4 w0_5 w0_6 w0_7) trodAll_mk0)) (fun _ _ => rfl) rfl
    hb (ok_one (by kernel_rfl) rfl (okWide_bool_mk Tryd.underlying4 _))⟩

theorem reads (os : Os) {H : Type} (enc : TypeId × Value → H) : ∃ places, DataW.whole enc Tryd.prog ((laidWorld5 os).forCall (fun _ _ => 0) ⟨#[], #[.agg #[.int .i64 0, .int .u8 0, .int .i64 0, .int .i64 0, .int .i64 0, .int .i64 0, .int .i64 0, .int .i64 0]], []⟩).memory Tryd.f10.params.toList Rows.sensorTextsSpec.vars false (#[.agg #[.int .i64 0, .int .u8 0, .int .i64 0, .int .i64 0, .int .i64 0, .int .i64 0, .int .i64 0, .int .i64 0]] : Array Value).toList 8 = some ([.agg [.lit (.int .i64 0), .lit (.int .u8 0), .agg [.lit (.int .i64 0), .lit (.int .i64 0)], .lit (.int .i64 0), .lit (.int .i64 0), .lit (.int .i64 0), .lit (.int .i64 0)]], [], places) :=
  ⟨[], by kernel_rfl⟩

set_option maxRecDepth 100000 in
theorem lifted (os : Os) (started : os.Started) (H : Type) (enc : TypeId × Value → H) (F : Stop.Interp) :
    ReturnsInHanded {} Tryd.checked os 10 .any ((OpenSpec.ofChange Rows.sensorTextsSpec).preRow enc Tryd.prog Tryd.f10 Rows.sensorTextsRow.domain false Rows.sensorTextsRow.laid) (((OpenSpec.ofChange Rows.sensorTextsSpec).at F).post enc Tryd.prog Tryd.f10 false true false false) := by
  obtain ⟨places, hx⟩ := reads os enc
  refine returnsInHanded_of_row (C := Tryd.checked) (s := OpenSpec.ofChange Rows.sensorTextsSpec) own started (by kernel_rfl) Tryd.func10
    (witness_row_at (enc := enc) (C := Tryd.checked) false (laidWorld5 os) #[.agg #[.int .i64 0, .int .u8 0, .int .i64 0, .int .i64 0, .int .i64 0, .int .i64 0, .int .i64 0, .int .i64 0]] rfl (by kernel_rfl) (by kernel_rfl) (by kernel_rfl)
      (OpenSpec.preRow_of_cond 8 hx (by kernel_rfl) (fun k hk => by cases hk) (by kernel_rfl) (laid_met_any5 os _))) ?_
  intro W base args ds gs before hval hW _ _ _ hL hsh _
  exact contract H enc W base args ds gs before hval hW hL hsh

theorem said : Rows.SensorTextsSaid :=
  OpenClaim.holds_of_cond 10 Tryd.f10 rfl rfl rfl rfl rfl rfl rfl ⟨rfl, rfl, rfl, rfl, rfl⟩ rfl rfl rfl rfl rfl (by kernel_rfl) Tryd.func10 (by kernel_rfl)
    (of_decide_eq_true (by kernel_rfl)) (by unfold Func.isWrapper; first | (rw [if_pos (by decide +kernel)]; kernel_rfl) | (rw [if_neg (by decide +kernel)]; exact ⟨rfl, rfl⟩))
    (fun os started H enc _ F => by rw [OpenClaim.pre_eq_preRow]; exact lifted os started H enc F)

theorem plain (f : FuncId) (fn : Func) (hf : Tryd.pinned.checked.prog.funcNamed "flightdeck/flightdecklaw41.SensorTexts" = some f) (hfn : Tryd.pinned.checked.prog.funcs[f]? = some fn) :
    false = Tryd.pinned.checked.prog.looks [] ∧ ∀ (j : Nat) t, fn.params[j]? = some t → Tryd.pinned.checked.prog.wantsStandIn t = false := by
  obtain rfl : f = 10 := Option.some.inj ((show Tryd.prog.funcNamed "flightdeck/flightdecklaw41.SensorTexts" = some 10 by kernel_rfl).symm.trans hf) |>.symm
  obtain rfl : fn = Tryd.f10 := (Option.some.inj (Tryd.func10.symm.trans hfn)).symm
  refine ⟨by kernel_rfl, fun j t ht => ?_⟩
  rw [Tryd.params10] at ht
  have hm := Array.mem_of_getElem? ht
  simp only [List.mem_toArray, List.mem_cons, List.not_mem_nil, or_false] at hm
  rcases hm with rfl
  · exact (show Tryd.prog.wantsStandIn 26 = false by kernel_rfl)
/-- the law -/
theorem card : Rows.SensorTextsCardSaid :=
  Claim7.holds_tied_plain_at .later [] _ _ _ _ said (fun _ h => by cases h) (by kernel_rfl) (fun _ h => by cases h) sensorTexts_row_tie rfl ⟨rfl, rfl⟩ (by kernel_rfl) rfl plain (by kernel_rfl)
end Go.Proofs.YtnnafjmfbnnnjaaDoor.sensorTexts
