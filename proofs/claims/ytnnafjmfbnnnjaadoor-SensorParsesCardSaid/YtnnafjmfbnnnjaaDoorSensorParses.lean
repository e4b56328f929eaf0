/-
  The law SensorParses holds for every input: any string is accepted or refused as specified, and an accepted one is the text of its report. No condition.
-/
import Derived.Test.YtnnafjmfbnnnjaaDoorStructs41
import Derived.Test.YtnnafjmfbnnnjaaDoorAwake41
import Derived.Test.YtnnafjmfbnnnjaaDoorParseRef
import Derived.Test.YtnnafjmfbnnnjaaDoorParseLaw
import Derived.Test.YtnnafjmfbnnnjaaDoorTextRef41
import Derived.Test.YtnnafjmfbnnnjaaDoorFrame41b
namespace Go.Proofs.YtnnafjmfbnnnjaaDoor.sensorParses
set_option linter.unusedVariables false
open Go.ChangeShapes Go.WideShapes Go.ChangeAt Go.RowKit Tr Sq

theorem parse_cut (t : ByteArray) (r : Rp) (h : parse41 t.data.toList = (r, 0)) : (⟨(textF r.s r.k r.x r.y r.v r.b r.w r.t).toArray⟩ : ByteArray) = t ∧ 0 ≤ r.k ∧ r.k ≤ 255 := by
  obtain ⟨a, b, c⟩ := text_parse h
  exact ⟨by rw [a, ba_eta], b, c⟩
set_option maxHeartbeats 8000000 in
set_option maxRecDepth 100000 in
theorem walk (s : ByteArray) (w : World) (hE : Env w) :
    Calls Tryd.prog 11 #[.string s] w fun e w' => e = .returned (.bool true) ∧ Below w.heap.size w w' := by
  have HE := Lib.hid hE
  clear hE
  by_cases hs : 120 < s.size
  · have f1 : decide (120 < (s.size : Int)) = true := by simp; omega
    have f1' : decide (120 < s.size) = true := by simpa using hs
    have f2 : 120 ≤ s.size := by omega
    have hsz : (s.extract 0 120).size ≤ 1000 := by rw [ByteArray.size_extract]; omega
    have P1 := fun w hE => parse_any (s.extract 0 120) w hE hsz
    have P2 := fun w => parse_ref (s.extract 0 120) w hsz
    have hcut := parse_cut (s.extract 0 120)
    obtain ⟨rr, en, hp⟩ : ∃ rr en, parse41 ((s.extract 0 120)).data.toList = (rr, en) := ⟨_, _, rfl⟩
    rw [hp] at P1 P2
    obtain ⟨s', k', x', y', v', b', w', t'⟩ := rr
    have HP1 := Lib.hid P1
    have HP2 := Lib.hid P2
    clear P1 P2
    by_cases he : en = 0
    · subst he
      obtain ⟨c1, c2, c3⟩ := hcut _ hp
      have T1 := fun w hE => text_any s' k' x' y' v' b' w' t' w hE c2 c3
      unfold RetB at T1
      simp only at c1
      rw [c1] at T1
      have HT := Lib.hid T1
      clear T1 c1 c2 c3 hcut hp
      go_enter Tryd.func11, Tryd.ntmps11
      go_wp2_with fail
      refine (awake_any _ HE.out).mono ?_
      rintro e w1 ⟨rfl, hb1⟩
      have hw1 := Lib.hid hb1
      clear hb1
      go_wp2_with fail
      refine (HP1.out _ (HE.out.below hw1.out)).mono ?_
      rintro e w2 ⟨rfl, hb2⟩
      have hw2 := Lib.hid (hw1.out.trans (hb2.mono hw1.out.size))
      clear hb2 hw1
      simp only [repV]
      go_wp2_with fail
      have hb3 : Below w2.heap.size w2 (w2.alloc (.cells #[.int .i64 s', .int .u8 k', .int .i64 x', .int .i64 y', .int .i64 v', .int .i64 b', .int .i64 w', .int .i64 t'] 26)) := (Below.refl w2.heap.size w2).alloc (Nat.le_refl _) _
      have c3_0_0 : (w2.alloc (.cells #[.int .i64 s', .int .u8 k', .int .i64 x', .int .i64 y', .int .i64 v', .int .i64 b', .int .i64 w', .int .i64 t'] 26)).cell? ⟨w2.heap.size, 0, none⟩ = some (.int .i64 s') := by rw [World.cell?_alloc_at _ _ _ _ (by simp)]; rfl
      have c3_0_1 : (w2.alloc (.cells #[.int .i64 s', .int .u8 k', .int .i64 x', .int .i64 y', .int .i64 v', .int .i64 b', .int .i64 w', .int .i64 t'] 26)).cell? ⟨w2.heap.size, 1, none⟩ = some (.int .u8 k') := by rw [World.cell?_alloc_at _ _ _ _ (by simp)]; rfl
      have c3_0_2 : (w2.alloc (.cells #[.int .i64 s', .int .u8 k', .int .i64 x', .int .i64 y', .int .i64 v', .int .i64 b', .int .i64 w', .int .i64 t'] 26)).cell? ⟨w2.heap.size, 2, none⟩ = some (.int .i64 x') := by rw [World.cell?_alloc_at _ _ _ _ (by simp)]; rfl
      have c3_0_3 : (w2.alloc (.cells #[.int .i64 s', .int .u8 k', .int .i64 x', .int .i64 y', .int .i64 v', .int .i64 b', .int .i64 w', .int .i64 t'] 26)).cell? ⟨w2.heap.size, 3, none⟩ = some (.int .i64 y') := by rw [World.cell?_alloc_at _ _ _ _ (by simp)]; rfl
      have c3_0_4 : (w2.alloc (.cells #[.int .i64 s', .int .u8 k', .int .i64 x', .int .i64 y', .int .i64 v', .int .i64 b', .int .i64 w', .int .i64 t'] 26)).cell? ⟨w2.heap.size, 4, none⟩ = some (.int .i64 v') := by rw [World.cell?_alloc_at _ _ _ _ (by simp)]; rfl
      have c3_0_5 : (w2.alloc (.cells #[.int .i64 s', .int .u8 k', .int .i64 x', .int .i64 y', .int .i64 v', .int .i64 b', .int .i64 w', .int .i64 t'] 26)).cell? ⟨w2.heap.size, 5, none⟩ = some (.int .i64 b') := by rw [World.cell?_alloc_at _ _ _ _ (by simp)]; rfl
      have c3_0_6 : (w2.alloc (.cells #[.int .i64 s', .int .u8 k', .int .i64 x', .int .i64 y', .int .i64 v', .int .i64 b', .int .i64 w', .int .i64 t'] 26)).cell? ⟨w2.heap.size, 6, none⟩ = some (.int .i64 w') := by rw [World.cell?_alloc_at _ _ _ _ (by simp)]; rfl
      have c3_0_7 : (w2.alloc (.cells #[.int .i64 s', .int .u8 k', .int .i64 x', .int .i64 y', .int .i64 v', .int .i64 b', .int .i64 w', .int .i64 t'] 26)).cell? ⟨w2.heap.size, 7, none⟩ = some (.int .i64 t') := by rw [World.cell?_alloc_at _ _ _ _ (by simp)]; rfl
      have z3_0 : w2.heap.size < (w2.alloc (.cells #[.int .i64 s', .int .u8 k', .int .i64 x', .int .i64 y', .int .i64 v', .int .i64 b', .int .i64 w', .int .i64 t'] 26)).heap.size := by simp
      have hw3 := Lib.hid (hw2.out.trans (hb3.mono hw2.out.size))
      generalize hW3 : (w2.alloc (.cells #[.int .i64 s', .int .u8 k', .int .i64 x', .int .i64 y', .int .i64 v', .int .i64 b', .int .i64 w', .int .i64 t'] 26)) = w3 at *
      clear hW3 hb3 hw2
      refine (HP2.out _).mono ?_
      rintro e w4 ⟨rfl, hb4⟩
      have c4_0_0 := (hb4.cell (p := ⟨w2.heap.size, 0, none⟩) z3_0).trans c3_0_0
      have c4_0_1 := (hb4.cell (p := ⟨w2.heap.size, 1, none⟩) z3_0).trans c3_0_1
      have c4_0_2 := (hb4.cell (p := ⟨w2.heap.size, 2, none⟩) z3_0).trans c3_0_2
      have c4_0_3 := (hb4.cell (p := ⟨w2.heap.size, 3, none⟩) z3_0).trans c3_0_3
      have c4_0_4 := (hb4.cell (p := ⟨w2.heap.size, 4, none⟩) z3_0).trans c3_0_4
      have c4_0_5 := (hb4.cell (p := ⟨w2.heap.size, 5, none⟩) z3_0).trans c3_0_5
      have c4_0_6 := (hb4.cell (p := ⟨w2.heap.size, 6, none⟩) z3_0).trans c3_0_6
      have c4_0_7 := (hb4.cell (p := ⟨w2.heap.size, 7, none⟩) z3_0).trans c3_0_7
      have z4_0 : w2.heap.size < w4.heap.size := Nat.lt_of_lt_of_le z3_0 hb4.size
      have hw4 := Lib.hid (hw3.out.trans (hb4.mono hw3.out.size))
      clear hb4 hw3 c3_0_0 c3_0_1 c3_0_2 c3_0_3 c3_0_4 c3_0_5 c3_0_6 c3_0_7 z3_0
      simp only [repV]
      go_wp2_with fail
      have hb5 : Below w4.heap.size w4 (w4.alloc (.cells #[.int .i64 s', .int .u8 k', .int .i64 x', .int .i64 y', .int .i64 v', .int .i64 b', .int .i64 w', .int .i64 t'] 26)) := (Below.refl w4.heap.size w4).alloc (Nat.le_refl _) _
      have c5_0_0 := (hb5.cell (p := ⟨w2.heap.size, 0, none⟩) z4_0).trans c4_0_0
      have c5_0_1 := (hb5.cell (p := ⟨w2.heap.size, 1, none⟩) z4_0).trans c4_0_1
      have c5_0_2 := (hb5.cell (p := ⟨w2.heap.size, 2, none⟩) z4_0).trans c4_0_2
      have c5_0_3 := (hb5.cell (p := ⟨w2.heap.size, 3, none⟩) z4_0).trans c4_0_3
      have c5_0_4 := (hb5.cell (p := ⟨w2.heap.size, 4, none⟩) z4_0).trans c4_0_4
      have c5_0_5 := (hb5.cell (p := ⟨w2.heap.size, 5, none⟩) z4_0).trans c4_0_5
      have c5_0_6 := (hb5.cell (p := ⟨w2.heap.size, 6, none⟩) z4_0).trans c4_0_6
      have c5_0_7 := (hb5.cell (p := ⟨w2.heap.size, 7, none⟩) z4_0).trans c4_0_7
      have z5_0 : w2.heap.size < (w4.alloc (.cells #[.int .i64 s', .int .u8 k', .int .i64 x', .int .i64 y', .int .i64 v', .int .i64 b', .int .i64 w', .int .i64 t'] 26)).heap.size := Nat.lt_of_lt_of_le z4_0 hb5.size
      have c5_1_0 : (w4.alloc (.cells #[.int .i64 s', .int .u8 k', .int .i64 x', .int .i64 y', .int .i64 v', .int .i64 b', .int .i64 w', .int .i64 t'] 26)).cell? ⟨w4.heap.size, 0, none⟩ = some (.int .i64 s') := by rw [World.cell?_alloc_at _ _ _ _ (by simp)]; rfl
      have c5_1_1 : (w4.alloc (.cells #[.int .i64 s', .int .u8 k', .int .i64 x', .int .i64 y', .int .i64 v', .int .i64 b', .int .i64 w', .int .i64 t'] 26)).cell? ⟨w4.heap.size, 1, none⟩ = some (.int .u8 k') := by rw [World.cell?_alloc_at _ _ _ _ (by simp)]; rfl
      have c5_1_2 : (w4.alloc (.cells #[.int .i64 s', .int .u8 k', .int .i64 x', .int .i64 y', .int .i64 v', .int .i64 b', .int .i64 w', .int .i64 t'] 26)).cell? ⟨w4.heap.size, 2, none⟩ = some (.int .i64 x') := by rw [World.cell?_alloc_at _ _ _ _ (by simp)]; rfl
      have c5_1_3 : (w4.alloc (.cells #[.int .i64 s', .int .u8 k', .int .i64 x', .int .i64 y', .int .i64 v', .int .i64 b', .int .i64 w', .int .i64 t'] 26)).cell? ⟨w4.heap.size, 3, none⟩ = some (.int .i64 y') := by rw [World.cell?_alloc_at _ _ _ _ (by simp)]; rfl
      have c5_1_4 : (w4.alloc (.cells #[.int .i64 s', .int .u8 k', .int .i64 x', .int .i64 y', .int .i64 v', .int .i64 b', .int .i64 w', .int .i64 t'] 26)).cell? ⟨w4.heap.size, 4, none⟩ = some (.int .i64 v') := by rw [World.cell?_alloc_at _ _ _ _ (by simp)]; rfl
      have c5_1_5 : (w4.alloc (.cells #[.int .i64 s', .int .u8 k', .int .i64 x', .int .i64 y', .int .i64 v', .int .i64 b', .int .i64 w', .int .i64 t'] 26)).cell? ⟨w4.heap.size, 5, none⟩ = some (.int .i64 b') := by rw [World.cell?_alloc_at _ _ _ _ (by simp)]; rfl
      have c5_1_6 : (w4.alloc (.cells #[.int .i64 s', .int .u8 k', .int .i64 x', .int .i64 y', .int .i64 v', .int .i64 b', .int .i64 w', .int .i64 t'] 26)).cell? ⟨w4.heap.size, 6, none⟩ = some (.int .i64 w') := by rw [World.cell?_alloc_at _ _ _ _ (by simp)]; rfl
      have c5_1_7 : (w4.alloc (.cells #[.int .i64 s', .int .u8 k', .int .i64 x', .int .i64 y', .int .i64 v', .int .i64 b', .int .i64 w', .int .i64 t'] 26)).cell? ⟨w4.heap.size, 7, none⟩ = some (.int .i64 t') := by rw [World.cell?_alloc_at _ _ _ _ (by simp)]; rfl
      have z5_1 : w4.heap.size < (w4.alloc (.cells #[.int .i64 s', .int .u8 k', .int .i64 x', .int .i64 y', .int .i64 v', .int .i64 b', .int .i64 w', .int .i64 t'] 26)).heap.size := by simp
      have hw5 := Lib.hid (hw4.out.trans (hb5.mono hw4.out.size))
      generalize hW5 : (w4.alloc (.cells #[.int .i64 s', .int .u8 k', .int .i64 x', .int .i64 y', .int .i64 v', .int .i64 b', .int .i64 w', .int .i64 t'] 26)) = w5 at *
      clear hW5 hb5 hw4 c4_0_0 c4_0_1 c4_0_2 c4_0_3 c4_0_4 c4_0_5 c4_0_6 c4_0_7 z4_0
      refine (HT.out _ (HE.out.below hw5.out)).mono ?_
      rintro e w6 ⟨rfl, hb6⟩
      have c6_0_0 := (hb6.cell (p := ⟨w2.heap.size, 0, none⟩) z5_0).trans c5_0_0
      have c6_0_1 := (hb6.cell (p := ⟨w2.heap.size, 1, none⟩) z5_0).trans c5_0_1
      have c6_0_2 := (hb6.cell (p := ⟨w2.heap.size, 2, none⟩) z5_0).trans c5_0_2
      have c6_0_3 := (hb6.cell (p := ⟨w2.heap.size, 3, none⟩) z5_0).trans c5_0_3
      have c6_0_4 := (hb6.cell (p := ⟨w2.heap.size, 4, none⟩) z5_0).trans c5_0_4
      have c6_0_5 := (hb6.cell (p := ⟨w2.heap.size, 5, none⟩) z5_0).trans c5_0_5
      have c6_0_6 := (hb6.cell (p := ⟨w2.heap.size, 6, none⟩) z5_0).trans c5_0_6
      have c6_0_7 := (hb6.cell (p := ⟨w2.heap.size, 7, none⟩) z5_0).trans c5_0_7
      have c6_1_0 := (hb6.cell (p := ⟨w4.heap.size, 0, none⟩) z5_1).trans c5_1_0
      have c6_1_1 := (hb6.cell (p := ⟨w4.heap.size, 1, none⟩) z5_1).trans c5_1_1
      have c6_1_2 := (hb6.cell (p := ⟨w4.heap.size, 2, none⟩) z5_1).trans c5_1_2
      have c6_1_3 := (hb6.cell (p := ⟨w4.heap.size, 3, none⟩) z5_1).trans c5_1_3
      have c6_1_4 := (hb6.cell (p := ⟨w4.heap.size, 4, none⟩) z5_1).trans c5_1_4
      have c6_1_5 := (hb6.cell (p := ⟨w4.heap.size, 5, none⟩) z5_1).trans c5_1_5
      have c6_1_6 := (hb6.cell (p := ⟨w4.heap.size, 6, none⟩) z5_1).trans c5_1_6
      have c6_1_7 := (hb6.cell (p := ⟨w4.heap.size, 7, none⟩) z5_1).trans c5_1_7
      have z6_0 : w2.heap.size < w6.heap.size := Nat.lt_of_lt_of_le z5_0 hb6.size
      have z6_1 : w4.heap.size < w6.heap.size := Nat.lt_of_lt_of_le z5_1 hb6.size
      have hw6 := Lib.hid (hw5.out.trans (hb6.mono hw5.out.size))
      clear hb6 hw5 c5_0_0 c5_0_1 c5_0_2 c5_0_3 c5_0_4 c5_0_5 c5_0_6 c5_0_7 c5_1_0 c5_1_1 c5_1_2 c5_1_3 c5_1_4 c5_1_5 c5_1_6 c5_1_7 z5_0 z5_1
      go_wp2
      go_ret
      exact ⟨rfl, hw6.out⟩
    · have g1 : (en == 0) = false := by simpa using he
      have g2 : (en != 0) = true := by simpa using he
      clear he hcut hp
      go_enter Tryd.func11, Tryd.ntmps11
      go_wp2_with fail
      refine (awake_any _ HE.out).mono ?_
      rintro e w1 ⟨rfl, hb1⟩
      have hw1 := Lib.hid hb1
      clear hb1
      go_wp2_with fail
      refine (HP1.out _ (HE.out.below hw1.out)).mono ?_
      rintro e w2 ⟨rfl, hb2⟩
      have hw2 := Lib.hid (hw1.out.trans (hb2.mono hw1.out.size))
      clear hb2 hw1
      simp only [repV]
      go_wp2_with fail
      have hb3 : Below w2.heap.size w2 (w2.alloc (.cells #[.int .i64 s', .int .u8 k', .int .i64 x', .int .i64 y', .int .i64 v', .int .i64 b', .int .i64 w', .int .i64 t'] 26)) := (Below.refl w2.heap.size w2).alloc (Nat.le_refl _) _
      have c3_0_0 : (w2.alloc (.cells #[.int .i64 s', .int .u8 k', .int .i64 x', .int .i64 y', .int .i64 v', .int .i64 b', .int .i64 w', .int .i64 t'] 26)).cell? ⟨w2.heap.size, 0, none⟩ = some (.int .i64 s') := by rw [World.cell?_alloc_at _ _ _ _ (by simp)]; rfl
      have c3_0_1 : (w2.alloc (.cells #[.int .i64 s', .int .u8 k', .int .i64 x', .int .i64 y', .int .i64 v', .int .i64 b', .int .i64 w', .int .i64 t'] 26)).cell? ⟨w2.heap.size, 1, none⟩ = some (.int .u8 k') := by rw [World.cell?_alloc_at _ _ _ _ (by simp)]; rfl
      have c3_0_2 : (w2.alloc (.cells #[.int .i64 s', .int .u8 k', .int .i64 x', .int .i64 y', .int .i64 v', .int .i64 b', .int .i64 w', .int .i64 t'] 26)).cell? ⟨w2.heap.size, 2, none⟩ = some (.int .i64 x') := by rw [World.cell?_alloc_at _ _ _ _ (by simp)]; rfl
      have c3_0_3 : (w2.alloc (.cells #[.int .i64 s', .int .u8 k', .int .i64 x', .int .i64 y', .int .i64 v', .int .i64 b', .int .i64 w', .int .i64 t'] 26)).cell? ⟨w2.heap.size, 3, none⟩ = some (.int .i64 y') := by rw [World.cell?_alloc_at _ _ _ _ (by simp)]; rfl
      have c3_0_4 : (w2.alloc (.cells #[.int .i64 s', .int .u8 k', .int .i64 x', .int .i64 y', .int .i64 v', .int .i64 b', .int .i64 w', .int .i64 t'] 26)).cell? ⟨w2.heap.size, 4, none⟩ = some (.int .i64 v') := by rw [World.cell?_alloc_at _ _ _ _ (by simp)]; rfl
      have c3_0_5 : (w2.alloc (.cells #[.int .i64 s', .int .u8 k', .int .i64 x', .int .i64 y', .int .i64 v', .int .i64 b', .int .i64 w', .int .i64 t'] 26)).cell? ⟨w2.heap.size, 5, none⟩ = some (.int .i64 b') := by rw [World.cell?_alloc_at _ _ _ _ (by simp)]; rfl
      have c3_0_6 : (w2.alloc (.cells #[.int .i64 s', .int .u8 k', .int .i64 x', .int .i64 y', .int .i64 v', .int .i64 b', .int .i64 w', .int .i64 t'] 26)).cell? ⟨w2.heap.size, 6, none⟩ = some (.int .i64 w') := by rw [World.cell?_alloc_at _ _ _ _ (by simp)]; rfl
      have c3_0_7 : (w2.alloc (.cells #[.int .i64 s', .int .u8 k', .int .i64 x', .int .i64 y', .int .i64 v', .int .i64 b', .int .i64 w', .int .i64 t'] 26)).cell? ⟨w2.heap.size, 7, none⟩ = some (.int .i64 t') := by rw [World.cell?_alloc_at _ _ _ _ (by simp)]; rfl
      have z3_0 : w2.heap.size < (w2.alloc (.cells #[.int .i64 s', .int .u8 k', .int .i64 x', .int .i64 y', .int .i64 v', .int .i64 b', .int .i64 w', .int .i64 t'] 26)).heap.size := by simp
      have hw3 := Lib.hid (hw2.out.trans (hb3.mono hw2.out.size))
      generalize hW3 : (w2.alloc (.cells #[.int .i64 s', .int .u8 k', .int .i64 x', .int .i64 y', .int .i64 v', .int .i64 b', .int .i64 w', .int .i64 t'] 26)) = w3 at *
      clear hW3 hb3 hw2
      refine (HP2.out _).mono ?_
      rintro e w4 ⟨rfl, hb4⟩
      have c4_0_0 := (hb4.cell (p := ⟨w2.heap.size, 0, none⟩) z3_0).trans c3_0_0
      have c4_0_1 := (hb4.cell (p := ⟨w2.heap.size, 1, none⟩) z3_0).trans c3_0_1
      have c4_0_2 := (hb4.cell (p := ⟨w2.heap.size, 2, none⟩) z3_0).trans c3_0_2
      have c4_0_3 := (hb4.cell (p := ⟨w2.heap.size, 3, none⟩) z3_0).trans c3_0_3
      have c4_0_4 := (hb4.cell (p := ⟨w2.heap.size, 4, none⟩) z3_0).trans c3_0_4
      have c4_0_5 := (hb4.cell (p := ⟨w2.heap.size, 5, none⟩) z3_0).trans c3_0_5
      have c4_0_6 := (hb4.cell (p := ⟨w2.heap.size, 6, none⟩) z3_0).trans c3_0_6
      have c4_0_7 := (hb4.cell (p := ⟨w2.heap.size, 7, none⟩) z3_0).trans c3_0_7
      have z4_0 : w2.heap.size < w4.heap.size := Nat.lt_of_lt_of_le z3_0 hb4.size
      have hw4 := Lib.hid (hw3.out.trans (hb4.mono hw3.out.size))
      clear hb4 hw3 c3_0_0 c3_0_1 c3_0_2 c3_0_3 c3_0_4 c3_0_5 c3_0_6 c3_0_7 z3_0
      simp only [repV]
      go_wp2_with fail
      have hb5 : Below w4.heap.size w4 (w4.alloc (.cells #[.int .i64 s', .int .u8 k', .int .i64 x', .int .i64 y', .int .i64 v', .int .i64 b', .int .i64 w', .int .i64 t'] 26)) := (Below.refl w4.heap.size w4).alloc (Nat.le_refl _) _
      have c5_0_0 := (hb5.cell (p := ⟨w2.heap.size, 0, none⟩) z4_0).trans c4_0_0
      have c5_0_1 := (hb5.cell (p := ⟨w2.heap.size, 1, none⟩) z4_0).trans c4_0_1
      have c5_0_2 := (hb5.cell (p := ⟨w2.heap.size, 2, none⟩) z4_0).trans c4_0_2
      have c5_0_3 := (hb5.cell (p := ⟨w2.heap.size, 3, none⟩) z4_0).trans c4_0_3
      have c5_0_4 := (hb5.cell (p := ⟨w2.heap.size, 4, none⟩) z4_0).trans c4_0_4
      have c5_0_5 := (hb5.cell (p := ⟨w2.heap.size, 5, none⟩) z4_0).trans c4_0_5
      have c5_0_6 := (hb5.cell (p := ⟨w2.heap.size, 6, none⟩) z4_0).trans c4_0_6
      have c5_0_7 := (hb5.cell (p := ⟨w2.heap.size, 7, none⟩) z4_0).trans c4_0_7
      have z5_0 : w2.heap.size < (w4.alloc (.cells #[.int .i64 s', .int .u8 k', .int .i64 x', .int .i64 y', .int .i64 v', .int .i64 b', .int .i64 w', .int .i64 t'] 26)).heap.size := Nat.lt_of_lt_of_le z4_0 hb5.size
      have c5_1_0 : (w4.alloc (.cells #[.int .i64 s', .int .u8 k', .int .i64 x', .int .i64 y', .int .i64 v', .int .i64 b', .int .i64 w', .int .i64 t'] 26)).cell? ⟨w4.heap.size, 0, none⟩ = some (.int .i64 s') := by rw [World.cell?_alloc_at _ _ _ _ (by simp)]; rfl
      have c5_1_1 : (w4.alloc (.cells #[.int .i64 s', .int .u8 k', .int .i64 x', .int .i64 y', .int .i64 v', .int .i64 b', .int .i64 w', .int .i64 t'] 26)).cell? ⟨w4.heap.size, 1, none⟩ = some (.int .u8 k') := by rw [World.cell?_alloc_at _ _ _ _ (by simp)]; rfl
      have c5_1_2 : (w4.alloc (.cells #[.int .i64 s', .int .u8 k', .int .i64 x', .int .i64 y', .int .i64 v', .int .i64 b', .int .i64 w', .int .i64 t'] 26)).cell? ⟨w4.heap.size, 2, none⟩ = some (.int .i64 x') := by rw [World.cell?_alloc_at _ _ _ _ (by simp)]; rfl
      have c5_1_3 : (w4.alloc (.cells #[.int .i64 s', .int .u8 k', .int .i64 x', .int .i64 y', .int .i64 v', .int .i64 b', .int .i64 w', .int .i64 t'] 26)).cell? ⟨w4.heap.size, 3, none⟩ = some (.int .i64 y') := by rw [World.cell?_alloc_at _ _ _ _ (by simp)]; rfl
      have c5_1_4 : (w4.alloc (.cells #[.int .i64 s', .int .u8 k', .int .i64 x', .int .i64 y', .int .i64 v', .int .i64 b', .int .i64 w', .int .i64 t'] 26)).cell? ⟨w4.heap.size, 4, none⟩ = some (.int .i64 v') := by rw [World.cell?_alloc_at _ _ _ _ (by simp)]; rfl
      have c5_1_5 : (w4.alloc (.cells #[.int .i64 s', .int .u8 k', .int .i64 x', .int .i64 y', .int .i64 v', .int .i64 b', .int .i64 w', .int .i64 t'] 26)).cell? ⟨w4.heap.size, 5, none⟩ = some (.int .i64 b') := by rw [World.cell?_alloc_at _ _ _ _ (by simp)]; rfl
      have c5_1_6 : (w4.alloc (.cells #[.int .i64 s', .int .u8 k', .int .i64 x', .int .i64 y', .int .i64 v', .int .i64 b', .int .i64 w', .int .i64 t'] 26)).cell? ⟨w4.heap.size, 6, none⟩ = some (.int .i64 w') := by rw [World.cell?_alloc_at _ _ _ _ (by simp)]; rfl
      have c5_1_7 : (w4.alloc (.cells #[.int .i64 s', .int .u8 k', .int .i64 x', .int .i64 y', .int .i64 v', .int .i64 b', .int .i64 w', .int .i64 t'] 26)).cell? ⟨w4.heap.size, 7, none⟩ = some (.int .i64 t') := by rw [World.cell?_alloc_at _ _ _ _ (by simp)]; rfl
      have z5_1 : w4.heap.size < (w4.alloc (.cells #[.int .i64 s', .int .u8 k', .int .i64 x', .int .i64 y', .int .i64 v', .int .i64 b', .int .i64 w', .int .i64 t'] 26)).heap.size := by simp
      have hw5 := Lib.hid (hw4.out.trans (hb5.mono hw4.out.size))
      generalize hW5 : (w4.alloc (.cells #[.int .i64 s', .int .u8 k', .int .i64 x', .int .i64 y', .int .i64 v', .int .i64 b', .int .i64 w', .int .i64 t'] 26)) = w5 at *
      clear hW5 hb5 hw4 c4_0_0 c4_0_1 c4_0_2 c4_0_3 c4_0_4 c4_0_5 c4_0_6 c4_0_7 z4_0
      go_wp2
      go_ret
      exact ⟨rfl, hw5.out⟩
  · have f1 : decide (120 < (s.size : Int)) = false := by simp; omega
    have f1' : decide (120 < s.size) = false := by simpa using hs
    have hsz : s.size ≤ 1000 := by omega
    have P1 := fun w hE => parse_any s w hE hsz
    have P2 := fun w => parse_ref s w hsz
    have hcut := parse_cut s
    obtain ⟨rr, en, hp⟩ : ∃ rr en, parse41 (s).data.toList = (rr, en) := ⟨_, _, rfl⟩
    rw [hp] at P1 P2
    obtain ⟨s', k', x', y', v', b', w', t'⟩ := rr
    have HP1 := Lib.hid P1
    have HP2 := Lib.hid P2
    clear P1 P2
    by_cases he : en = 0
    · subst he
      obtain ⟨c1, c2, c3⟩ := hcut _ hp
      have T1 := fun w hE => text_any s' k' x' y' v' b' w' t' w hE c2 c3
      unfold RetB at T1
      simp only at c1
      rw [c1] at T1
      have HT := Lib.hid T1
      clear T1 c1 c2 c3 hcut hp
      go_enter Tryd.func11, Tryd.ntmps11
      go_wp2_with fail
      refine (awake_any _ HE.out).mono ?_
      rintro e w1 ⟨rfl, hb1⟩
      have hw1 := Lib.hid hb1
      clear hb1
      go_wp2_with fail
      refine (HP1.out _ (HE.out.below hw1.out)).mono ?_
      rintro e w2 ⟨rfl, hb2⟩
      have hw2 := Lib.hid (hw1.out.trans (hb2.mono hw1.out.size))
      clear hb2 hw1
      simp only [repV]
      go_wp2_with fail
      have hb3 : Below w2.heap.size w2 (w2.alloc (.cells #[.int .i64 s', .int .u8 k', .int .i64 x', .int .i64 y', .int .i64 v', .int .i64 b', .int .i64 w', .int .i64 t'] 26)) := (Below.refl w2.heap.size w2).alloc (Nat.le_refl _) _
      have c3_0_0 : (w2.alloc (.cells #[.int .i64 s', .int .u8 k', .int .i64 x', .int .i64 y', .int .i64 v', .int .i64 b', .int .i64 w', .int .i64 t'] 26)).cell? ⟨w2.heap.size, 0, none⟩ = some (.int .i64 s') := by rw [World.cell?_alloc_at _ _ _ _ (by simp)]; rfl
      have c3_0_1 : (w2.alloc (.cells #[.int .i64 s', .int .u8 k', .int .i64 x', .int .i64 y', .int .i64 v', .int .i64 b', .int .i64 w', .int .i64 t'] 26)).cell? ⟨w2.heap.size, 1, none⟩ = some (.int .u8 k') := by rw [World.cell?_alloc_at _ _ _ _ (by simp)]; rfl
      have c3_0_2 : (w2.alloc (.cells #[.int .i64 s', .int .u8 k', .int .i64 x', .int .i64 y', .int .i64 v', .int .i64 b', .int .i64 w', .int .i64 t'] 26)).cell? ⟨w2.heap.size, 2, none⟩ = some (.int .i64 x') := by rw [World.cell?_alloc_at _ _ _ _ (by simp)]; rfl
      have c3_0_3 : (w2.alloc (.cells #[.int .i64 s', .int .u8 k', .int .i64 x', .int .i64 y', .int .i64 v', .int .i64 b', .int .i64 w', .int .i64 t'] 26)).cell? ⟨w2.heap.size, 3, none⟩ = some (.int .i64 y') := by rw [World.cell?_alloc_at _ _ _ _ (by simp)]; rfl
      have c3_0_4 : (w2.alloc (.cells #[.int .i64 s', .int .u8 k', .int .i64 x', .int .i64 y', .int .i64 v', .int .i64 b', .int .i64 w', .int .i64 t'] 26)).cell? ⟨w2.heap.size, 4, none⟩ = some (.int .i64 v') := by rw [World.cell?_alloc_at _ _ _ _ (by simp)]; rfl
      have c3_0_5 : (w2.alloc (.cells #[.int .i64 s', .int .u8 k', .int .i64 x', .int .i64 y', .int .i64 v', .int .i64 b', .int .i64 w', .int .i64 t'] 26)).cell? ⟨w2.heap.size, 5, none⟩ = some (.int .i64 b') := by rw [World.cell?_alloc_at _ _ _ _ (by simp)]; rfl
      have c3_0_6 : (w2.alloc (.cells #[.int .i64 s', .int .u8 k', .int .i64 x', .int .i64 y', .int .i64 v', .int .i64 b', .int .i64 w', .int .i64 t'] 26)).cell? ⟨w2.heap.size, 6, none⟩ = some (.int .i64 w') := by rw [World.cell?_alloc_at _ _ _ _ (by simp)]; rfl
      have c3_0_7 : (w2.alloc (.cells #[.int .i64 s', .int .u8 k', .int .i64 x', .int .i64 y', .int .i64 v', .int .i64 b', .int .i64 w', .int .i64 t'] 26)).cell? ⟨w2.heap.size, 7, none⟩ = some (.int .i64 t') := by rw [World.cell?_alloc_at _ _ _ _ (by simp)]; rfl
      have z3_0 : w2.heap.size < (w2.alloc (.cells #[.int .i64 s', .int .u8 k', .int .i64 x', .int .i64 y', .int .i64 v', .int .i64 b', .int .i64 w', .int .i64 t'] 26)).heap.size := by simp
      have hw3 := Lib.hid (hw2.out.trans (hb3.mono hw2.out.size))
      generalize hW3 : (w2.alloc (.cells #[.int .i64 s', .int .u8 k', .int .i64 x', .int .i64 y', .int .i64 v', .int .i64 b', .int .i64 w', .int .i64 t'] 26)) = w3 at *
      clear hW3 hb3 hw2
      refine (HP2.out _).mono ?_
      rintro e w4 ⟨rfl, hb4⟩
      have c4_0_0 := (hb4.cell (p := ⟨w2.heap.size, 0, none⟩) z3_0).trans c3_0_0
      have c4_0_1 := (hb4.cell (p := ⟨w2.heap.size, 1, none⟩) z3_0).trans c3_0_1
      have c4_0_2 := (hb4.cell (p := ⟨w2.heap.size, 2, none⟩) z3_0).trans c3_0_2
      have c4_0_3 := (hb4.cell (p := ⟨w2.heap.size, 3, none⟩) z3_0).trans c3_0_3
      have c4_0_4 := (hb4.cell (p := ⟨w2.heap.size, 4, none⟩) z3_0).trans c3_0_4
      have c4_0_5 := (hb4.cell (p := ⟨w2.heap.size, 5, none⟩) z3_0).trans c3_0_5
      have c4_0_6 := (hb4.cell (p := ⟨w2.heap.size, 6, none⟩) z3_0).trans c3_0_6
      have c4_0_7 := (hb4.cell (p := ⟨w2.heap.size, 7, none⟩) z3_0).trans c3_0_7
      have z4_0 : w2.heap.size < w4.heap.size := Nat.lt_of_lt_of_le z3_0 hb4.size
      have hw4 := Lib.hid (hw3.out.trans (hb4.mono hw3.out.size))
      clear hb4 hw3 c3_0_0 c3_0_1 c3_0_2 c3_0_3 c3_0_4 c3_0_5 c3_0_6 c3_0_7 z3_0
      simp only [repV]
      go_wp2_with fail
      have hb5 : Below w4.heap.size w4 (w4.alloc (.cells #[.int .i64 s', .int .u8 k', .int .i64 x', .int .i64 y', .int .i64 v', .int .i64 b', .int .i64 w', .int .i64 t'] 26)) := (Below.refl w4.heap.size w4).alloc (Nat.le_refl _) _
      have c5_0_0 := (hb5.cell (p := ⟨w2.heap.size, 0, none⟩) z4_0).trans c4_0_0
      have c5_0_1 := (hb5.cell (p := ⟨w2.heap.size, 1, none⟩) z4_0).trans c4_0_1
      have c5_0_2 := (hb5.cell (p := ⟨w2.heap.size, 2, none⟩) z4_0).trans c4_0_2
      have c5_0_3 := (hb5.cell (p := ⟨w2.heap.size, 3, none⟩) z4_0).trans c4_0_3
      have c5_0_4 := (hb5.cell (p := ⟨w2.heap.size, 4, none⟩) z4_0).trans c4_0_4
      have c5_0_5 := (hb5.cell (p := ⟨w2.heap.size, 5, none⟩) z4_0).trans c4_0_5
      have c5_0_6 := (hb5.cell (p := ⟨w2.heap.size, 6, none⟩) z4_0).trans c4_0_6
      have c5_0_7 := (hb5.cell (p := ⟨w2.heap.size, 7, none⟩) z4_0).trans c4_0_7
      have z5_0 : w2.heap.size < (w4.alloc (.cells #[.int .i64 s', .int .u8 k', .int .i64 x', .int .i64 y', .int .i64 v', .int .i64 b', .int .i64 w', .int .i64 t'] 26)).heap.size := Nat.lt_of_lt_of_le z4_0 hb5.size
      have c5_1_0 : (w4.alloc (.cells #[.int .i64 s', .int .u8 k', .int .i64 x', .int .i64 y', .int .i64 v', .int .i64 b', .int .i64 w', .int .i64 t'] 26)).cell? ⟨w4.heap.size, 0, none⟩ = some (.int .i64 s') := by rw [World.cell?_alloc_at _ _ _ _ (by simp)]; rfl
      have c5_1_1 : (w4.alloc (.cells #[.int .i64 s', .int .u8 k', .int .i64 x', .int .i64 y', .int .i64 v', .int .i64 b', .int .i64 w', .int .i64 t'] 26)).cell? ⟨w4.heap.size, 1, none⟩ = some (.int .u8 k') := by rw [World.cell?_alloc_at _ _ _ _ (by simp)]; rfl
      have c5_1_2 : (w4.alloc (.cells #[.int .i64 s', .int .u8 k', .int .i64 x', .int .i64 y', .int .i64 v', .int .i64 b', .int .i64 w', .int .i64 t'] 26)).cell? ⟨w4.heap.size, 2, none⟩ = some (.int .i64 x') := by rw [World.cell?_alloc_at _ _ _ _ (by simp)]; rfl
      have c5_1_3 : (w4.alloc (.cells #[.int .i64 s', .int .u8 k', .int .i64 x', .int .i64 y', .int .i64 v', .int .i64 b', .int .i64 w', .int .i64 t'] 26)).cell? ⟨w4.heap.size, 3, none⟩ = some (.int .i64 y') := by rw [World.cell?_alloc_at _ _ _ _ (by simp)]; rfl
      have c5_1_4 : (w4.alloc (.cells #[.int .i64 s', .int .u8 k', .int .i64 x', .int .i64 y', .int .i64 v', .int .i64 b', .int .i64 w', .int .i64 t'] 26)).cell? ⟨w4.heap.size, 4, none⟩ = some (.int .i64 v') := by rw [World.cell?_alloc_at _ _ _ _ (by simp)]; rfl
      have c5_1_5 : (w4.alloc (.cells #[.int .i64 s', .int .u8 k', .int .i64 x', .int .i64 y', .int .i64 v', .int .i64 b', .int .i64 w', .int .i64 t'] 26)).cell? ⟨w4.heap.size, 5, none⟩ = some (.int .i64 b') := by rw [World.cell?_alloc_at _ _ _ _ (by simp)]; rfl
      have c5_1_6 : (w4.alloc (.cells #[.int .i64 s', .int .u8 k', .int .i64 x', .int .i64 y', .int .i64 v', .int .i64 b', .int .i64 w', .int .i64 t'] 26)).cell? ⟨w4.heap.size, 6, none⟩ = some (.int .i64 w') := by rw [World.cell?_alloc_at _ _ _ _ (by simp)]; rfl
      have c5_1_7 : (w4.alloc (.cells #[.int .i64 s', .int .u8 k', .int .i64 x', .int .i64 y', .int .i64 v', .int .i64 b', .int .i64 w', .int .i64 t'] 26)).cell? ⟨w4.heap.size, 7, none⟩ = some (.int .i64 t') := by rw [World.cell?_alloc_at _ _ _ _ (by simp)]; rfl
      have z5_1 : w4.heap.size < (w4.alloc (.cells #[.int .i64 s', .int .u8 k', .int .i64 x', .int .i64 y', .int .i64 v', .int .i64 b', .int .i64 w', .int .i64 t'] 26)).heap.size := by simp
      have hw5 := Lib.hid (hw4.out.trans (hb5.mono hw4.out.size))
      generalize hW5 : (w4.alloc (.cells #[.int .i64 s', .int .u8 k', .int .i64 x', .int .i64 y', .int .i64 v', .int .i64 b', .int .i64 w', .int .i64 t'] 26)) = w5 at *
      clear hW5 hb5 hw4 c4_0_0 c4_0_1 c4_0_2 c4_0_3 c4_0_4 c4_0_5 c4_0_6 c4_0_7 z4_0
      refine (HT.out _ (HE.out.below hw5.out)).mono ?_
      rintro e w6 ⟨rfl, hb6⟩
      have c6_0_0 := (hb6.cell (p := ⟨w2.heap.size, 0, none⟩) z5_0).trans c5_0_0
      have c6_0_1 := (hb6.cell (p := ⟨w2.heap.size, 1, none⟩) z5_0).trans c5_0_1
      have c6_0_2 := (hb6.cell (p := ⟨w2.heap.size, 2, none⟩) z5_0).trans c5_0_2
      have c6_0_3 := (hb6.cell (p := ⟨w2.heap.size, 3, none⟩) z5_0).trans c5_0_3
      have c6_0_4 := (hb6.cell (p := ⟨w2.heap.size, 4, none⟩) z5_0).trans c5_0_4
      have c6_0_5 := (hb6.cell (p := ⟨w2.heap.size, 5, none⟩) z5_0).trans c5_0_5
      have c6_0_6 := (hb6.cell (p := ⟨w2.heap.size, 6, none⟩) z5_0).trans c5_0_6
      have c6_0_7 := (hb6.cell (p := ⟨w2.heap.size, 7, none⟩) z5_0).trans c5_0_7
      have c6_1_0 := (hb6.cell (p := ⟨w4.heap.size, 0, none⟩) z5_1).trans c5_1_0
      have c6_1_1 := (hb6.cell (p := ⟨w4.heap.size, 1, none⟩) z5_1).trans c5_1_1
      have c6_1_2 := (hb6.cell (p := ⟨w4.heap.size, 2, none⟩) z5_1).trans c5_1_2
      have c6_1_3 := (hb6.cell (p := ⟨w4.heap.size, 3, none⟩) z5_1).trans c5_1_3
      have c6_1_4 := (hb6.cell (p := ⟨w4.heap.size, 4, none⟩) z5_1).trans c5_1_4
      have c6_1_5 := (hb6.cell (p := ⟨w4.heap.size, 5, none⟩) z5_1).trans c5_1_5
      have c6_1_6 := (hb6.cell (p := ⟨w4.heap.size, 6, none⟩) z5_1).trans c5_1_6
      have c6_1_7 := (hb6.cell (p := ⟨w4.heap.size, 7, none⟩) z5_1).trans c5_1_7
      have z6_0 : w2.heap.size < w6.heap.size := Nat.lt_of_lt_of_le z5_0 hb6.size
      have z6_1 : w4.heap.size < w6.heap.size := Nat.lt_of_lt_of_le z5_1 hb6.size
      have hw6 := Lib.hid (hw5.out.trans (hb6.mono hw5.out.size))
      clear hb6 hw5 c5_0_0 c5_0_1 c5_0_2 c5_0_3 c5_0_4 c5_0_5 c5_0_6 c5_0_7 c5_1_0 c5_1_1 c5_1_2 c5_1_3 c5_1_4 c5_1_5 c5_1_6 c5_1_7 z5_0 z5_1
      go_wp2
      go_ret
      exact ⟨rfl, hw6.out⟩
    · have g1 : (en == 0) = false := by simpa using he
      have g2 : (en != 0) = true := by simpa using he
      clear he hcut hp
      go_enter Tryd.func11, Tryd.ntmps11
      go_wp2_with fail
      refine (awake_any _ HE.out).mono ?_
      rintro e w1 ⟨rfl, hb1⟩
      have hw1 := Lib.hid hb1
      clear hb1
      go_wp2_with fail
      refine (HP1.out _ (HE.out.below hw1.out)).mono ?_
      rintro e w2 ⟨rfl, hb2⟩
      have hw2 := Lib.hid (hw1.out.trans (hb2.mono hw1.out.size))
      clear hb2 hw1
      simp only [repV]
      go_wp2_with fail
      have hb3 : Below w2.heap.size w2 (w2.alloc (.cells #[.int .i64 s', .int .u8 k', .int .i64 x', .int .i64 y', .int .i64 v', .int .i64 b', .int .i64 w', .int .i64 t'] 26)) := (Below.refl w2.heap.size w2).alloc (Nat.le_refl _) _
      have c3_0_0 : (w2.alloc (.cells #[.int .i64 s', .int .u8 k', .int .i64 x', .int .i64 y', .int .i64 v', .int .i64 b', .int .i64 w', .int .i64 t'] 26)).cell? ⟨w2.heap.size, 0, none⟩ = some (.int .i64 s') := by rw [World.cell?_alloc_at _ _ _ _ (by simp)]; rfl
      have c3_0_1 : (w2.alloc (.cells #[.int .i64 s', .int .u8 k', .int .i64 x', .int .i64 y', .int .i64 v', .int .i64 b', .int .i64 w', .int .i64 t'] 26)).cell? ⟨w2.heap.size, 1, none⟩ = some (.int .u8 k') := by rw [World.cell?_alloc_at _ _ _ _ (by simp)]; rfl
      have c3_0_2 : (w2.alloc (.cells #[.int .i64 s', .int .u8 k', .int .i64 x', .int .i64 y', .int .i64 v', .int .i64 b', .int .i64 w', .int .i64 t'] 26)).cell? ⟨w2.heap.size, 2, none⟩ = some (.int .i64 x') := by rw [World.cell?_alloc_at _ _ _ _ (by simp)]; rfl
      have c3_0_3 : (w2.alloc (.cells #[.int .i64 s', .int .u8 k', .int .i64 x', .int .i64 y', .int .i64 v', .int .i64 b', .int .i64 w', .int .i64 t'] 26)).cell? ⟨w2.heap.size, 3, none⟩ = some (.int .i64 y') := by rw [World.cell?_alloc_at _ _ _ _ (by simp)]; rfl
      have c3_0_4 : (w2.alloc (.cells #[.int .i64 s', .int .u8 k', .int .i64 x', .int .i64 y', .int .i64 v', .int .i64 b', .int .i64 w', .int .i64 t'] 26)).cell? ⟨w2.heap.size, 4, none⟩ = some (.int .i64 v') := by rw [World.cell?_alloc_at _ _ _ _ (by simp)]; rfl
      have c3_0_5 : (w2.alloc (.cells #[.int .i64 s', .int .u8 k', .int .i64 x', .int .i64 y', .int .i64 v', .int .i64 b', .int .i64 w', .int .i64 t'] 26)).cell? ⟨w2.heap.size, 5, none⟩ = some (.int .i64 b') := by rw [World.cell?_alloc_at _ _ _ _ (by simp)]; rfl
      have c3_0_6 : (w2.alloc (.cells #[.int .i64 s', .int .u8 k', .int .i64 x', .int .i64 y', .int .i64 v', .int .i64 b', .int .i64 w', .int .i64 t'] 26)).cell? ⟨w2.heap.size, 6, none⟩ = some (.int .i64 w') := by rw [World.cell?_alloc_at _ _ _ _ (by simp)]; rfl
      have c3_0_7 : (w2.alloc (.cells #[.int .i64 s', .int .u8 k', .int .i64 x', .int .i64 y', .int .i64 v', .int .i64 b', .int .i64 w', .int .i64 t'] 26)).cell? ⟨w2.heap.size, 7, none⟩ = some (.int .i64 t') := by rw [World.cell?_alloc_at _ _ _ _ (by simp)]; rfl
      have z3_0 : w2.heap.size < (w2.alloc (.cells #[.int .i64 s', .int .u8 k', .int .i64 x', .int .i64 y', .int .i64 v', .int .i64 b', .int .i64 w', .int .i64 t'] 26)).heap.size := by simp
      have hw3 := Lib.hid (hw2.out.trans (hb3.mono hw2.out.size))
      generalize hW3 : (w2.alloc (.cells #[.int .i64 s', .int .u8 k', .int .i64 x', .int .i64 y', .int .i64 v', .int .i64 b', .int .i64 w', .int .i64 t'] 26)) = w3 at *
      clear hW3 hb3 hw2
      refine (HP2.out _).mono ?_
      rintro e w4 ⟨rfl, hb4⟩
      have c4_0_0 := (hb4.cell (p := ⟨w2.heap.size, 0, none⟩) z3_0).trans c3_0_0
      have c4_0_1 := (hb4.cell (p := ⟨w2.heap.size, 1, none⟩) z3_0).trans c3_0_1
      have c4_0_2 := (hb4.cell (p := ⟨w2.heap.size, 2, none⟩) z3_0).trans c3_0_2
      have c4_0_3 := (hb4.cell (p := ⟨w2.heap.size, 3, none⟩) z3_0).trans c3_0_3
      have c4_0_4 := (hb4.cell (p := ⟨w2.heap.size, 4, none⟩) z3_0).trans c3_0_4
      have c4_0_5 := (hb4.cell (p := ⟨w2.heap.size, 5, none⟩) z3_0).trans c3_0_5
      have c4_0_6 := (hb4.cell (p := ⟨w2.heap.size, 6, none⟩) z3_0).trans c3_0_6
      have c4_0_7 := (hb4.cell (p := ⟨w2.heap.size, 7, none⟩) z3_0).trans c3_0_7
      have z4_0 : w2.heap.size < w4.heap.size := Nat.lt_of_lt_of_le z3_0 hb4.size
      have hw4 := Lib.hid (hw3.out.trans (hb4.mono hw3.out.size))
      clear hb4 hw3 c3_0_0 c3_0_1 c3_0_2 c3_0_3 c3_0_4 c3_0_5 c3_0_6 c3_0_7 z3_0
      simp only [repV]
      go_wp2_with fail
      have hb5 : Below w4.heap.size w4 (w4.alloc (.cells #[.int .i64 s', .int .u8 k', .int .i64 x', .int .i64 y', .int .i64 v', .int .i64 b', .int .i64 w', .int .i64 t'] 26)) := (Below.refl w4.heap.size w4).alloc (Nat.le_refl _) _
      have c5_0_0 := (hb5.cell (p := ⟨w2.heap.size, 0, none⟩) z4_0).trans c4_0_0
      have c5_0_1 := (hb5.cell (p := ⟨w2.heap.size, 1, none⟩) z4_0).trans c4_0_1
      have c5_0_2 := (hb5.cell (p := ⟨w2.heap.size, 2, none⟩) z4_0).trans c4_0_2
      have c5_0_3 := (hb5.cell (p := ⟨w2.heap.size, 3, none⟩) z4_0).trans c4_0_3
      have c5_0_4 := (hb5.cell (p := ⟨w2.heap.size, 4, none⟩) z4_0).trans c4_0_4
      have c5_0_5 := (hb5.cell (p := ⟨w2.heap.size, 5, none⟩) z4_0).trans c4_0_5
      have c5_0_6 := (hb5.cell (p := ⟨w2.heap.size, 6, none⟩) z4_0).trans c4_0_6
      have c5_0_7 := (hb5.cell (p := ⟨w2.heap.size, 7, none⟩) z4_0).trans c4_0_7
      have z5_0 : w2.heap.size < (w4.alloc (.cells #[.int .i64 s', .int .u8 k', .int .i64 x', .int .i64 y', .int .i64 v', .int .i64 b', .int .i64 w', .int .i64 t'] 26)).heap.size := Nat.lt_of_lt_of_le z4_0 hb5.size
      have c5_1_0 : (w4.alloc (.cells #[.int .i64 s', .int .u8 k', .int .i64 x', .int .i64 y', .int .i64 v', .int .i64 b', .int .i64 w', .int .i64 t'] 26)).cell? ⟨w4.heap.size, 0, none⟩ = some (.int .i64 s') := by rw [World.cell?_alloc_at _ _ _ _ (by simp)]; rfl
      have c5_1_1 : (w4.alloc (.cells #[.int .i64 s', .int .u8 k', .int .i64 x', .int .i64 y', .int .i64 v', .int .i64 b', .int .i64 w', .int .i64 t'] 26)).cell? ⟨w4.heap.size, 1, none⟩ = some (.int .u8 k') := by rw [World.cell?_alloc_at _ _ _ _ (by simp)]; rfl
      have c5_1_2 : (w4.alloc (.cells #[.int .i64 s', .int .u8 k', .int .i64 x', .int .i64 y', .int .i64 v', .int .i64 b', .int .i64 w', .int .i64 t'] 26)).cell? ⟨w4.heap.size, 2, none⟩ = some (.int .i64 x') := by rw [World.cell?_alloc_at _ _ _ _ (by simp)]; rfl
      have c5_1_3 : (w4.alloc (.cells #[.int .i64 s', .int .u8 k', .int .i64 x', .int .i64 y', .int .i64 v', .int .i64 b', .int .i64 w', .int .i64 t'] 26)).cell? ⟨w4.heap.size, 3, none⟩ = some (.int .i64 y') := by rw [World.cell?_alloc_at _ _ _ _ (by simp)]; rfl
      have c5_1_4 : (w4.alloc (.cells #[.int .i64 s', .int .u8 k', .int .i64 x', .int .i64 y', .int .i64 v', .int .i64 b', .int .i64 w', .int .i64 t'] 26)).cell? ⟨w4.heap.size, 4, none⟩ = some (.int .i64 v') := by rw [World.cell?_alloc_at _ _ _ _ (by simp)]; rfl
      have c5_1_5 : (w4.alloc (.cells #[.int .i64 s', .int .u8 k', .int .i64 x', .int .i64 y', .int .i64 v', .int .i64 b', .int .i64 w', .int .i64 t'] 26)).cell? ⟨w4.heap.size, 5, none⟩ = some (.int .i64 b') := by rw [World.cell?_alloc_at _ _ _ _ (by simp)]; rfl
      have c5_1_6 : (w4.alloc (.cells #[.int .i64 s', .int .u8 k', .int .i64 x', .int .i64 y', .int .i64 v', .int .i64 b', .int .i64 w', .int .i64 t'] 26)).cell? ⟨w4.heap.size, 6, none⟩ = some (.int .i64 w') := by rw [World.cell?_alloc_at _ _ _ _ (by simp)]; rfl
      have c5_1_7 : (w4.alloc (.cells #[.int .i64 s', .int .u8 k', .int .i64 x', .int .i64 y', .int .i64 v', .int .i64 b', .int .i64 w', .int .i64 t'] 26)).cell? ⟨w4.heap.size, 7, none⟩ = some (.int .i64 t') := by rw [World.cell?_alloc_at _ _ _ _ (by simp)]; rfl
      have z5_1 : w4.heap.size < (w4.alloc (.cells #[.int .i64 s', .int .u8 k', .int .i64 x', .int .i64 y', .int .i64 v', .int .i64 b', .int .i64 w', .int .i64 t'] 26)).heap.size := by simp
      have hw5 := Lib.hid (hw4.out.trans (hb5.mono hw4.out.size))
      generalize hW5 : (w4.alloc (.cells #[.int .i64 s', .int .u8 k', .int .i64 x', .int .i64 y', .int .i64 v', .int .i64 b', .int .i64 w', .int .i64 t'] 26)) = w5 at *
      clear hW5 hb5 hw4 c4_0_0 c4_0_1 c4_0_2 c4_0_3 c4_0_4 c4_0_5 c4_0_6 c4_0_7 z4_0
      go_wp2
      go_ret
      exact ⟨rfl, hw5.out⟩
/-! ### the row's step -/
set_option maxRecDepth 100000 in
theorem contract (H : Type) (enc : TypeId × Value → H) (W : World) (base : Nat) (args : Array Value) (ds gs : List (DataW H)) (before : List MemPlace)
    (hval : ∀ (j : Nat) t v, Tryd.f11.params[j]? = some t → args[j]? = some v → Value.okWide Tryd.prog W .any base t v)
    (hW : DataW.Whole enc Tryd.prog Tryd.f11.params.toList Rows.sensorParsesSpec.vars false W args.toList ds gs before) (hL : laidMetH Tryd.prog Rows.sensorParsesRow.laid W) (hsh : W.ShapedOpen Tryd.prog) :
    Calls Tryd.prog 11 args W fun e W' => ∃ v, e = .returned v ∧ Rows.sensorParsesSpec.post enc Tryd.prog Tryd.f11 false true false false W args v W' := by
  have hW' := hW
  obtain ⟨p, q, hA0, hV, rfl, hfz, hnd⟩ := hW
  have hA : DataW.TrodAll enc Tryd.prog W 0 (fun _ => true) true Tryd.f11.params.toList args.toList ds p := hA0
  rw [Tryd.params11] at hA hval
  obtain ⟨v0, vs0, d0, ds0, p0, q0, hargs, rfl, rfl, h0, r0⟩ := trodAll_cons hA
  obtain ⟨rfl, rfl, rfl⟩ := trodAll_nil r0
  obtain rfl : args = #[v0] := by cases args; simp_all
  obtain ⟨rfl, rfl⟩ := trodVars_none hV
  obtain ⟨s0, rfl, rfl, rfl, w0⟩ := Go.ChangeMaps.open_string Tryd.underlying9 (hval 0 9 v0 rfl rfl) h0
  clear hA0
  simp only [List.append_nil] at hW'
  refine (walk s0  W (env_of5 hL hsh)).mono fun e W' ⟨he, hb⟩ => ?_
  subst he
  exact ⟨_, rfl, post_of_below (pa := []) (pv := []) hW' (fun _ _ _ => trodAll_cons_mk (shut_bool Tryd.underlying4 _) trodAll_mk0) (fun sp _ => (trodAll_cons_mk (Go.ChangeMaps.shut_string Tryd.underlying9 w0) trodAll_mk0)) (fun _ _ => rfl) rfl
    hb (ok_one (by kernel_rfl) rfl (okWide_bool_mk Tryd.underlying4 _))⟩

theorem reads (os : Os) {H : Type} (enc : TypeId × Value → H) : ∃ places, DataW.whole enc Tryd.prog ((laidWorld5 os).forCall (fun _ _ => 0) ⟨#[], #[.string ByteArray.empty], []⟩).memory Tryd.f11.params.toList Rows.sensorParsesSpec.vars false (#[.string ByteArray.empty] : Array Value).toList 8 = some ([.lit (.string [])], [], places) :=
  ⟨[], by kernel_rfl⟩

set_option maxRecDepth 100000 in
theorem lifted (os : Os) (started : os.Started) (H : Type) (enc : TypeId × Value → H) (F : Stop.Interp) :
    ReturnsInHanded {} Tryd.checked os 11 .any ((OpenSpec.ofChange Rows.sensorParsesSpec).preRow enc Tryd.prog Tryd.f11 Rows.sensorParsesRow.domain false Rows.sensorParsesRow.laid) (((OpenSpec.ofChange Rows.sensorParsesSpec).at F).post enc Tryd.prog Tryd.f11 false true false false) := by
  obtain ⟨places, hx⟩ := reads os enc
  refine returnsInHanded_of_row (C := Tryd.checked) (s := OpenSpec.ofChange Rows.sensorParsesSpec) own started (by kernel_rfl) Tryd.func11
    (witness_row_at (enc := enc) (C := Tryd.checked) false (laidWorld5 os) #[.string ByteArray.empty] rfl (by kernel_rfl) (by kernel_rfl) (by kernel_rfl)
      (OpenSpec.preRow_of_cond 8 hx (by kernel_rfl) (fun k hk => by cases hk) (by kernel_rfl) (laid_met_any5 os _))) ?_
  intro W base args ds gs before hval hW _ _ _ hL hsh _
  exact contract H enc W base args ds gs before hval hW hL hsh

theorem said : Rows.SensorParsesSaid :=
  OpenClaim.holds_of_cond 11 Tryd.f11 rfl rfl rfl rfl rfl rfl rfl ⟨rfl, rfl, rfl, rfl, rfl⟩ rfl rfl rfl rfl rfl (by kernel_rfl) Tryd.func11 (by kernel_rfl)
    (of_decide_eq_true (by kernel_rfl)) (by unfold Func.isWrapper; first | (rw [if_pos (by decide +kernel)]; kernel_rfl) | (rw [if_neg (by decide +kernel)]; exact ⟨rfl, rfl⟩))
    (fun os started H enc _ F => by rw [OpenClaim.pre_eq_preRow]; exact lifted os started H enc F)

theorem plain (f : FuncId) (fn : Func) (hf : Tryd.pinned.checked.prog.funcNamed "flightdeck/flightdecklaw41.SensorParses" = some f) (hfn : Tryd.pinned.checked.prog.funcs[f]? = some fn) :
    false = Tryd.pinned.checked.prog.looks [] ∧ ∀ (j : Nat) t, fn.params[j]? = some t → Tryd.pinned.checked.prog.wantsStandIn t = false := by
  obtain rfl : f = 11 := Option.some.inj ((show Tryd.prog.funcNamed "flightdeck/flightdecklaw41.SensorParses" = some 11 by kernel_rfl).symm.trans hf) |>.symm
  obtain rfl : fn = Tryd.f11 := (Option.some.inj (Tryd.func11.symm.trans hfn)).symm
  refine ⟨by kernel_rfl, fun j t ht => ?_⟩
  rw [Tryd.params11] at ht
  have hm := Array.mem_of_getElem? ht
  simp only [List.mem_toArray, List.mem_cons, List.not_mem_nil, or_false] at hm
  rcases hm with rfl
  · exact (show Tryd.prog.wantsStandIn 9 = false by kernel_rfl)
/-- the law -/
theorem card : Rows.SensorParsesCardSaid :=
  Claim7.holds_tied_plain_at .later [] _ _ _ _ said (fun _ h => by cases h) (by kernel_rfl) (fun _ h => by cases h) sensorParses_row_tie rfl ⟨rfl, rfl⟩ (by kernel_rfl) rfl plain (by kernel_rfl)
end Go.Proofs.YtnnafjmfbnnnjaaDoor.sensorParses
