/-
  The law WindTexts holds for every input: a wind's text and the reading of a text are the specified ones, and each undoes the other.
-/
import Derived.Test.YtdfpbojlimeccaaDoorFrame
import Derived.Test.YtdfpbojlimeccaaDoorAwake
import Derived.Test.YtdfpbojlimeccaaDoorTextsRef
import Derived.ChangeMaps5
namespace Go.Proofs.YtdfpbojlimeccaaDoor.windTexts
set_option linter.unusedVariables false
open Go.ChangeShapes Go.WideShapes Go.ChangeAt Go.RowKit Tr Sq

theorem bytes_of {l : List UInt8} {s : ByteArray} (h : l = s.data.toList) : (⟨l.toArray⟩ : ByteArray) = s := by
  subst h
  rfl
theorem ta {x n : Int} {tb : ByteArray} {k : Int} (h1 : (⟨(textF x n).1.toArray⟩ : ByteArray) = tb) (h2 : (textF x n).2 = k) (w : World) (hE : Env w) :
    Calls Tryd.prog 23 #[.agg #[.int .i64 x, .int .i64 n]] w fun e w' => e = .returned (.tuple #[.string tb, .int .i64 k]) ∧ Below w.heap.size w w' :=
  (text_any x n w hE).mono (by rintro e w' ⟨rfl, hb⟩; rw [h1, h2]; exact ⟨rfl, hb⟩)
theorem tr {x n : Int} {tb : ByteArray} {k : Int} (h1 : (⟨(textF x n).1.toArray⟩ : ByteArray) = tb) (h2 : (textF x n).2 = k) (w : World) :
    Calls Tryd.prog 24 #[.agg #[.int .i64 x, .int .i64 n]] w fun e w' => e = .returned (.tuple #[.string tb, .int .i64 k]) ∧ Below w.heap.size w w' :=
  (text_ref x n w).mono (by rintro e w' ⟨rfl, hb⟩; rw [h1, h2]; exact ⟨rfl, hb⟩)
theorem pa {s : ByteArray} {a b c : Int} (h : parseF s.data.toList = (a, b, c)) (hs : s.size < 9223372036854775808) (w : World) (hE : Env w) :
    Calls Tryd.prog 25 #[.string s] w fun e w' => e = .returned (.tuple #[.agg #[.int .i64 a, .int .i64 b], .int .i64 c]) ∧ Below w.heap.size w w' :=
  (parse_any s w hE hs).mono (by rintro e w' ⟨rfl, hb⟩; rw [h]; exact ⟨rfl, hb⟩)
theorem pr {s : ByteArray} {a b c : Int} (h : parseF s.data.toList = (a, b, c)) (hs : s.size < 9223372036854775808) (w : World) :
    Calls Tryd.prog 26 #[.string s] w fun e w' => e = .returned (.tuple #[.agg #[.int .i64 a, .int .i64 b], .int .i64 c]) ∧ Below w.heap.size w w' :=
  (parse_ref s w hs).mono (by rintro e w' ⟨rfl, hb⟩; rw [parse_same, h]; exact ⟨rfl, hb⟩)
theorem parse_cases (l : List UInt8) : (∃ a b : Int, parseF l = (a, b, 0)) ∨ parseF l = (0, 0, 2) ∨ parseF l = (0, 0, 4) := by
  unfold parseF
  split
  · split
    · exact .inl ⟨_, _, rfl⟩
    · exact .inr (.inl rfl)
  · exact .inr (.inr rfl)
set_option maxHeartbeats 8000000 in
set_option maxRecDepth 100000 in
theorem walk (x n : Int) (s : ByteArray) (xa : -9223372036854775808 ≤ x) (xb : x ≤ 9223372036854775807) (na : -9223372036854775808 ≤ n) (nb : n ≤ 9223372036854775807) (w : World) (hE : Env w) (hs : s.size < 9223372036854775808) :
    Calls Tryd.prog 7 #[.agg #[.int .i64 x, .int .i64 n], .string s] w fun e w' => e = .returned (.bool true) ∧ Below w.heap.size w w' := by
  have HE := Lib.hid hE
  clear hE
  obtain ⟨tb, htb⟩ : ∃ tb : ByteArray, (⟨(textF x n).1.toArray⟩ : ByteArray) = tb := ⟨_, rfl⟩
  cases hv : vldW x n with
  | false =>
    have T1 := Lib.hid (ta (k := 1) htb (by unfold textF; rw [if_neg (by rw [hv]; simp)]))
    have T2 := Lib.hid (tr (k := 1) htb (by unfold textF; rw [if_neg (by rw [hv]; simp)]))
    clear hv htb
    rcases parse_cases s.data.toList with ⟨a, b, h⟩ | h | h
    · obtain ⟨hv2, ht⟩ := text_parse h
      have P1 := Lib.hid (pa h hs)
      have P2 := Lib.hid (pr h hs)
      have T3 := Lib.hid (ta (x := a) (n := b) (tb := s) (k := 0) (by unfold textF; rw [if_pos hv2]; exact bytes_of ht) (by unfold textF; rw [if_pos hv2]))
      clear h hv2 ht hs
      go_enter Tryd.func7, Tryd.ntmps7
      go_wp2_with fail
      have c0_0_0 : (w.alloc (.cells #[.int .i64 x, .int .i64 n] 23)).cell? ⟨w.heap.size, 0, none⟩ = some (.int .i64 x) := by rw [World.cell?_alloc_at _ _ _ _ (by simp)]; rfl
      have c0_0_1 : (w.alloc (.cells #[.int .i64 x, .int .i64 n] 23)).cell? ⟨w.heap.size, 1, none⟩ = some (.int .i64 n) := by rw [World.cell?_alloc_at _ _ _ _ (by simp)]; rfl
      have z0_0 : w.heap.size < (w.alloc (.cells #[.int .i64 x, .int .i64 n] 23)).heap.size := by simp; try omega
      have hw0 := Lib.hid ((Below.refl w.heap.size w).alloc (by simp; try omega) (.cells #[.int .i64 x, .int .i64 n] 23))
      generalize hW0 : (w.alloc (.cells #[.int .i64 x, .int .i64 n] 23)) = w0 at *
      clear hW0
      refine (awake_any _ (HE.out.below hw0.out)).mono ?_
      rintro e w1 ⟨rfl, hb1⟩
      have c1_0_0 := (hb1.cell (p := ⟨w.heap.size, 0, none⟩) z0_0).trans c0_0_0
      have c1_0_1 := (hb1.cell (p := ⟨w.heap.size, 1, none⟩) z0_0).trans c0_0_1
      have z1_0 : w.heap.size < w1.heap.size := Nat.lt_of_lt_of_le z0_0 hb1.size
      have hw1 := Lib.hid (hw0.out.trans (hb1.mono hw0.out.size))
      clear hb1 hw0 c0_0_0 c0_0_1 z0_0
      go_wp2_with fail
      refine (T1.out _ (HE.out.below hw1.out)).mono ?_
      rintro e w2 ⟨rfl, hb2⟩
      have c2_0_0 := (hb2.cell (p := ⟨w.heap.size, 0, none⟩) z1_0).trans c1_0_0
      have c2_0_1 := (hb2.cell (p := ⟨w.heap.size, 1, none⟩) z1_0).trans c1_0_1
      have z2_0 : w.heap.size < w2.heap.size := Nat.lt_of_lt_of_le z1_0 hb2.size
      have hw2 := Lib.hid (hw1.out.trans (hb2.mono hw1.out.size))
      clear hb2 hw1 c1_0_0 c1_0_1 z1_0
      go_wp2_with fail
      refine (T2.out _).mono ?_
      rintro e w3 ⟨rfl, hb3⟩
      have c3_0_0 := (hb3.cell (p := ⟨w.heap.size, 0, none⟩) z2_0).trans c2_0_0
      have c3_0_1 := (hb3.cell (p := ⟨w.heap.size, 1, none⟩) z2_0).trans c2_0_1
      have z3_0 : w.heap.size < w3.heap.size := Nat.lt_of_lt_of_le z2_0 hb3.size
      have hw3 := Lib.hid (hw2.out.trans (hb3.mono hw2.out.size))
      clear hb3 hw2 c2_0_0 c2_0_1 z2_0
      go_wp2_with fail
      refine (P1.out _ (HE.out.below hw3.out)).mono ?_
      rintro e w4 ⟨rfl, hb4⟩
      have c4_0_0 := (hb4.cell (p := ⟨w.heap.size, 0, none⟩) z3_0).trans c3_0_0
      have c4_0_1 := (hb4.cell (p := ⟨w.heap.size, 1, none⟩) z3_0).trans c3_0_1
      have z4_0 : w.heap.size < w4.heap.size := Nat.lt_of_lt_of_le z3_0 hb4.size
      have hw4 := Lib.hid (hw3.out.trans (hb4.mono hw3.out.size))
      clear hb4 hw3 c3_0_0 c3_0_1 z3_0
      go_wp2_with fail
      have hb5 : Below w4.heap.size w4 (w4.alloc (.cells #[.int .i64 a, .int .i64 b] 23)) := (Below.refl w4.heap.size w4).alloc (Nat.le_refl _) _
      have c5_0_0 := (hb5.cell (p := ⟨w.heap.size, 0, none⟩) z4_0).trans c4_0_0
      have c5_0_1 := (hb5.cell (p := ⟨w.heap.size, 1, none⟩) z4_0).trans c4_0_1
      have z5_0 : w.heap.size < (w4.alloc (.cells #[.int .i64 a, .int .i64 b] 23)).heap.size := Nat.lt_of_lt_of_le z4_0 hb5.size
      have c5_1_0 : (w4.alloc (.cells #[.int .i64 a, .int .i64 b] 23)).cell? ⟨w4.heap.size, 0, none⟩ = some (.int .i64 a) := by rw [World.cell?_alloc_at _ _ _ _ (by simp)]; rfl
      have c5_1_1 : (w4.alloc (.cells #[.int .i64 a, .int .i64 b] 23)).cell? ⟨w4.heap.size, 1, none⟩ = some (.int .i64 b) := by rw [World.cell?_alloc_at _ _ _ _ (by simp)]; rfl
      have z5_1 : w4.heap.size < (w4.alloc (.cells #[.int .i64 a, .int .i64 b] 23)).heap.size := by simp
      have hw5 := Lib.hid (hw4.out.trans (hb5.mono hw4.out.size))
      generalize hW5 : (w4.alloc (.cells #[.int .i64 a, .int .i64 b] 23)) = w5 at *
      clear hW5 hb5 hw4 c4_0_0 c4_0_1 z4_0
      refine (P2.out _).mono ?_
      rintro e w6 ⟨rfl, hb6⟩
      have c6_0_0 := (hb6.cell (p := ⟨w.heap.size, 0, none⟩) z5_0).trans c5_0_0
      have c6_0_1 := (hb6.cell (p := ⟨w.heap.size, 1, none⟩) z5_0).trans c5_0_1
      have c6_1_0 := (hb6.cell (p := ⟨w4.heap.size, 0, none⟩) z5_1).trans c5_1_0
      have c6_1_1 := (hb6.cell (p := ⟨w4.heap.size, 1, none⟩) z5_1).trans c5_1_1
      have z6_0 : w.heap.size < w6.heap.size := Nat.lt_of_lt_of_le z5_0 hb6.size
      have z6_1 : w4.heap.size < w6.heap.size := Nat.lt_of_lt_of_le z5_1 hb6.size
      have hw6 := Lib.hid (hw5.out.trans (hb6.mono hw5.out.size))
      clear hb6 hw5 c5_0_0 c5_0_1 c5_1_0 c5_1_1 z5_0 z5_1
      go_wp2_with fail
      have hb7 : Below w6.heap.size w6 (w6.alloc (.cells #[.int .i64 a, .int .i64 b] 23)) := (Below.refl w6.heap.size w6).alloc (Nat.le_refl _) _
      have c7_0_0 := (hb7.cell (p := ⟨w.heap.size, 0, none⟩) z6_0).trans c6_0_0
      have c7_0_1 := (hb7.cell (p := ⟨w.heap.size, 1, none⟩) z6_0).trans c6_0_1
      have c7_1_0 := (hb7.cell (p := ⟨w4.heap.size, 0, none⟩) z6_1).trans c6_1_0
      have c7_1_1 := (hb7.cell (p := ⟨w4.heap.size, 1, none⟩) z6_1).trans c6_1_1
      have z7_0 : w.heap.size < (w6.alloc (.cells #[.int .i64 a, .int .i64 b] 23)).heap.size := Nat.lt_of_lt_of_le z6_0 hb7.size
      have z7_1 : w4.heap.size < (w6.alloc (.cells #[.int .i64 a, .int .i64 b] 23)).heap.size := Nat.lt_of_lt_of_le z6_1 hb7.size
      have c7_2_0 : (w6.alloc (.cells #[.int .i64 a, .int .i64 b] 23)).cell? ⟨w6.heap.size, 0, none⟩ = some (.int .i64 a) := by rw [World.cell?_alloc_at _ _ _ _ (by simp)]; rfl
      have c7_2_1 : (w6.alloc (.cells #[.int .i64 a, .int .i64 b] 23)).cell? ⟨w6.heap.size, 1, none⟩ = some (.int .i64 b) := by rw [World.cell?_alloc_at _ _ _ _ (by simp)]; rfl
      have z7_2 : w6.heap.size < (w6.alloc (.cells #[.int .i64 a, .int .i64 b] 23)).heap.size := by simp
      have hw7 := Lib.hid (hw6.out.trans (hb7.mono hw6.out.size))
      generalize hW7 : (w6.alloc (.cells #[.int .i64 a, .int .i64 b] 23)) = w7 at *
      clear hW7 hb7 hw6 c6_0_0 c6_0_1 c6_1_0 c6_1_1 z6_0 z6_1
      refine (T3.out _ (HE.out.below hw7.out)).mono ?_
      rintro e w8 ⟨rfl, hb8⟩
      have c8_0_0 := (hb8.cell (p := ⟨w.heap.size, 0, none⟩) z7_0).trans c7_0_0
      have c8_0_1 := (hb8.cell (p := ⟨w.heap.size, 1, none⟩) z7_0).trans c7_0_1
      have c8_1_0 := (hb8.cell (p := ⟨w4.heap.size, 0, none⟩) z7_1).trans c7_1_0
      have c8_1_1 := (hb8.cell (p := ⟨w4.heap.size, 1, none⟩) z7_1).trans c7_1_1
      have c8_2_0 := (hb8.cell (p := ⟨w6.heap.size, 0, none⟩) z7_2).trans c7_2_0
      have c8_2_1 := (hb8.cell (p := ⟨w6.heap.size, 1, none⟩) z7_2).trans c7_2_1
      have z8_0 : w.heap.size < w8.heap.size := Nat.lt_of_lt_of_le z7_0 hb8.size
      have z8_1 : w4.heap.size < w8.heap.size := Nat.lt_of_lt_of_le z7_1 hb8.size
      have z8_2 : w6.heap.size < w8.heap.size := Nat.lt_of_lt_of_le z7_2 hb8.size
      have hw8 := Lib.hid (hw7.out.trans (hb8.mono hw7.out.size))
      clear hb8 hw7 c7_0_0 c7_0_1 c7_1_0 c7_1_1 c7_2_0 c7_2_1 z7_0 z7_1 z7_2
      go_wp2
      go_ret
      exact ⟨rfl, hw8.out⟩
    · have P1 := Lib.hid (pa h hs)
      have P2 := Lib.hid (pr h hs)
      obtain ⟨tc, htc⟩ : ∃ tc : ByteArray, (⟨(textF 0 0).1.toArray⟩ : ByteArray) = tc := ⟨_, rfl⟩
      have T3 := Lib.hid (ta (x := 0) (n := 0) (tb := tc) (k := 0) htc (by decide +kernel))
      clear h htc hs
      go_enter Tryd.func7, Tryd.ntmps7
      go_wp2_with fail
      have c0_0_0 : (w.alloc (.cells #[.int .i64 x, .int .i64 n] 23)).cell? ⟨w.heap.size, 0, none⟩ = some (.int .i64 x) := by rw [World.cell?_alloc_at _ _ _ _ (by simp)]; rfl
      have c0_0_1 : (w.alloc (.cells #[.int .i64 x, .int .i64 n] 23)).cell? ⟨w.heap.size, 1, none⟩ = some (.int .i64 n) := by rw [World.cell?_alloc_at _ _ _ _ (by simp)]; rfl
      have z0_0 : w.heap.size < (w.alloc (.cells #[.int .i64 x, .int .i64 n] 23)).heap.size := by simp; try omega
      have hw0 := Lib.hid ((Below.refl w.heap.size w).alloc (by simp; try omega) (.cells #[.int .i64 x, .int .i64 n] 23))
      generalize hW0 : (w.alloc (.cells #[.int .i64 x, .int .i64 n] 23)) = w0 at *
      clear hW0
      refine (awake_any _ (HE.out.below hw0.out)).mono ?_
      rintro e w1 ⟨rfl, hb1⟩
      have c1_0_0 := (hb1.cell (p := ⟨w.heap.size, 0, none⟩) z0_0).trans c0_0_0
      have c1_0_1 := (hb1.cell (p := ⟨w.heap.size, 1, none⟩) z0_0).trans c0_0_1
      have z1_0 : w.heap.size < w1.heap.size := Nat.lt_of_lt_of_le z0_0 hb1.size
      have hw1 := Lib.hid (hw0.out.trans (hb1.mono hw0.out.size))
      clear hb1 hw0 c0_0_0 c0_0_1 z0_0
      go_wp2_with fail
      refine (T1.out _ (HE.out.below hw1.out)).mono ?_
      rintro e w2 ⟨rfl, hb2⟩
      have c2_0_0 := (hb2.cell (p := ⟨w.heap.size, 0, none⟩) z1_0).trans c1_0_0
      have c2_0_1 := (hb2.cell (p := ⟨w.heap.size, 1, none⟩) z1_0).trans c1_0_1
      have z2_0 : w.heap.size < w2.heap.size := Nat.lt_of_lt_of_le z1_0 hb2.size
      have hw2 := Lib.hid (hw1.out.trans (hb2.mono hw1.out.size))
      clear hb2 hw1 c1_0_0 c1_0_1 z1_0
      go_wp2_with fail
      refine (T2.out _).mono ?_
      rintro e w3 ⟨rfl, hb3⟩
      have c3_0_0 := (hb3.cell (p := ⟨w.heap.size, 0, none⟩) z2_0).trans c2_0_0
      have c3_0_1 := (hb3.cell (p := ⟨w.heap.size, 1, none⟩) z2_0).trans c2_0_1
      have z3_0 : w.heap.size < w3.heap.size := Nat.lt_of_lt_of_le z2_0 hb3.size
      have hw3 := Lib.hid (hw2.out.trans (hb3.mono hw2.out.size))
      clear hb3 hw2 c2_0_0 c2_0_1 z2_0
      go_wp2_with fail
      refine (P1.out _ (HE.out.below hw3.out)).mono ?_
      rintro e w4 ⟨rfl, hb4⟩
      have c4_0_0 := (hb4.cell (p := ⟨w.heap.size, 0, none⟩) z3_0).trans c3_0_0
      have c4_0_1 := (hb4.cell (p := ⟨w.heap.size, 1, none⟩) z3_0).trans c3_0_1
      have z4_0 : w.heap.size < w4.heap.size := Nat.lt_of_lt_of_le z3_0 hb4.size
      have hw4 := Lib.hid (hw3.out.trans (hb4.mono hw3.out.size))
      clear hb4 hw3 c3_0_0 c3_0_1 z3_0
      go_wp2_with fail
      have hb5 : Below w4.heap.size w4 (w4.alloc (.cells #[.int .i64 0, .int .i64 0] 23)) := (Below.refl w4.heap.size w4).alloc (Nat.le_refl _) _
      have c5_0_0 := (hb5.cell (p := ⟨w.heap.size, 0, none⟩) z4_0).trans c4_0_0
      have c5_0_1 := (hb5.cell (p := ⟨w.heap.size, 1, none⟩) z4_0).trans c4_0_1
      have z5_0 : w.heap.size < (w4.alloc (.cells #[.int .i64 0, .int .i64 0] 23)).heap.size := Nat.lt_of_lt_of_le z4_0 hb5.size
      have c5_1_0 : (w4.alloc (.cells #[.int .i64 0, .int .i64 0] 23)).cell? ⟨w4.heap.size, 0, none⟩ = some (.int .i64 0) := by rw [World.cell?_alloc_at _ _ _ _ (by simp)]; rfl
      have c5_1_1 : (w4.alloc (.cells #[.int .i64 0, .int .i64 0] 23)).cell? ⟨w4.heap.size, 1, none⟩ = some (.int .i64 0) := by rw [World.cell?_alloc_at _ _ _ _ (by simp)]; rfl
      have z5_1 : w4.heap.size < (w4.alloc (.cells #[.int .i64 0, .int .i64 0] 23)).heap.size := by simp
      have hw5 := Lib.hid (hw4.out.trans (hb5.mono hw4.out.size))
      generalize hW5 : (w4.alloc (.cells #[.int .i64 0, .int .i64 0] 23)) = w5 at *
      clear hW5 hb5 hw4 c4_0_0 c4_0_1 z4_0
      refine (P2.out _).mono ?_
      rintro e w6 ⟨rfl, hb6⟩
      have c6_0_0 := (hb6.cell (p := ⟨w.heap.size, 0, none⟩) z5_0).trans c5_0_0
      have c6_0_1 := (hb6.cell (p := ⟨w.heap.size, 1, none⟩) z5_0).trans c5_0_1
      have c6_1_0 := (hb6.cell (p := ⟨w4.heap.size, 0, none⟩) z5_1).trans c5_1_0
      have c6_1_1 := (hb6.cell (p := ⟨w4.heap.size, 1, none⟩) z5_1).trans c5_1_1
      have z6_0 : w.heap.size < w6.heap.size := Nat.lt_of_lt_of_le z5_0 hb6.size
      have z6_1 : w4.heap.size < w6.heap.size := Nat.lt_of_lt_of_le z5_1 hb6.size
      have hw6 := Lib.hid (hw5.out.trans (hb6.mono hw5.out.size))
      clear hb6 hw5 c5_0_0 c5_0_1 c5_1_0 c5_1_1 z5_0 z5_1
      go_wp2_with fail
      have hb7 : Below w6.heap.size w6 (w6.alloc (.cells #[.int .i64 0, .int .i64 0] 23)) := (Below.refl w6.heap.size w6).alloc (Nat.le_refl _) _
      have c7_0_0 := (hb7.cell (p := ⟨w.heap.size, 0, none⟩) z6_0).trans c6_0_0
      have c7_0_1 := (hb7.cell (p := ⟨w.heap.size, 1, none⟩) z6_0).trans c6_0_1
      have c7_1_0 := (hb7.cell (p := ⟨w4.heap.size, 0, none⟩) z6_1).trans c6_1_0
      have c7_1_1 := (hb7.cell (p := ⟨w4.heap.size, 1, none⟩) z6_1).trans c6_1_1
      have z7_0 : w.heap.size < (w6.alloc (.cells #[.int .i64 0, .int .i64 0] 23)).heap.size := Nat.lt_of_lt_of_le z6_0 hb7.size
      have z7_1 : w4.heap.size < (w6.alloc (.cells #[.int .i64 0, .int .i64 0] 23)).heap.size := Nat.lt_of_lt_of_le z6_1 hb7.size
      have c7_2_0 : (w6.alloc (.cells #[.int .i64 0, .int .i64 0] 23)).cell? ⟨w6.heap.size, 0, none⟩ = some (.int .i64 0) := by rw [World.cell?_alloc_at _ _ _ _ (by simp)]; rfl
      have c7_2_1 : (w6.alloc (.cells #[.int .i64 0, .int .i64 0] 23)).cell? ⟨w6.heap.size, 1, none⟩ = some (.int .i64 0) := by rw [World.cell?_alloc_at _ _ _ _ (by simp)]; rfl
      have z7_2 : w6.heap.size < (w6.alloc (.cells #[.int .i64 0, .int .i64 0] 23)).heap.size := by simp
      have hw7 := Lib.hid (hw6.out.trans (hb7.mono hw6.out.size))
      generalize hW7 : (w6.alloc (.cells #[.int .i64 0, .int .i64 0] 23)) = w7 at *
      clear hW7 hb7 hw6 c6_0_0 c6_0_1 c6_1_0 c6_1_1 z6_0 z6_1
      refine (T3.out _ (HE.out.below hw7.out)).mono ?_
      rintro e w8 ⟨rfl, hb8⟩
      have c8_0_0 := (hb8.cell (p := ⟨w.heap.size, 0, none⟩) z7_0).trans c7_0_0
      have c8_0_1 := (hb8.cell (p := ⟨w.heap.size, 1, none⟩) z7_0).trans c7_0_1
      have c8_1_0 := (hb8.cell (p := ⟨w4.heap.size, 0, none⟩) z7_1).trans c7_1_0
      have c8_1_1 := (hb8.cell (p := ⟨w4.heap.size, 1, none⟩) z7_1).trans c7_1_1
      have c8_2_0 := (hb8.cell (p := ⟨w6.heap.size, 0, none⟩) z7_2).trans c7_2_0
      have c8_2_1 := (hb8.cell (p := ⟨w6.heap.size, 1, none⟩) z7_2).trans c7_2_1
      have z8_0 : w.heap.size < w8.heap.size := Nat.lt_of_lt_of_le z7_0 hb8.size
      have z8_1 : w4.heap.size < w8.heap.size := Nat.lt_of_lt_of_le z7_1 hb8.size
      have z8_2 : w6.heap.size < w8.heap.size := Nat.lt_of_lt_of_le z7_2 hb8.size
      have hw8 := Lib.hid (hw7.out.trans (hb8.mono hw7.out.size))
      clear hb8 hw7 c7_0_0 c7_0_1 c7_1_0 c7_1_1 c7_2_0 c7_2_1 z7_0 z7_1 z7_2
      go_wp2
      go_ret
      exact ⟨rfl, hw8.out⟩
    · have P1 := Lib.hid (pa h hs)
      have P2 := Lib.hid (pr h hs)
      obtain ⟨tc, htc⟩ : ∃ tc : ByteArray, (⟨(textF 0 0).1.toArray⟩ : ByteArray) = tc := ⟨_, rfl⟩
      have T3 := Lib.hid (ta (x := 0) (n := 0) (tb := tc) (k := 0) htc (by decide +kernel))
      clear h htc hs
      go_enter Tryd.func7, Tryd.ntmps7
      go_wp2_with fail
      have c0_0_0 : (w.alloc (.cells #[.int .i64 x, .int .i64 n] 23)).cell? ⟨w.heap.size, 0, none⟩ = some (.int .i64 x) := by rw [World.cell?_alloc_at _ _ _ _ (by simp)]; rfl
      have c0_0_1 : (w.alloc (.cells #[.int .i64 x, .int .i64 n] 23)).cell? ⟨w.heap.size, 1, none⟩ = some (.int .i64 n) := by rw [World.cell?_alloc_at _ _ _ _ (by simp)]; rfl
      have z0_0 : w.heap.size < (w.alloc (.cells #[.int .i64 x, .int .i64 n] 23)).heap.size := by simp; try omega
      have hw0 := Lib.hid ((Below.refl w.heap.size w).alloc (by simp; try omega) (.cells #[.int .i64 x, .int .i64 n] 23))
      generalize hW0 : (w.alloc (.cells #[.int .i64 x, .int .i64 n] 23)) = w0 at *
      clear hW0
      refine (awake_any _ (HE.out.below hw0.out)).mono ?_
      rintro e w1 ⟨rfl, hb1⟩
      have c1_0_0 := (hb1.cell (p := ⟨w.heap.size, 0, none⟩) z0_0).trans c0_0_0
      have c1_0_1 := (hb1.cell (p := ⟨w.heap.size, 1, none⟩) z0_0).trans c0_0_1
      have z1_0 : w.heap.size < w1.heap.size := Nat.lt_of_lt_of_le z0_0 hb1.size
      have hw1 := Lib.hid (hw0.out.trans (hb1.mono hw0.out.size))
      clear hb1 hw0 c0_0_0 c0_0_1 z0_0
      go_wp2_with fail
      refine (T1.out _ (HE.out.below hw1.out)).mono ?_
      rintro e w2 ⟨rfl, hb2⟩
      have c2_0_0 := (hb2.cell (p := ⟨w.heap.size, 0, none⟩) z1_0).trans c1_0_0
      have c2_0_1 := (hb2.cell (p := ⟨w.heap.size, 1, none⟩) z1_0).trans c1_0_1
      have z2_0 : w.heap.size < w2.heap.size := Nat.lt_of_lt_of_le z1_0 hb2.size
      have hw2 := Lib.hid (hw1.out.trans (hb2.mono hw1.out.size))
      clear hb2 hw1 c1_0_0 c1_0_1 z1_0
      go_wp2_with fail
      refine (T2.out _).mono ?_
      rintro e w3 ⟨rfl, hb3⟩
      have c3_0_0 := (hb3.cell (p := ⟨w.heap.size, 0, none⟩) z2_0).trans c2_0_0
      have c3_0_1 := (hb3.cell (p := ⟨w.heap.size, 1, none⟩) z2_0).trans c2_0_1
      have z3_0 : w.heap.size < w3.heap.size := Nat.lt_of_lt_of_le z2_0 hb3.size
      have hw3 := Lib.hid (hw2.out.trans (hb3.mono hw2.out.size))
      clear hb3 hw2 c2_0_0 c2_0_1 z2_0
      go_wp2_with fail
      refine (P1.out _ (HE.out.below hw3.out)).mono ?_
      rintro e w4 ⟨rfl, hb4⟩
      have c4_0_0 := (hb4.cell (p := ⟨w.heap.size, 0, none⟩) z3_0).trans c3_0_0
      have c4_0_1 := (hb4.cell (p := ⟨w.heap.size, 1, none⟩) z3_0).trans c3_0_1
      have z4_0 : w.heap.size < w4.heap.size := Nat.lt_of_lt_of_le z3_0 hb4.size
      have hw4 := Lib.hid (hw3.out.trans (hb4.mono hw3.out.size))
      clear hb4 hw3 c3_0_0 c3_0_1 z3_0
      go_wp2_with fail
      have hb5 : Below w4.heap.size w4 (w4.alloc (.cells #[.int .i64 0, .int .i64 0] 23)) := (Below.refl w4.heap.size w4).alloc (Nat.le_refl _) _
      have c5_0_0 := (hb5.cell (p := ⟨w.heap.size, 0, none⟩) z4_0).trans c4_0_0
      have c5_0_1 := (hb5.cell (p := ⟨w.heap.size, 1, none⟩) z4_0).trans c4_0_1
      have z5_0 : w.heap.size < (w4.alloc (.cells #[.int .i64 0, .int .i64 0] 23)).heap.size := Nat.lt_of_lt_of_le z4_0 hb5.size
      have c5_1_0 : (w4.alloc (.cells #[.int .i64 0, .int .i64 0] 23)).cell? ⟨w4.heap.size, 0, none⟩ = some (.int .i64 0) := by rw [World.cell?_alloc_at _ _ _ _ (by simp)]; rfl
      have c5_1_1 : (w4.alloc (.cells #[.int .i64 0, .int .i64 0] 23)).cell? ⟨w4.heap.size, 1, none⟩ = some (.int .i64 0) := by rw [World.cell?_alloc_at _ _ _ _ (by simp)]; rfl
      have z5_1 : w4.heap.size < (w4.alloc (.cells #[.int .i64 0, .int .i64 0] 23)).heap.size := by simp
      have hw5 := Lib.hid (hw4.out.trans (hb5.mono hw4.out.size))
      generalize hW5 : (w4.alloc (.cells #[.int .i64 0, .int .i64 0] 23)) = w5 at *
      clear hW5 hb5 hw4 c4_0_0 c4_0_1 z4_0
      refine (P2.out _).mono ?_
      rintro e w6 ⟨rfl, hb6⟩
      have c6_0_0 := (hb6.cell (p := ⟨w.heap.size, 0, none⟩) z5_0).trans c5_0_0
      have c6_0_1 := (hb6.cell (p := ⟨w.heap.size, 1, none⟩) z5_0).trans c5_0_1
      have c6_1_0 := (hb6.cell (p := ⟨w4.heap.size, 0, none⟩) z5_1).trans c5_1_0
      have c6_1_1 := (hb6.cell (p := ⟨w4.heap.size, 1, none⟩) z5_1).trans c5_1_1
      have z6_0 : w.heap.size < w6.heap.size := Nat.lt_of_lt_of_le z5_0 hb6.size
      have z6_1 : w4.heap.size < w6.heap.size := Nat.lt_of_lt_of_le z5_1 hb6.size
      have hw6 := Lib.hid (hw5.out.trans (hb6.mono hw5.out.size))
      clear hb6 hw5 c5_0_0 c5_0_1 c5_1_0 c5_1_1 z5_0 z5_1
      go_wp2_with fail
      have hb7 : Below w6.heap.size w6 (w6.alloc (.cells #[.int .i64 0, .int .i64 0] 23)) := (Below.refl w6.heap.size w6).alloc (Nat.le_refl _) _
      have c7_0_0 := (hb7.cell (p := ⟨w.heap.size, 0, none⟩) z6_0).trans c6_0_0
      have c7_0_1 := (hb7.cell (p := ⟨w.heap.size, 1, none⟩) z6_0).trans c6_0_1
      have c7_1_0 := (hb7.cell (p := ⟨w4.heap.size, 0, none⟩) z6_1).trans c6_1_0
      have c7_1_1 := (hb7.cell (p := ⟨w4.heap.size, 1, none⟩) z6_1).trans c6_1_1
      have z7_0 : w.heap.size < (w6.alloc (.cells #[.int .i64 0, .int .i64 0] 23)).heap.size := Nat.lt_of_lt_of_le z6_0 hb7.size
      have z7_1 : w4.heap.size < (w6.alloc (.cells #[.int .i64 0, .int .i64 0] 23)).heap.size := Nat.lt_of_lt_of_le z6_1 hb7.size
      have c7_2_0 : (w6.alloc (.cells #[.int .i64 0, .int .i64 0] 23)).cell? ⟨w6.heap.size, 0, none⟩ = some (.int .i64 0) := by rw [World.cell?_alloc_at _ _ _ _ (by simp)]; rfl
      have c7_2_1 : (w6.alloc (.cells #[.int .i64 0, .int .i64 0] 23)).cell? ⟨w6.heap.size, 1, none⟩ = some (.int .i64 0) := by rw [World.cell?_alloc_at _ _ _ _ (by simp)]; rfl
      have z7_2 : w6.heap.size < (w6.alloc (.cells #[.int .i64 0, .int .i64 0] 23)).heap.size := by simp
      have hw7 := Lib.hid (hw6.out.trans (hb7.mono hw6.out.size))
      generalize hW7 : (w6.alloc (.cells #[.int .i64 0, .int .i64 0] 23)) = w7 at *
      clear hW7 hb7 hw6 c6_0_0 c6_0_1 c6_1_0 c6_1_1 z6_0 z6_1
      refine (T3.out _ (HE.out.below hw7.out)).mono ?_
      rintro e w8 ⟨rfl, hb8⟩
      have c8_0_0 := (hb8.cell (p := ⟨w.heap.size, 0, none⟩) z7_0).trans c7_0_0
      have c8_0_1 := (hb8.cell (p := ⟨w.heap.size, 1, none⟩) z7_0).trans c7_0_1
      have c8_1_0 := (hb8.cell (p := ⟨w4.heap.size, 0, none⟩) z7_1).trans c7_1_0
      have c8_1_1 := (hb8.cell (p := ⟨w4.heap.size, 1, none⟩) z7_1).trans c7_1_1
      have c8_2_0 := (hb8.cell (p := ⟨w6.heap.size, 0, none⟩) z7_2).trans c7_2_0
      have c8_2_1 := (hb8.cell (p := ⟨w6.heap.size, 1, none⟩) z7_2).trans c7_2_1
      have z8_0 : w.heap.size < w8.heap.size := Nat.lt_of_lt_of_le z7_0 hb8.size
      have z8_1 : w4.heap.size < w8.heap.size := Nat.lt_of_lt_of_le z7_1 hb8.size
      have z8_2 : w6.heap.size < w8.heap.size := Nat.lt_of_lt_of_le z7_2 hb8.size
      have hw8 := Lib.hid (hw7.out.trans (hb8.mono hw7.out.size))
      clear hb8 hw7 c7_0_0 c7_0_1 c7_1_0 c7_1_1 c7_2_0 c7_2_1 z7_0 z7_1 z7_2
      go_wp2
      go_ret
      exact ⟨rfl, hw8.out⟩
  | true =>
    have T1 := Lib.hid (ta (k := 0) htb (by unfold textF; rw [if_pos hv]))
    have T2 := Lib.hid (tr (k := 0) htb (by unfold textF; rw [if_pos hv]))
    obtain ⟨v0, v1, v2, v3⟩ := vldW_iff.1 hv
    have et : tb.data.toList = Lib.itoa x ++ [44] ++ Lib.itoa n := by rw [← htb]; unfold textF; rw [if_pos hv]
    have st : tb.size < 9223372036854775808 := by
      have la := itoa_size (by omega) (by omega) (rfl : (⟨(Lib.itoa x).toArray⟩ : ByteArray) = _)
      have lb := itoa_size (by omega) (by omega) (rfl : (⟨(Lib.itoa n).toArray⟩ : ByteArray) = _)
      rw [← len_data] at la lb ⊢
      rw [et]
      simp only [List.length_append, List.length_singleton]
      simp only at la lb
      omega
    have PT := Lib.hid (pa (s := tb) (a := x) (b := n) (c := 0) (by rw [et]; exact parse_text hv) st)
    clear hv htb et st
    rcases parse_cases s.data.toList with ⟨a, b, h⟩ | h | h
    · obtain ⟨hv2, ht⟩ := text_parse h
      have P1 := Lib.hid (pa h hs)
      have P2 := Lib.hid (pr h hs)
      have T3 := Lib.hid (ta (x := a) (n := b) (tb := s) (k := 0) (by unfold textF; rw [if_pos hv2]; exact bytes_of ht) (by unfold textF; rw [if_pos hv2]))
      clear h hv2 ht hs
      go_enter Tryd.func7, Tryd.ntmps7
      go_wp2_with fail
      have c0_0_0 : (w.alloc (.cells #[.int .i64 x, .int .i64 n] 23)).cell? ⟨w.heap.size, 0, none⟩ = some (.int .i64 x) := by rw [World.cell?_alloc_at _ _ _ _ (by simp)]; rfl
      have c0_0_1 : (w.alloc (.cells #[.int .i64 x, .int .i64 n] 23)).cell? ⟨w.heap.size, 1, none⟩ = some (.int .i64 n) := by rw [World.cell?_alloc_at _ _ _ _ (by simp)]; rfl
      have z0_0 : w.heap.size < (w.alloc (.cells #[.int .i64 x, .int .i64 n] 23)).heap.size := by simp; try omega
      have hw0 := Lib.hid ((Below.refl w.heap.size w).alloc (by simp; try omega) (.cells #[.int .i64 x, .int .i64 n] 23))
      generalize hW0 : (w.alloc (.cells #[.int .i64 x, .int .i64 n] 23)) = w0 at *
      clear hW0
      refine (awake_any _ (HE.out.below hw0.out)).mono ?_
      rintro e w1 ⟨rfl, hb1⟩
      have c1_0_0 := (hb1.cell (p := ⟨w.heap.size, 0, none⟩) z0_0).trans c0_0_0
      have c1_0_1 := (hb1.cell (p := ⟨w.heap.size, 1, none⟩) z0_0).trans c0_0_1
      have z1_0 : w.heap.size < w1.heap.size := Nat.lt_of_lt_of_le z0_0 hb1.size
      have hw1 := Lib.hid (hw0.out.trans (hb1.mono hw0.out.size))
      clear hb1 hw0 c0_0_0 c0_0_1 z0_0
      go_wp2_with fail
      refine (T1.out _ (HE.out.below hw1.out)).mono ?_
      rintro e w2 ⟨rfl, hb2⟩
      have c2_0_0 := (hb2.cell (p := ⟨w.heap.size, 0, none⟩) z1_0).trans c1_0_0
      have c2_0_1 := (hb2.cell (p := ⟨w.heap.size, 1, none⟩) z1_0).trans c1_0_1
      have z2_0 : w.heap.size < w2.heap.size := Nat.lt_of_lt_of_le z1_0 hb2.size
      have hw2 := Lib.hid (hw1.out.trans (hb2.mono hw1.out.size))
      clear hb2 hw1 c1_0_0 c1_0_1 z1_0
      go_wp2_with fail
      refine (T2.out _).mono ?_
      rintro e w3 ⟨rfl, hb3⟩
      have c3_0_0 := (hb3.cell (p := ⟨w.heap.size, 0, none⟩) z2_0).trans c2_0_0
      have c3_0_1 := (hb3.cell (p := ⟨w.heap.size, 1, none⟩) z2_0).trans c2_0_1
      have z3_0 : w.heap.size < w3.heap.size := Nat.lt_of_lt_of_le z2_0 hb3.size
      have hw3 := Lib.hid (hw2.out.trans (hb3.mono hw2.out.size))
      clear hb3 hw2 c2_0_0 c2_0_1 z2_0
      go_wp2_with fail
      refine (PT.out _ (HE.out.below hw3.out)).mono ?_
      rintro e w4 ⟨rfl, hb4⟩
      have c4_0_0 := (hb4.cell (p := ⟨w.heap.size, 0, none⟩) z3_0).trans c3_0_0
      have c4_0_1 := (hb4.cell (p := ⟨w.heap.size, 1, none⟩) z3_0).trans c3_0_1
      have z4_0 : w.heap.size < w4.heap.size := Nat.lt_of_lt_of_le z3_0 hb4.size
      have hw4 := Lib.hid (hw3.out.trans (hb4.mono hw3.out.size))
      clear hb4 hw3 c3_0_0 c3_0_1 z3_0
      go_wp2_with fail
      have hb5 : Below w4.heap.size w4 (w4.alloc (.cells #[.int .i64 x, .int .i64 n] 23)) := (Below.refl w4.heap.size w4).alloc (Nat.le_refl _) _
      have c5_0_0 := (hb5.cell (p := ⟨w.heap.size, 0, none⟩) z4_0).trans c4_0_0
      have c5_0_1 := (hb5.cell (p := ⟨w.heap.size, 1, none⟩) z4_0).trans c4_0_1
      have z5_0 : w.heap.size < (w4.alloc (.cells #[.int .i64 x, .int .i64 n] 23)).heap.size := Nat.lt_of_lt_of_le z4_0 hb5.size
      have c5_1_0 : (w4.alloc (.cells #[.int .i64 x, .int .i64 n] 23)).cell? ⟨w4.heap.size, 0, none⟩ = some (.int .i64 x) := by rw [World.cell?_alloc_at _ _ _ _ (by simp)]; rfl
      have c5_1_1 : (w4.alloc (.cells #[.int .i64 x, .int .i64 n] 23)).cell? ⟨w4.heap.size, 1, none⟩ = some (.int .i64 n) := by rw [World.cell?_alloc_at _ _ _ _ (by simp)]; rfl
      have z5_1 : w4.heap.size < (w4.alloc (.cells #[.int .i64 x, .int .i64 n] 23)).heap.size := by simp
      have hw5 := Lib.hid (hw4.out.trans (hb5.mono hw4.out.size))
      generalize hW5 : (w4.alloc (.cells #[.int .i64 x, .int .i64 n] 23)) = w5 at *
      clear hW5 hb5 hw4 c4_0_0 c4_0_1 z4_0
      refine (P1.out _ (HE.out.below hw5.out)).mono ?_
      rintro e w6 ⟨rfl, hb6⟩
      have c6_0_0 := (hb6.cell (p := ⟨w.heap.size, 0, none⟩) z5_0).trans c5_0_0
      have c6_0_1 := (hb6.cell (p := ⟨w.heap.size, 1, none⟩) z5_0).trans c5_0_1
      have c6_1_0 := (hb6.cell (p := ⟨w4.heap.size, 0, none⟩) z5_1).trans c5_1_0
      have c6_1_1 := (hb6.cell (p := ⟨w4.heap.size, 1, none⟩) z5_1).trans c5_1_1
      have z6_0 : w.heap.size < w6.heap.size := Nat.lt_of_lt_of_le z5_0 hb6.size
      have z6_1 : w4.heap.size < w6.heap.size := Nat.lt_of_lt_of_le z5_1 hb6.size
      have hw6 := Lib.hid (hw5.out.trans (hb6.mono hw5.out.size))
      clear hb6 hw5 c5_0_0 c5_0_1 c5_1_0 c5_1_1 z5_0 z5_1
      go_wp2_with fail
      have hb7 : Below w6.heap.size w6 (w6.alloc (.cells #[.int .i64 a, .int .i64 b] 23)) := (Below.refl w6.heap.size w6).alloc (Nat.le_refl _) _
      have c7_0_0 := (hb7.cell (p := ⟨w.heap.size, 0, none⟩) z6_0).trans c6_0_0
      have c7_0_1 := (hb7.cell (p := ⟨w.heap.size, 1, none⟩) z6_0).trans c6_0_1
      have c7_1_0 := (hb7.cell (p := ⟨w4.heap.size, 0, none⟩) z6_1).trans c6_1_0
      have c7_1_1 := (hb7.cell (p := ⟨w4.heap.size, 1, none⟩) z6_1).trans c6_1_1
      have z7_0 : w.heap.size < (w6.alloc (.cells #[.int .i64 a, .int .i64 b] 23)).heap.size := Nat.lt_of_lt_of_le z6_0 hb7.size
      have z7_1 : w4.heap.size < (w6.alloc (.cells #[.int .i64 a, .int .i64 b] 23)).heap.size := Nat.lt_of_lt_of_le z6_1 hb7.size
      have c7_2_0 : (w6.alloc (.cells #[.int .i64 a, .int .i64 b] 23)).cell? ⟨w6.heap.size, 0, none⟩ = some (.int .i64 a) := by rw [World.cell?_alloc_at _ _ _ _ (by simp)]; rfl
      have c7_2_1 : (w6.alloc (.cells #[.int .i64 a, .int .i64 b] 23)).cell? ⟨w6.heap.size, 1, none⟩ = some (.int .i64 b) := by rw [World.cell?_alloc_at _ _ _ _ (by simp)]; rfl
      have z7_2 : w6.heap.size < (w6.alloc (.cells #[.int .i64 a, .int .i64 b] 23)).heap.size := by simp
      have hw7 := Lib.hid (hw6.out.trans (hb7.mono hw6.out.size))
      generalize hW7 : (w6.alloc (.cells #[.int .i64 a, .int .i64 b] 23)) = w7 at *
      clear hW7 hb7 hw6 c6_0_0 c6_0_1 c6_1_0 c6_1_1 z6_0 z6_1
      refine (P2.out _).mono ?_
      rintro e w8 ⟨rfl, hb8⟩
      have c8_0_0 := (hb8.cell (p := ⟨w.heap.size, 0, none⟩) z7_0).trans c7_0_0
      have c8_0_1 := (hb8.cell (p := ⟨w.heap.size, 1, none⟩) z7_0).trans c7_0_1
      have c8_1_0 := (hb8.cell (p := ⟨w4.heap.size, 0, none⟩) z7_1).trans c7_1_0
      have c8_1_1 := (hb8.cell (p := ⟨w4.heap.size, 1, none⟩) z7_1).trans c7_1_1
      have c8_2_0 := (hb8.cell (p := ⟨w6.heap.size, 0, none⟩) z7_2).trans c7_2_0
      have c8_2_1 := (hb8.cell (p := ⟨w6.heap.size, 1, none⟩) z7_2).trans c7_2_1
      have z8_0 : w.heap.size < w8.heap.size := Nat.lt_of_lt_of_le z7_0 hb8.size
      have z8_1 : w4.heap.size < w8.heap.size := Nat.lt_of_lt_of_le z7_1 hb8.size
      have z8_2 : w6.heap.size < w8.heap.size := Nat.lt_of_lt_of_le z7_2 hb8.size
      have hw8 := Lib.hid (hw7.out.trans (hb8.mono hw7.out.size))
      clear hb8 hw7 c7_0_0 c7_0_1 c7_1_0 c7_1_1 c7_2_0 c7_2_1 z7_0 z7_1 z7_2
      go_wp2_with fail
      have hb9 : Below w8.heap.size w8 (w8.alloc (.cells #[.int .i64 a, .int .i64 b] 23)) := (Below.refl w8.heap.size w8).alloc (Nat.le_refl _) _
      have c9_0_0 := (hb9.cell (p := ⟨w.heap.size, 0, none⟩) z8_0).trans c8_0_0
      have c9_0_1 := (hb9.cell (p := ⟨w.heap.size, 1, none⟩) z8_0).trans c8_0_1
      have c9_1_0 := (hb9.cell (p := ⟨w4.heap.size, 0, none⟩) z8_1).trans c8_1_0
      have c9_1_1 := (hb9.cell (p := ⟨w4.heap.size, 1, none⟩) z8_1).trans c8_1_1
      have c9_2_0 := (hb9.cell (p := ⟨w6.heap.size, 0, none⟩) z8_2).trans c8_2_0
      have c9_2_1 := (hb9.cell (p := ⟨w6.heap.size, 1, none⟩) z8_2).trans c8_2_1
      have z9_0 : w.heap.size < (w8.alloc (.cells #[.int .i64 a, .int .i64 b] 23)).heap.size := Nat.lt_of_lt_of_le z8_0 hb9.size
      have z9_1 : w4.heap.size < (w8.alloc (.cells #[.int .i64 a, .int .i64 b] 23)).heap.size := Nat.lt_of_lt_of_le z8_1 hb9.size
      have z9_2 : w6.heap.size < (w8.alloc (.cells #[.int .i64 a, .int .i64 b] 23)).heap.size := Nat.lt_of_lt_of_le z8_2 hb9.size
      have c9_3_0 : (w8.alloc (.cells #[.int .i64 a, .int .i64 b] 23)).cell? ⟨w8.heap.size, 0, none⟩ = some (.int .i64 a) := by rw [World.cell?_alloc_at _ _ _ _ (by simp)]; rfl
      have c9_3_1 : (w8.alloc (.cells #[.int .i64 a, .int .i64 b] 23)).cell? ⟨w8.heap.size, 1, none⟩ = some (.int .i64 b) := by rw [World.cell?_alloc_at _ _ _ _ (by simp)]; rfl
      have z9_3 : w8.heap.size < (w8.alloc (.cells #[.int .i64 a, .int .i64 b] 23)).heap.size := by simp
      have hw9 := Lib.hid (hw8.out.trans (hb9.mono hw8.out.size))
      generalize hW9 : (w8.alloc (.cells #[.int .i64 a, .int .i64 b] 23)) = w9 at *
      clear hW9 hb9 hw8 c8_0_0 c8_0_1 c8_1_0 c8_1_1 c8_2_0 c8_2_1 z8_0 z8_1 z8_2
      refine (T3.out _ (HE.out.below hw9.out)).mono ?_
      rintro e w10 ⟨rfl, hb10⟩
      have c10_0_0 := (hb10.cell (p := ⟨w.heap.size, 0, none⟩) z9_0).trans c9_0_0
      have c10_0_1 := (hb10.cell (p := ⟨w.heap.size, 1, none⟩) z9_0).trans c9_0_1
      have c10_1_0 := (hb10.cell (p := ⟨w4.heap.size, 0, none⟩) z9_1).trans c9_1_0
      have c10_1_1 := (hb10.cell (p := ⟨w4.heap.size, 1, none⟩) z9_1).trans c9_1_1
      have c10_2_0 := (hb10.cell (p := ⟨w6.heap.size, 0, none⟩) z9_2).trans c9_2_0
      have c10_2_1 := (hb10.cell (p := ⟨w6.heap.size, 1, none⟩) z9_2).trans c9_2_1
      have c10_3_0 := (hb10.cell (p := ⟨w8.heap.size, 0, none⟩) z9_3).trans c9_3_0
      have c10_3_1 := (hb10.cell (p := ⟨w8.heap.size, 1, none⟩) z9_3).trans c9_3_1
      have z10_0 : w.heap.size < w10.heap.size := Nat.lt_of_lt_of_le z9_0 hb10.size
      have z10_1 : w4.heap.size < w10.heap.size := Nat.lt_of_lt_of_le z9_1 hb10.size
      have z10_2 : w6.heap.size < w10.heap.size := Nat.lt_of_lt_of_le z9_2 hb10.size
      have z10_3 : w8.heap.size < w10.heap.size := Nat.lt_of_lt_of_le z9_3 hb10.size
      have hw10 := Lib.hid (hw9.out.trans (hb10.mono hw9.out.size))
      clear hb10 hw9 c9_0_0 c9_0_1 c9_1_0 c9_1_1 c9_2_0 c9_2_1 c9_3_0 c9_3_1 z9_0 z9_1 z9_2 z9_3
      go_wp2
      go_ret
      exact ⟨rfl, hw10.out⟩
    · have P1 := Lib.hid (pa h hs)
      have P2 := Lib.hid (pr h hs)
      obtain ⟨tc, htc⟩ : ∃ tc : ByteArray, (⟨(textF 0 0).1.toArray⟩ : ByteArray) = tc := ⟨_, rfl⟩
      have T3 := Lib.hid (ta (x := 0) (n := 0) (tb := tc) (k := 0) htc (by decide +kernel))
      clear h htc hs
      go_enter Tryd.func7, Tryd.ntmps7
      go_wp2_with fail
      have c0_0_0 : (w.alloc (.cells #[.int .i64 x, .int .i64 n] 23)).cell? ⟨w.heap.size, 0, none⟩ = some (.int .i64 x) := by rw [World.cell?_alloc_at _ _ _ _ (by simp)]; rfl
      have c0_0_1 : (w.alloc (.cells #[.int .i64 x, .int .i64 n] 23)).cell? ⟨w.heap.size, 1, none⟩ = some (.int .i64 n) := by rw [World.cell?_alloc_at _ _ _ _ (by simp)]; rfl
      have z0_0 : w.heap.size < (w.alloc (.cells #[.int .i64 x, .int .i64 n] 23)).heap.size := by simp; try omega
      have hw0 := Lib.hid ((Below.refl w.heap.size w).alloc (by simp; try omega) (.cells #[.int .i64 x, .int .i64 n] 23))
      generalize hW0 : (w.alloc (.cells #[.int .i64 x, .int .i64 n] 23)) = w0 at *
      clear hW0
      refine (awake_any _ (HE.out.below hw0.out)).mono ?_
      rintro e w1 ⟨rfl, hb1⟩
      have c1_0_0 := (hb1.cell (p := ⟨w.heap.size, 0, none⟩) z0_0).trans c0_0_0
      have c1_0_1 := (hb1.cell (p := ⟨w.heap.size, 1, none⟩) z0_0).trans c0_0_1
      have z1_0 : w.heap.size < w1.heap.size := Nat.lt_of_lt_of_le z0_0 hb1.size
      have hw1 := Lib.hid (hw0.out.trans (hb1.mono hw0.out.size))
      clear hb1 hw0 c0_0_0 c0_0_1 z0_0
      go_wp2_with fail
      refine (T1.out _ (HE.out.below hw1.out)).mono ?_
      rintro e w2 ⟨rfl, hb2⟩
      have c2_0_0 := (hb2.cell (p := ⟨w.heap.size, 0, none⟩) z1_0).trans c1_0_0
      have c2_0_1 := (hb2.cell (p := ⟨w.heap.size, 1, none⟩) z1_0).trans c1_0_1
      have z2_0 : w.heap.size < w2.heap.size := Nat.lt_of_lt_of_le z1_0 hb2.size
      have hw2 := Lib.hid (hw1.out.trans (hb2.mono hw1.out.size))
      clear hb2 hw1 c1_0_0 c1_0_1 z1_0
      go_wp2_with fail
      refine (T2.out _).mono ?_
      rintro e w3 ⟨rfl, hb3⟩
      have c3_0_0 := (hb3.cell (p := ⟨w.heap.size, 0, none⟩) z2_0).trans c2_0_0
      have c3_0_1 := (hb3.cell (p := ⟨w.heap.size, 1, none⟩) z2_0).trans c2_0_1
      have z3_0 : w.heap.size < w3.heap.size := Nat.lt_of_lt_of_le z2_0 hb3.size
      have hw3 := Lib.hid (hw2.out.trans (hb3.mono hw2.out.size))
      clear hb3 hw2 c2_0_0 c2_0_1 z2_0
      go_wp2_with fail
      refine (PT.out _ (HE.out.below hw3.out)).mono ?_
      rintro e w4 ⟨rfl, hb4⟩
      have c4_0_0 := (hb4.cell (p := ⟨w.heap.size, 0, none⟩) z3_0).trans c3_0_0
      have c4_0_1 := (hb4.cell (p := ⟨w.heap.size, 1, none⟩) z3_0).trans c3_0_1
      have z4_0 : w.heap.size < w4.heap.size := Nat.lt_of_lt_of_le z3_0 hb4.size
      have hw4 := Lib.hid (hw3.out.trans (hb4.mono hw3.out.size))
      clear hb4 hw3 c3_0_0 c3_0_1 z3_0
      go_wp2_with fail
      have hb5 : Below w4.heap.size w4 (w4.alloc (.cells #[.int .i64 x, .int .i64 n] 23)) := (Below.refl w4.heap.size w4).alloc (Nat.le_refl _) _
      have c5_0_0 := (hb5.cell (p := ⟨w.heap.size, 0, none⟩) z4_0).trans c4_0_0
      have c5_0_1 := (hb5.cell (p := ⟨w.heap.size, 1, none⟩) z4_0).trans c4_0_1
      have z5_0 : w.heap.size < (w4.alloc (.cells #[.int .i64 x, .int .i64 n] 23)).heap.size := Nat.lt_of_lt_of_le z4_0 hb5.size
      have c5_1_0 : (w4.alloc (.cells #[.int .i64 x, .int .i64 n] 23)).cell? ⟨w4.heap.size, 0, none⟩ = some (.int .i64 x) := by rw [World.cell?_alloc_at _ _ _ _ (by simp)]; rfl
      have c5_1_1 : (w4.alloc (.cells #[.int .i64 x, .int .i64 n] 23)).cell? ⟨w4.heap.size, 1, none⟩ = some (.int .i64 n) := by rw [World.cell?_alloc_at _ _ _ _ (by simp)]; rfl
      have z5_1 : w4.heap.size < (w4.alloc (.cells #[.int .i64 x, .int .i64 n] 23)).heap.size := by simp
      have hw5 := Lib.hid (hw4.out.trans (hb5.mono hw4.out.size))
      generalize hW5 : (w4.alloc (.cells #[.int .i64 x, .int .i64 n] 23)) = w5 at *
      clear hW5 hb5 hw4 c4_0_0 c4_0_1 z4_0
      refine (P1.out _ (HE.out.below hw5.out)).mono ?_
      rintro e w6 ⟨rfl, hb6⟩
      have c6_0_0 := (hb6.cell (p := ⟨w.heap.size, 0, none⟩) z5_0).trans c5_0_0
      have c6_0_1 := (hb6.cell (p := ⟨w.heap.size, 1, none⟩) z5_0).trans c5_0_1
      have c6_1_0 := (hb6.cell (p := ⟨w4.heap.size, 0, none⟩) z5_1).trans c5_1_0
      have c6_1_1 := (hb6.cell (p := ⟨w4.heap.size, 1, none⟩) z5_1).trans c5_1_1
      have z6_0 : w.heap.size < w6.heap.size := Nat.lt_of_lt_of_le z5_0 hb6.size
      have z6_1 : w4.heap.size < w6.heap.size := Nat.lt_of_lt_of_le z5_1 hb6.size
      have hw6 := Lib.hid (hw5.out.trans (hb6.mono hw5.out.size))
      clear hb6 hw5 c5_0_0 c5_0_1 c5_1_0 c5_1_1 z5_0 z5_1
      go_wp2_with fail
      have hb7 : Below w6.heap.size w6 (w6.alloc (.cells #[.int .i64 0, .int .i64 0] 23)) := (Below.refl w6.heap.size w6).alloc (Nat.le_refl _) _
      have c7_0_0 := (hb7.cell (p := ⟨w.heap.size, 0, none⟩) z6_0).trans c6_0_0
      have c7_0_1 := (hb7.cell (p := ⟨w.heap.size, 1, none⟩) z6_0).trans c6_0_1
      have c7_1_0 := (hb7.cell (p := ⟨w4.heap.size, 0, none⟩) z6_1).trans c6_1_0
      have c7_1_1 := (hb7.cell (p := ⟨w4.heap.size, 1, none⟩) z6_1).trans c6_1_1
      have z7_0 : w.heap.size < (w6.alloc (.cells #[.int .i64 0, .int .i64 0] 23)).heap.size := Nat.lt_of_lt_of_le z6_0 hb7.size
      have z7_1 : w4.heap.size < (w6.alloc (.cells #[.int .i64 0, .int .i64 0] 23)).heap.size := Nat.lt_of_lt_of_le z6_1 hb7.size
      have c7_2_0 : (w6.alloc (.cells #[.int .i64 0, .int .i64 0] 23)).cell? ⟨w6.heap.size, 0, none⟩ = some (.int .i64 0) := by rw [World.cell?_alloc_at _ _ _ _ (by simp)]; rfl
      have c7_2_1 : (w6.alloc (.cells #[.int .i64 0, .int .i64 0] 23)).cell? ⟨w6.heap.size, 1, none⟩ = some (.int .i64 0) := by rw [World.cell?_alloc_at _ _ _ _ (by simp)]; rfl
      have z7_2 : w6.heap.size < (w6.alloc (.cells #[.int .i64 0, .int .i64 0] 23)).heap.size := by simp
      have hw7 := Lib.hid (hw6.out.trans (hb7.mono hw6.out.size))
      generalize hW7 : (w6.alloc (.cells #[.int .i64 0, .int .i64 0] 23)) = w7 at *
      clear hW7 hb7 hw6 c6_0_0 c6_0_1 c6_1_0 c6_1_1 z6_0 z6_1
      refine (P2.out _).mono ?_
      rintro e w8 ⟨rfl, hb8⟩
      have c8_0_0 := (hb8.cell (p := ⟨w.heap.size, 0, none⟩) z7_0).trans c7_0_0
      have c8_0_1 := (hb8.cell (p := ⟨w.heap.size, 1, none⟩) z7_0).trans c7_0_1
      have c8_1_0 := (hb8.cell (p := ⟨w4.heap.size, 0, none⟩) z7_1).trans c7_1_0
      have c8_1_1 := (hb8.cell (p := ⟨w4.heap.size, 1, none⟩) z7_1).trans c7_1_1
      have c8_2_0 := (hb8.cell (p := ⟨w6.heap.size, 0, none⟩) z7_2).trans c7_2_0
      have c8_2_1 := (hb8.cell (p := ⟨w6.heap.size, 1, none⟩) z7_2).trans c7_2_1
      have z8_0 : w.heap.size < w8.heap.size := Nat.lt_of_lt_of_le z7_0 hb8.size
      have z8_1 : w4.heap.size < w8.heap.size := Nat.lt_of_lt_of_le z7_1 hb8.size
      have z8_2 : w6.heap.size < w8.heap.size := Nat.lt_of_lt_of_le z7_2 hb8.size
      have hw8 := Lib.hid (hw7.out.trans (hb8.mono hw7.out.size))
      clear hb8 hw7 c7_0_0 c7_0_1 c7_1_0 c7_1_1 c7_2_0 c7_2_1 z7_0 z7_1 z7_2
      go_wp2_with fail
      have hb9 : Below w8.heap.size w8 (w8.alloc (.cells #[.int .i64 0, .int .i64 0] 23)) := (Below.refl w8.heap.size w8).alloc (Nat.le_refl _) _
      have c9_0_0 := (hb9.cell (p := ⟨w.heap.size, 0, none⟩) z8_0).trans c8_0_0
      have c9_0_1 := (hb9.cell (p := ⟨w.heap.size, 1, none⟩) z8_0).trans c8_0_1
      have c9_1_0 := (hb9.cell (p := ⟨w4.heap.size, 0, none⟩) z8_1).trans c8_1_0
      have c9_1_1 := (hb9.cell (p := ⟨w4.heap.size, 1, none⟩) z8_1).trans c8_1_1
      have c9_2_0 := (hb9.cell (p := ⟨w6.heap.size, 0, none⟩) z8_2).trans c8_2_0
      have c9_2_1 := (hb9.cell (p := ⟨w6.heap.size, 1, none⟩) z8_2).trans c8_2_1
      have z9_0 : w.heap.size < (w8.alloc (.cells #[.int .i64 0, .int .i64 0] 23)).heap.size := Nat.lt_of_lt_of_le z8_0 hb9.size
      have z9_1 : w4.heap.size < (w8.alloc (.cells #[.int .i64 0, .int .i64 0] 23)).heap.size := Nat.lt_of_lt_of_le z8_1 hb9.size
      have z9_2 : w6.heap.size < (w8.alloc (.cells #[.int .i64 0, .int .i64 0] 23)).heap.size := Nat.lt_of_lt_of_le z8_2 hb9.size
      have c9_3_0 : (w8.alloc (.cells #[.int .i64 0, .int .i64 0] 23)).cell? ⟨w8.heap.size, 0, none⟩ = some (.int .i64 0) := by rw [World.cell?_alloc_at _ _ _ _ (by simp)]; rfl
      have c9_3_1 : (w8.alloc (.cells #[.int .i64 0, .int .i64 0] 23)).cell? ⟨w8.heap.size, 1, none⟩ = some (.int .i64 0) := by rw [World.cell?_alloc_at _ _ _ _ (by simp)]; rfl
      have z9_3 : w8.heap.size < (w8.alloc (.cells #[.int .i64 0, .int .i64 0] 23)).heap.size := by simp
      have hw9 := Lib.hid (hw8.out.trans (hb9.mono hw8.out.size))
      generalize hW9 : (w8.alloc (.cells #[.int .i64 0, .int .i64 0] 23)) = w9 at *
      clear hW9 hb9 hw8 c8_0_0 c8_0_1 c8_1_0 c8_1_1 c8_2_0 c8_2_1 z8_0 z8_1 z8_2
      refine (T3.out _ (HE.out.below hw9.out)).mono ?_
      rintro e w10 ⟨rfl, hb10⟩
      have c10_0_0 := (hb10.cell (p := ⟨w.heap.size, 0, none⟩) z9_0).trans c9_0_0
      have c10_0_1 := (hb10.cell (p := ⟨w.heap.size, 1, none⟩) z9_0).trans c9_0_1
      have c10_1_0 := (hb10.cell (p := ⟨w4.heap.size, 0, none⟩) z9_1).trans c9_1_0
      have c10_1_1 := (hb10.cell (p := ⟨w4.heap.size, 1, none⟩) z9_1).trans c9_1_1
      have c10_2_0 := (hb10.cell (p := ⟨w6.heap.size, 0, none⟩) z9_2).trans c9_2_0
      have c10_2_1 := (hb10.cell (p := ⟨w6.heap.size, 1, none⟩) z9_2).trans c9_2_1
      have c10_3_0 := (hb10.cell (p := ⟨w8.heap.size, 0, none⟩) z9_3).trans c9_3_0
      have c10_3_1 := (hb10.cell (p := ⟨w8.heap.size, 1, none⟩) z9_3).trans c9_3_1
      have z10_0 : w.heap.size < w10.heap.size := Nat.lt_of_lt_of_le z9_0 hb10.size
      have z10_1 : w4.heap.size < w10.heap.size := Nat.lt_of_lt_of_le z9_1 hb10.size
      have z10_2 : w6.heap.size < w10.heap.size := Nat.lt_of_lt_of_le z9_2 hb10.size
      have z10_3 : w8.heap.size < w10.heap.size := Nat.lt_of_lt_of_le z9_3 hb10.size
      have hw10 := Lib.hid (hw9.out.trans (hb10.mono hw9.out.size))
      clear hb10 hw9 c9_0_0 c9_0_1 c9_1_0 c9_1_1 c9_2_0 c9_2_1 c9_3_0 c9_3_1 z9_0 z9_1 z9_2 z9_3
      go_wp2
      go_ret
      exact ⟨rfl, hw10.out⟩
    · have P1 := Lib.hid (pa h hs)
      have P2 := Lib.hid (pr h hs)
      obtain ⟨tc, htc⟩ : ∃ tc : ByteArray, (⟨(textF 0 0).1.toArray⟩ : ByteArray) = tc := ⟨_, rfl⟩
      have T3 := Lib.hid (ta (x := 0) (n := 0) (tb := tc) (k := 0) htc (by decide +kernel))
      clear h htc hs
      go_enter Tryd.func7, Tryd.ntmps7
      go_wp2_with fail
      have c0_0_0 : (w.alloc (.cells #[.int .i64 x, .int .i64 n] 23)).cell? ⟨w.heap.size, 0, none⟩ = some (.int .i64 x) := by rw [World.cell?_alloc_at _ _ _ _ (by simp)]; rfl
      have c0_0_1 : (w.alloc (.cells #[.int .i64 x, .int .i64 n] 23)).cell? ⟨w.heap.size, 1, none⟩ = some (.int .i64 n) := by rw [World.cell?_alloc_at _ _ _ _ (by simp)]; rfl
      have z0_0 : w.heap.size < (w.alloc (.cells #[.int .i64 x, .int .i64 n] 23)).heap.size := by simp; try omega
      have hw0 := Lib.hid ((Below.refl w.heap.size w).alloc (by simp; try omega) (.cells #[.int .i64 x, .int .i64 n] 23))
      generalize hW0 : (w.alloc (.cells #[.int .i64 x, .int .i64 n] 23)) = w0 at *
      clear hW0
      refine (awake_any _ (HE.out.below hw0.out)).mono ?_
      rintro e w1 ⟨rfl, hb1⟩
      have c1_0_0 := (hb1.cell (p := ⟨w.heap.size, 0, none⟩) z0_0).trans c0_0_0
      have c1_0_1 := (hb1.cell (p := ⟨w.heap.size, 1, none⟩) z0_0).trans c0_0_1
      have z1_0 : w.heap.size < w1.heap.size := Nat.lt_of_lt_of_le z0_0 hb1.size
      have hw1 := Lib.hid (hw0.out.trans (hb1.mono hw0.out.size))
      clear hb1 hw0 c0_0_0 c0_0_1 z0_0
      go_wp2_with fail
      refine (T1.out _ (HE.out.below hw1.out)).mono ?_
      rintro e w2 ⟨rfl, hb2⟩
      have c2_0_0 := (hb2.cell (p := ⟨w.heap.size, 0, none⟩) z1_0).trans c1_0_0
      have c2_0_1 := (hb2.cell (p := ⟨w.heap.size, 1, none⟩) z1_0).trans c1_0_1
      have z2_0 : w.heap.size < w2.heap.size := Nat.lt_of_lt_of_le z1_0 hb2.size
      have hw2 := Lib.hid (hw1.out.trans (hb2.mono hw1.out.size))
      clear hb2 hw1 c1_0_0 c1_0_1 z1_0
      go_wp2_with fail
      refine (T2.out _).mono ?_
      rintro e w3 ⟨rfl, hb3⟩
      have c3_0_0 := (hb3.cell (p := ⟨w.heap.size, 0, none⟩) z2_0).trans c2_0_0
      have c3_0_1 := (hb3.cell (p := ⟨w.heap.size, 1, none⟩) z2_0).trans c2_0_1
      have z3_0 : w.heap.size < w3.heap.size := Nat.lt_of_lt_of_le z2_0 hb3.size
      have hw3 := Lib.hid (hw2.out.trans (hb3.mono hw2.out.size))
      clear hb3 hw2 c2_0_0 c2_0_1 z2_0
      go_wp2_with fail
      refine (PT.out _ (HE.out.below hw3.out)).mono ?_
      rintro e w4 ⟨rfl, hb4⟩
      have c4_0_0 := (hb4.cell (p := ⟨w.heap.size, 0, none⟩) z3_0).trans c3_0_0
      have c4_0_1 := (hb4.cell (p := ⟨w.heap.size, 1, none⟩) z3_0).trans c3_0_1
      have z4_0 : w.heap.size < w4.heap.size := Nat.lt_of_lt_of_le z3_0 hb4.size
      have hw4 := Lib.hid (hw3.out.trans (hb4.mono hw3.out.size))
      clear hb4 hw3 c3_0_0 c3_0_1 z3_0
      go_wp2_with fail
      have hb5 : Below w4.heap.size w4 (w4.alloc (.cells #[.int .i64 x, .int .i64 n] 23)) := (Below.refl w4.heap.size w4).alloc (Nat.le_refl _) _
      have c5_0_0 := (hb5.cell (p := ⟨w.heap.size, 0, none⟩) z4_0).trans c4_0_0
      have c5_0_1 := (hb5.cell (p := ⟨w.heap.size, 1, none⟩) z4_0).trans c4_0_1
      have z5_0 : w.heap.size < (w4.alloc (.cells #[.int .i64 x, .int .i64 n] 23)).heap.size := Nat.lt_of_lt_of_le z4_0 hb5.size
      have c5_1_0 : (w4.alloc (.cells #[.int .i64 x, .int .i64 n] 23)).cell? ⟨w4.heap.size, 0, none⟩ = some (.int .i64 x) := by rw [World.cell?_alloc_at _ _ _ _ (by simp)]; rfl
      have c5_1_1 : (w4.alloc (.cells #[.int .i64 x, .int .i64 n] 23)).cell? ⟨w4.heap.size, 1, none⟩ = some (.int .i64 n) := by rw [World.cell?_alloc_at _ _ _ _ (by simp)]; rfl
      have z5_1 : w4.heap.size < (w4.alloc (.cells #[.int .i64 x, .int .i64 n] 23)).heap.size := by simp
      have hw5 := Lib.hid (hw4.out.trans (hb5.mono hw4.out.size))
      generalize hW5 : (w4.alloc (.cells #[.int .i64 x, .int .i64 n] 23)) = w5 at *
      clear hW5 hb5 hw4 c4_0_0 c4_0_1 z4_0
      refine (P1.out _ (HE.out.below hw5.out)).mono ?_
      rintro e w6 ⟨rfl, hb6⟩
      have c6_0_0 := (hb6.cell (p := ⟨w.heap.size, 0, none⟩) z5_0).trans c5_0_0
      have c6_0_1 := (hb6.cell (p := ⟨w.heap.size, 1, none⟩) z5_0).trans c5_0_1
      have c6_1_0 := (hb6.cell (p := ⟨w4.heap.size, 0, none⟩) z5_1).trans c5_1_0
      have c6_1_1 := (hb6.cell (p := ⟨w4.heap.size, 1, none⟩) z5_1).trans c5_1_1
      have z6_0 : w.heap.size < w6.heap.size := Nat.lt_of_lt_of_le z5_0 hb6.size
      have z6_1 : w4.heap.size < w6.heap.size := Nat.lt_of_lt_of_le z5_1 hb6.size
      have hw6 := Lib.hid (hw5.out.trans (hb6.mono hw5.out.size))
      clear hb6 hw5 c5_0_0 c5_0_1 c5_1_0 c5_1_1 z5_0 z5_1
      go_wp2_with fail
      have hb7 : Below w6.heap.size w6 (w6.alloc (.cells #[.int .i64 0, .int .i64 0] 23)) := (Below.refl w6.heap.size w6).alloc (Nat.le_refl _) _
      have c7_0_0 := (hb7.cell (p := ⟨w.heap.size, 0, none⟩) z6_0).trans c6_0_0
      have c7_0_1 := (hb7.cell (p := ⟨w.heap.size, 1, none⟩) z6_0).trans c6_0_1
      have c7_1_0 := (hb7.cell (p := ⟨w4.heap.size, 0, none⟩) z6_1).trans c6_1_0
      have c7_1_1 := (hb7.cell (p := ⟨w4.heap.size, 1, none⟩) z6_1).trans c6_1_1
      have z7_0 : w.heap.size < (w6.alloc (.cells #[.int .i64 0, .int .i64 0] 23)).heap.size := Nat.lt_of_lt_of_le z6_0 hb7.size
      have z7_1 : w4.heap.size < (w6.alloc (.cells #[.int .i64 0, .int .i64 0] 23)).heap.size := Nat.lt_of_lt_of_le z6_1 hb7.size
      have c7_2_0 : (w6.alloc (.cells #[.int .i64 0, .int .i64 0] 23)).cell? ⟨w6.heap.size, 0, none⟩ = some (.int .i64 0) := by rw [World.cell?_alloc_at _ _ _ _ (by simp)]; rfl
      have c7_2_1 : (w6.alloc (.cells #[.int .i64 0, .int .i64 0] 23)).cell? ⟨w6.heap.size, 1, none⟩ = some (.int .i64 0) := by rw [World.cell?_alloc_at _ _ _ _ (by simp)]; rfl
      have z7_2 : w6.heap.size < (w6.alloc (.cells #[.int .i64 0, .int .i64 0] 23)).heap.size := by simp
      have hw7 := Lib.hid (hw6.out.trans (hb7.mono hw6.out.size))
      generalize hW7 : (w6.alloc (.cells #[.int .i64 0, .int .i64 0] 23)) = w7 at *
      clear hW7 hb7 hw6 c6_0_0 c6_0_1 c6_1_0 c6_1_1 z6_0 z6_1
      refine (P2.out _).mono ?_
      rintro e w8 ⟨rfl, hb8⟩
      have c8_0_0 := (hb8.cell (p := ⟨w.heap.size, 0, none⟩) z7_0).trans c7_0_0
      have c8_0_1 := (hb8.cell (p := ⟨w.heap.size, 1, none⟩) z7_0).trans c7_0_1
      have c8_1_0 := (hb8.cell (p := ⟨w4.heap.size, 0, none⟩) z7_1).trans c7_1_0
      have c8_1_1 := (hb8.cell (p := ⟨w4.heap.size, 1, none⟩) z7_1).trans c7_1_1
      have c8_2_0 := (hb8.cell (p := ⟨w6.heap.size, 0, none⟩) z7_2).trans c7_2_0
      have c8_2_1 := (hb8.cell (p := ⟨w6.heap.size, 1, none⟩) z7_2).trans c7_2_1
      have z8_0 : w.heap.size < w8.heap.size := Nat.lt_of_lt_of_le z7_0 hb8.size
      have z8_1 : w4.heap.size < w8.heap.size := Nat.lt_of_lt_of_le z7_1 hb8.size
      have z8_2 : w6.heap.size < w8.heap.size := Nat.lt_of_lt_of_le z7_2 hb8.size
      have hw8 := Lib.hid (hw7.out.trans (hb8.mono hw7.out.size))
      clear hb8 hw7 c7_0_0 c7_0_1 c7_1_0 c7_1_1 c7_2_0 c7_2_1 z7_0 z7_1 z7_2
      go_wp2_with fail
      have hb9 : Below w8.heap.size w8 (w8.alloc (.cells #[.int .i64 0, .int .i64 0] 23)) := (Below.refl w8.heap.size w8).alloc (Nat.le_refl _) _
      have c9_0_0 := (hb9.cell (p := ⟨w.heap.size, 0, none⟩) z8_0).trans c8_0_0
      have c9_0_1 := (hb9.cell (p := ⟨w.heap.size, 1, none⟩) z8_0).trans c8_0_1
      have c9_1_0 := (hb9.cell (p := ⟨w4.heap.size, 0, none⟩) z8_1).trans c8_1_0
      have c9_1_1 := (hb9.cell (p := ⟨w4.heap.size, 1, none⟩) z8_1).trans c8_1_1
      have c9_2_0 := (hb9.cell (p := ⟨w6.heap.size, 0, none⟩) z8_2).trans c8_2_0
      have c9_2_1 := (hb9.cell (p := ⟨w6.heap.size, 1, none⟩) z8_2).trans c8_2_1
      have z9_0 : w.heap.size < (w8.alloc (.cells #[.int .i64 0, .int .i64 0] 23)).heap.size := Nat.lt_of_lt_of_le z8_0 hb9.size
      have z9_1 : w4.heap.size < (w8.alloc (.cells #[.int .i64 0, .int .i64 0] 23)).heap.size := Nat.lt_of_lt_of_le z8_1 hb9.size
      have z9_2 : w6.heap.size < (w8.alloc (.cells #[.int .i64 0, .int .i64 0] 23)).heap.size := Nat.lt_of_lt_of_le z8_2 hb9.size
      have c9_3_0 : (w8.alloc (.cells #[.int .i64 0, .int .i64 0] 23)).cell? ⟨w8.heap.size, 0, none⟩ = some (.int .i64 0) := by rw [World.cell?_alloc_at _ _ _ _ (by simp)]; rfl
      have c9_3_1 : (w8.alloc (.cells #[.int .i64 0, .int .i64 0] 23)).cell? ⟨w8.heap.size, 1, none⟩ = some (.int .i64 0) := by rw [World.cell?_alloc_at _ _ _ _ (by simp)]; rfl
      have z9_3 : w8.heap.size < (w8.alloc (.cells #[.int .i64 0, .int .i64 0] 23)).heap.size := by simp
      have hw9 := Lib.hid (hw8.out.trans (hb9.mono hw8.out.size))
      generalize hW9 : (w8.alloc (.cells #[.int .i64 0, .int .i64 0] 23)) = w9 at *
      clear hW9 hb9 hw8 c8_0_0 c8_0_1 c8_1_0 c8_1_1 c8_2_0 c8_2_1 z8_0 z8_1 z8_2
      refine (T3.out _ (HE.out.below hw9.out)).mono ?_
      rintro e w10 ⟨rfl, hb10⟩
      have c10_0_0 := (hb10.cell (p := ⟨w.heap.size, 0, none⟩) z9_0).trans c9_0_0
      have c10_0_1 := (hb10.cell (p := ⟨w.heap.size, 1, none⟩) z9_0).trans c9_0_1
      have c10_1_0 := (hb10.cell (p := ⟨w4.heap.size, 0, none⟩) z9_1).trans c9_1_0
      have c10_1_1 := (hb10.cell (p := ⟨w4.heap.size, 1, none⟩) z9_1).trans c9_1_1
      have c10_2_0 := (hb10.cell (p := ⟨w6.heap.size, 0, none⟩) z9_2).trans c9_2_0
      have c10_2_1 := (hb10.cell (p := ⟨w6.heap.size, 1, none⟩) z9_2).trans c9_2_1
      have c10_3_0 := (hb10.cell (p := ⟨w8.heap.size, 0, none⟩) z9_3).trans c9_3_0
      have c10_3_1 := (hb10.cell (p := ⟨w8.heap.size, 1, none⟩) z9_3).trans c9_3_1
      have z10_0 : w.heap.size < w10.heap.size := Nat.lt_of_lt_of_le z9_0 hb10.size
      have z10_1 : w4.heap.size < w10.heap.size := Nat.lt_of_lt_of_le z9_1 hb10.size
      have z10_2 : w6.heap.size < w10.heap.size := Nat.lt_of_lt_of_le z9_2 hb10.size
      have z10_3 : w8.heap.size < w10.heap.size := Nat.lt_of_lt_of_le z9_3 hb10.size
      have hw10 := Lib.hid (hw9.out.trans (hb10.mono hw9.out.size))
      clear hb10 hw9 c9_0_0 c9_0_1 c9_1_0 c9_1_1 c9_2_0 c9_2_1 c9_3_0 c9_3_1 z9_0 z9_1 z9_2 z9_3
      go_wp2
      go_ret
      exact ⟨rfl, hw10.out⟩

/-! ### the row's step -/
set_option maxRecDepth 100000 in
theorem contract (H : Type) (enc : TypeId × Value → H) (W : World) (base : Nat) (args : Array Value) (ds gs : List (DataW H)) (before : List MemPlace)
    (hval : ∀ (j : Nat) t v, Tryd.f7.params[j]? = some t → args[j]? = some v → Value.okWide Tryd.prog W .any base t v)
    (hW : DataW.Whole enc Tryd.prog Tryd.f7.params.toList Rows.windTextsSpec.vars false W args.toList ds gs before) (hL : laidMetH Tryd.prog Rows.windTextsRow.laid W) (hsh : W.ShapedOpen Tryd.prog) :
    Calls Tryd.prog 7 args W fun e W' => ∃ v, e = .returned v ∧ Rows.windTextsSpec.post enc Tryd.prog Tryd.f7 false true false false W args v W' := by
  have hW' := hW
  obtain ⟨p, q, hA0, hV, rfl, hfz, hnd⟩ := hW
  have hA : DataW.TrodAll enc Tryd.prog W 0 (fun _ => true) true Tryd.f7.params.toList args.toList ds p := hA0
  rw [Tryd.params7] at hA hval
  obtain ⟨v0, vs0, d0, ds0, p0, q0, hargs, rfl, rfl, h0, r0⟩ := trodAll_cons hA
  obtain ⟨v1, vs1, d1, ds1, p1, q1, rfl, rfl, rfl, h1, r1⟩ := trodAll_cons r0
  obtain ⟨rfl, rfl, rfl⟩ := trodAll_nil r1
  obtain rfl : args = #[v0, v1] := by cases args; simp_all
  obtain ⟨rfl, rfl⟩ := trodVars_none hV
  obtain ⟨x0_0, x0_1, rfl, rfl, rfl, w0_0, w0_1⟩ := open_wind (hval 0 23 v0 rfl rfl) h0
  obtain ⟨s1, rfl, rfl, rfl, w1⟩ := Go.ChangeMaps.open_string Tryd.underlying9 (hval 1 9 v1 rfl rfl) h1
  clear hA0
  simp only [List.append_nil] at hW'
  refine (walk x0_0 x0_1 s1 (bd64 w0_0).1 (bd64 w0_0).2 (bd64 w0_1).1 (bd64 w0_1).2  W (env_of hL hsh) (by have h : s1.size ≤ 2 ^ 63 - 1 := w1; omega)).mono fun e W' ⟨he, hb⟩ => ?_
  subst he
  exact ⟨_, rfl, post_of_below (pa := []) (pv := []) hW' (fun _ _ _ => trodAll_cons_mk (shut_bool Tryd.underlying4 _) trodAll_mk0) (fun sp _ => (trodAll_cons_mk (shut_wind w0_0 w0_1) (trodAll_cons_mk (Go.ChangeMaps.shut_string Tryd.underlying9 w1) trodAll_mk0))) (fun _ _ => rfl) rfl
    hb (ok_one (by kernel_rfl) rfl (okWide_bool_mk Tryd.underlying4 _))⟩

theorem reads (os : Os) {H : Type} (enc : TypeId × Value → H) : ∃ places, DataW.whole enc Tryd.prog ((laidWorld os).forCall (fun _ _ => 0) ⟨#[], #[.agg #[.int .i64 0, .int .i64 0], .string ByteArray.empty], []⟩).memory Tryd.f7.params.toList Rows.windTextsSpec.vars false (#[.agg #[.int .i64 0, .int .i64 0], .string ByteArray.empty] : Array Value).toList 8 = some ([.agg [.lit (.int .i64 0), .lit (.int .i64 0)], .lit (.string [])], [], places) :=
  ⟨[], by kernel_rfl⟩

set_option maxRecDepth 100000 in
theorem lifted (os : Os) (started : os.Started) (H : Type) (enc : TypeId × Value → H) (F : Stop.Interp) :
    ReturnsInHanded {} Tryd.checked os 7 .any ((OpenSpec.ofChange Rows.windTextsSpec).preRow enc Tryd.prog Tryd.f7 Rows.windTextsRow.domain false Rows.windTextsRow.laid) (((OpenSpec.ofChange Rows.windTextsSpec).at F).post enc Tryd.prog Tryd.f7 false true false false) := by
  obtain ⟨places, hx⟩ := reads os enc
  refine returnsInHanded_of_row (C := Tryd.checked) (s := OpenSpec.ofChange Rows.windTextsSpec) own started (by kernel_rfl) Tryd.func7
    (witness_row_at (enc := enc) (C := Tryd.checked) false (laidWorld os) #[.agg #[.int .i64 0, .int .i64 0], .string ByteArray.empty] rfl (by kernel_rfl) (by kernel_rfl) (by kernel_rfl)
      (OpenSpec.preRow_of_cond 8 hx (by kernel_rfl) (fun k hk => by cases hk) (by kernel_rfl) (laid_met_any os _))) ?_
  intro W base args ds gs before hval hW _ _ _ hL hsh _
  exact contract H enc W base args ds gs before hval hW hL hsh

theorem said : Rows.WindTextsSaid :=
  OpenClaim.holds_of_cond 7 Tryd.f7 rfl rfl rfl rfl rfl rfl rfl ⟨rfl, rfl, rfl, rfl, rfl⟩ rfl rfl rfl rfl rfl (by kernel_rfl) Tryd.func7 (by kernel_rfl)
    (of_decide_eq_true (by kernel_rfl)) (by unfold Func.isWrapper; first | (rw [if_pos (by decide +kernel)]; kernel_rfl) | (rw [if_neg (by decide +kernel)]; exact ⟨rfl, rfl⟩))
    (fun os started H enc _ F => by rw [OpenClaim.pre_eq_preRow]; exact lifted os started H enc F)

theorem plain (f : FuncId) (fn : Func) (hf : Tryd.pinned.checked.prog.funcNamed "flightdeck/flightdecklaw13.WindTexts" = some f) (hfn : Tryd.pinned.checked.prog.funcs[f]? = some fn) :
    false = Tryd.pinned.checked.prog.looks [] ∧ ∀ (j : Nat) t, fn.params[j]? = some t → Tryd.pinned.checked.prog.wantsStandIn t = false := by
  obtain rfl : f = 7 := Option.some.inj ((show Tryd.prog.funcNamed "flightdeck/flightdecklaw13.WindTexts" = some 7 by kernel_rfl).symm.trans hf) |>.symm
  obtain rfl : fn = Tryd.f7 := (Option.some.inj (Tryd.func7.symm.trans hfn)).symm
  refine ⟨by kernel_rfl, fun j t ht => ?_⟩
  rw [Tryd.params7] at ht
  have hm := Array.mem_of_getElem? ht
  simp only [List.mem_toArray, List.mem_cons, List.not_mem_nil, or_false] at hm
  rcases hm with rfl | rfl
  · exact (show Tryd.prog.wantsStandIn 23 = false by kernel_rfl)
  · exact (show Tryd.prog.wantsStandIn 9 = false by kernel_rfl)
/-- the law -/
theorem card : Rows.WindTextsCardSaid :=
  Claim7.holds_tied_plain_at .later [] _ _ _ _ said (fun _ h => by cases h) (by kernel_rfl) (fun _ h => by cases h) windTexts_row_tie rfl ⟨rfl, rfl⟩ (by kernel_rfl) rfl plain (by kernel_rfl)
end Go.Proofs.YtdfpbojlimeccaaDoor.windTexts

