/-
  The law AirspeedTexts holds for every input: texts of speeds are the specified ones and are read back, and an accepted text is the text of its speed.
-/
import Derived.Test.YtnaokohffelklaaDoorStructs30
import Derived.Test.YtnaokohffelklaaDoorAwake30
import Derived.Test.YtnaokohffelklaaDoorParseRef30
import Derived.ChangeMaps5
namespace Go.Proofs.YtnaokohffelklaaDoor.airspeedTexts
set_option linter.unusedVariables false
open Go.ChangeShapes Go.WideShapes Go.ChangeAt Go.RowKit Sq

theorem ca {v : Int} {t : ByteArray} {k : Int} (h : ctF v = (t.data.toList, k)) (w : World) (hE : Env w) :
    Calls Tryd.prog 23 #[.int .i64 v] w fun e w' => e = .returned (.tuple #[.string t, .int .i64 k]) ∧ Below w.heap.size w w' :=
  (casText_any v w hE).mono (by rintro e w' ⟨rfl, hb⟩; rw [h]; exact ⟨by rw [ba_eta], hb⟩)
theorem cr {v : Int} {t : ByteArray} {k : Int} (h : ctF v = (t.data.toList, k)) (w : World) :
    Calls Tryd.prog 24 #[.int .i64 v] w fun e w' => e = .returned (.tuple #[.string t, .int .i64 k]) ∧ Below w.heap.size w w' :=
  (rcasText_any v w).mono (by rintro e w' ⟨rfl, hb⟩; rw [h]; exact ⟨by rw [ba_eta], hb⟩)
theorem ma {v : Int} {t : ByteArray} {k : Int} (h : mtF v = (t.data.toList, k)) (w : World) (hE : Env w) :
    Calls Tryd.prog 26 #[.int .i64 v] w fun e w' => e = .returned (.tuple #[.string t, .int .i64 k]) ∧ Below w.heap.size w w' :=
  (machText_any v w hE).mono (by rintro e w' ⟨rfl, hb⟩; rw [h]; exact ⟨by rw [ba_eta], hb⟩)
theorem mr {v : Int} {t : ByteArray} {k : Int} (h : mtF v = (t.data.toList, k)) (w : World) :
    Calls Tryd.prog 27 #[.int .i64 v] w fun e w' => e = .returned (.tuple #[.string t, .int .i64 k]) ∧ Below w.heap.size w w' :=
  (rmachText_any v w).mono (by rintro e w' ⟨rfl, hb⟩; rw [h]; exact ⟨by rw [ba_eta], hb⟩)
theorem pa {s : ByteArray} {a c : Int} {m : Bool} (h : parseA s.data.toList = (a, m, c)) (hs : s.size < 9223372036854775808) (w : World) (hE : Env w) :
    Calls Tryd.prog 25 #[.string s] w fun e w' => e = .returned (.tuple #[.int .i64 a, .bool m, .int .i64 c]) ∧ Below w.heap.size w w' :=
  (parse_any s w hE hs).mono (by rintro e w' ⟨rfl, hb⟩; rw [h]; exact ⟨rfl, hb⟩)
theorem pr {s : ByteArray} {a c : Int} {m : Bool} (h : parseA s.data.toList = (a, m, c)) (hs : s.size < 9223372036854775808) (w : World) :
    Calls Tryd.prog 28 #[.string s] w fun e w' => e = .returned (.tuple #[.int .i64 a, .bool m, .int .i64 c]) ∧ Below w.heap.size w w' :=
  (rparse_any s w hs).mono (by rintro e w' ⟨rfl, hb⟩; rw [h]; exact ⟨rfl, hb⟩)
/-- the text of a number, with its error, and what is read of it -/
theorem ct_cases (v : Int) : (∃ t : ByteArray, ctF v = (t.data.toList, 0) ∧ t.size < 9223372036854775808 ∧ parseA t.data.toList = (v, false, 0)) ∨ (∃ t : ByteArray, ctF v = (t.data.toList, 1) ∧ t.size < 9223372036854775808 ∧ parseA t.data.toList = (0, false, 4)) := by
  unfold ctF
  by_cases h : witB v 1000 = true
  · obtain ⟨h0, h1⟩ := wit_iff.1 h
    refine .inl ⟨⟨(casT v).toArray⟩, by rw [if_pos h], ?_, parse_cas h0 h1⟩
    have := dec_len (n := v) h0 (by omega)
    change (Lib.decDigits v.toNat).toArray.size ≤ 21 at this
    show (casT v).toArray.size < 9223372036854775808
    unfold casT
    simp only [List.size_toArray, List.length_append, List.length_cons, List.length_nil] at *
    omega
  · exact .inr ⟨⟨#[]⟩, by rw [if_neg h], by decide, by decide⟩
theorem mt_cases (v : Int) : (∃ t : ByteArray, mtF v = (t.data.toList, 0) ∧ t.size < 9223372036854775808 ∧ parseA t.data.toList = (v, true, 0)) ∨ (∃ t : ByteArray, mtF v = (t.data.toList, 1) ∧ t.size < 9223372036854775808 ∧ parseA t.data.toList = (0, false, 4)) := by
  unfold mtF
  by_cases h : witB v 2000 = true
  · obtain ⟨h0, h1⟩ := wit_iff.1 h
    refine .inl ⟨⟨(machT v).toArray⟩, by rw [if_pos h], ?_, parse_mach h0 h1⟩
    have := dec_len (n := v / 1000) (by omega) (by omega)
    change (Lib.decDigits (v / 1000).toNat).toArray.size ≤ 21 at this
    have h3 := (rest_is h0).1
    have hw : (wholeT v).length ≤ 21 := by
      unfold wholeT
      split
      · simpa using this
      · simp
    show (77 :: (wholeT v ++ 46 :: restT v)).toArray.size < 9223372036854775808
    simp only [List.size_toArray, List.length_append, List.length_cons] at *
    omega
  · exact .inr ⟨⟨#[]⟩, by rw [if_neg h], by decide, by decide⟩
/-- what is read of a text, and the text of that -/
theorem read_cases (s : ByteArray) : (∃ a, parseA s.data.toList = (a, true, 0) ∧ mtF a = (s.data.toList, 0)) ∨ (∃ a, parseA s.data.toList = (a, false, 0) ∧ ctF a = (s.data.toList, 0)) ∨ (∃ a c k : Int, ∃ t : ByteArray, parseA s.data.toList = (a, false, c) ∧ c ≠ 0 ∧ ctF a = (t.data.toList, k)) := by
  have hb := parse_back (s := s.data.toList)
  have hr := parse_refused (s := s.data.toList)
  generalize parseA s.data.toList = p at *
  obtain ⟨a, m, c⟩ := p
  simp only at hb hr
  by_cases hc : c = 0
  · obtain ⟨h0, h1, h2⟩ := hb hc
    subst hc
    cases m with
    | true =>
      refine .inl ⟨a, rfl, ?_⟩
      unfold mtF
      rw [if_pos (wit_iff.2 ⟨h0, by simpa using h1⟩)]
      exact Prod.ext h2.symm rfl
    | false =>
      refine .inr (.inl ⟨a, rfl, ?_⟩)
      unfold ctF
      rw [if_pos (wit_iff.2 ⟨h0, by simpa using h1⟩)]
      exact Prod.ext h2.symm rfl
  · have := hr hc
    subst this
    exact .inr (.inr ⟨a, c, (ctF a).2, ⟨(ctF a).1.toArray⟩, rfl, hc, rfl⟩)
set_option maxHeartbeats 8000000 in
set_option maxRecDepth 100000 in
theorem walk (v : Int) (s : ByteArray) (v_a : -9223372036854775808 ≤ v) (v_b : v ≤ 9223372036854775807) (w : World) (hE : Env w) (hs : s.size < 9223372036854775808) :
    Calls Tryd.prog 9 #[.int .i64 v, .string s] w fun e w' => e = .returned (.bool true) ∧ Below w.heap.size w w' := by
  have HE := Lib.hid hE
  clear hE
  rcases ct_cases v with ⟨t, ht, lt, pt⟩ | ⟨t, ht, lt, pt⟩
  · have T1 := Lib.hid (ca ht)
    have T2 := Lib.hid (cr ht)
    have PT := Lib.hid (pa pt lt)
    clear ht lt pt
    rcases mt_cases v with ⟨u, hu, lu, pu⟩ | ⟨u, hu, lu, pu⟩
    · have M1 := Lib.hid (ma hu)
      have M2 := Lib.hid (mr hu)
      have PM := Lib.hid (pa pu lu)
      clear hu lu pu
      rcases read_cases s with ⟨a, hp, ha⟩ | ⟨a, hp, ha⟩ | ⟨a, c, k, y, hp, hc, ha⟩
      · have P1 := Lib.hid (pa hp hs)
        have P2 := Lib.hid (pr hp hs)
        have T3 := Lib.hid (ma ha)
        clear hp ha hs
        go_enter Tryd.func9, Tryd.ntmps9
        go_wp2_with fail
        refine (awake_any _ HE.out).mono ?_
        rintro e w1 ⟨rfl, hb1⟩
        have hw1 := Lib.hid hb1
        clear hb1
        go_wp2_with fail
        refine (T1.out _ (HE.out.below hw1.out)).mono ?_
        rintro e w2 ⟨rfl, hb2⟩
        have hw2 := Lib.hid (hw1.out.trans (hb2.mono hw1.out.size))
        clear hb2 hw1
        go_wp2_with fail
        refine (T2.out _).mono ?_
        rintro e w3 ⟨rfl, hb3⟩
        have hw3 := Lib.hid (hw2.out.trans (hb3.mono hw2.out.size))
        clear hb3 hw2
        go_wp2_with fail
        refine (PT.out _ (HE.out.below hw3.out)).mono ?_
        rintro e w4 ⟨rfl, hb4⟩
        have hw4 := Lib.hid (hw3.out.trans (hb4.mono hw3.out.size))
        clear hb4 hw3
        go_wp2_with fail
        refine (M1.out _ (HE.out.below hw4.out)).mono ?_
        rintro e w5 ⟨rfl, hb5⟩
        have hw5 := Lib.hid (hw4.out.trans (hb5.mono hw4.out.size))
        clear hb5 hw4
        go_wp2_with fail
        refine (M2.out _).mono ?_
        rintro e w6 ⟨rfl, hb6⟩
        have hw6 := Lib.hid (hw5.out.trans (hb6.mono hw5.out.size))
        clear hb6 hw5
        go_wp2_with fail
        refine (PM.out _ (HE.out.below hw6.out)).mono ?_
        rintro e w7 ⟨rfl, hb7⟩
        have hw7 := Lib.hid (hw6.out.trans (hb7.mono hw6.out.size))
        clear hb7 hw6
        go_wp2_with fail
        refine (P1.out _ (HE.out.below hw7.out)).mono ?_
        rintro e w8 ⟨rfl, hb8⟩
        have hw8 := Lib.hid (hw7.out.trans (hb8.mono hw7.out.size))
        clear hb8 hw7
        go_wp2_with fail
        refine (P2.out _).mono ?_
        rintro e w9 ⟨rfl, hb9⟩
        have hw9 := Lib.hid (hw8.out.trans (hb9.mono hw8.out.size))
        clear hb9 hw8
        go_wp2_with fail
        refine (T3.out _ (HE.out.below hw9.out)).mono ?_
        rintro e w10 ⟨rfl, hb10⟩
        have hw10 := Lib.hid (hw9.out.trans (hb10.mono hw9.out.size))
        clear hb10 hw9
        go_wp2
        go_ret
        exact ⟨rfl, hw10.out⟩
      · have P1 := Lib.hid (pa hp hs)
        have P2 := Lib.hid (pr hp hs)
        have T3 := Lib.hid (ca ha)
        clear hp ha hs
        go_enter Tryd.func9, Tryd.ntmps9
        go_wp2_with fail
        refine (awake_any _ HE.out).mono ?_
        rintro e w1 ⟨rfl, hb1⟩
        have hw1 := Lib.hid hb1
        clear hb1
        go_wp2_with fail
        refine (T1.out _ (HE.out.below hw1.out)).mono ?_
        rintro e w2 ⟨rfl, hb2⟩
        have hw2 := Lib.hid (hw1.out.trans (hb2.mono hw1.out.size))
        clear hb2 hw1
        go_wp2_with fail
        refine (T2.out _).mono ?_
        rintro e w3 ⟨rfl, hb3⟩
        have hw3 := Lib.hid (hw2.out.trans (hb3.mono hw2.out.size))
        clear hb3 hw2
        go_wp2_with fail
        refine (PT.out _ (HE.out.below hw3.out)).mono ?_
        rintro e w4 ⟨rfl, hb4⟩
        have hw4 := Lib.hid (hw3.out.trans (hb4.mono hw3.out.size))
        clear hb4 hw3
        go_wp2_with fail
        refine (M1.out _ (HE.out.below hw4.out)).mono ?_
        rintro e w5 ⟨rfl, hb5⟩
        have hw5 := Lib.hid (hw4.out.trans (hb5.mono hw4.out.size))
        clear hb5 hw4
        go_wp2_with fail
        refine (M2.out _).mono ?_
        rintro e w6 ⟨rfl, hb6⟩
        have hw6 := Lib.hid (hw5.out.trans (hb6.mono hw5.out.size))
        clear hb6 hw5
        go_wp2_with fail
        refine (PM.out _ (HE.out.below hw6.out)).mono ?_
        rintro e w7 ⟨rfl, hb7⟩
        have hw7 := Lib.hid (hw6.out.trans (hb7.mono hw6.out.size))
        clear hb7 hw6
        go_wp2_with fail
        refine (P1.out _ (HE.out.below hw7.out)).mono ?_
        rintro e w8 ⟨rfl, hb8⟩
        have hw8 := Lib.hid (hw7.out.trans (hb8.mono hw7.out.size))
        clear hb8 hw7
        go_wp2_with fail
        refine (P2.out _).mono ?_
        rintro e w9 ⟨rfl, hb9⟩
        have hw9 := Lib.hid (hw8.out.trans (hb9.mono hw8.out.size))
        clear hb9 hw8
        go_wp2_with fail
        refine (T3.out _ (HE.out.below hw9.out)).mono ?_
        rintro e w10 ⟨rfl, hb10⟩
        have hw10 := Lib.hid (hw9.out.trans (hb10.mono hw9.out.size))
        clear hb10 hw9
        go_wp2
        go_ret
        exact ⟨rfl, hw10.out⟩
      · have P1 := Lib.hid (pa hp hs)
        have P2 := Lib.hid (pr hp hs)
        have T3 := Lib.hid (ca ha)
        have g1 : (c != 0) = true := by simpa using hc
        have g2 : (c == 0) = false := by simpa using hc
        clear hc
        clear hp ha hs
        go_enter Tryd.func9, Tryd.ntmps9
        go_wp2_with fail
        refine (awake_any _ HE.out).mono ?_
        rintro e w1 ⟨rfl, hb1⟩
        have hw1 := Lib.hid hb1
        clear hb1
        go_wp2_with fail
        refine (T1.out _ (HE.out.below hw1.out)).mono ?_
        rintro e w2 ⟨rfl, hb2⟩
        have hw2 := Lib.hid (hw1.out.trans (hb2.mono hw1.out.size))
        clear hb2 hw1
        go_wp2_with fail
        refine (T2.out _).mono ?_
        rintro e w3 ⟨rfl, hb3⟩
        have hw3 := Lib.hid (hw2.out.trans (hb3.mono hw2.out.size))
        clear hb3 hw2
        go_wp2_with fail
        refine (PT.out _ (HE.out.below hw3.out)).mono ?_
        rintro e w4 ⟨rfl, hb4⟩
        have hw4 := Lib.hid (hw3.out.trans (hb4.mono hw3.out.size))
        clear hb4 hw3
        go_wp2_with fail
        refine (M1.out _ (HE.out.below hw4.out)).mono ?_
        rintro e w5 ⟨rfl, hb5⟩
        have hw5 := Lib.hid (hw4.out.trans (hb5.mono hw4.out.size))
        clear hb5 hw4
        go_wp2_with fail
        refine (M2.out _).mono ?_
        rintro e w6 ⟨rfl, hb6⟩
        have hw6 := Lib.hid (hw5.out.trans (hb6.mono hw5.out.size))
        clear hb6 hw5
        go_wp2_with fail
        refine (PM.out _ (HE.out.below hw6.out)).mono ?_
        rintro e w7 ⟨rfl, hb7⟩
        have hw7 := Lib.hid (hw6.out.trans (hb7.mono hw6.out.size))
        clear hb7 hw6
        go_wp2_with fail
        refine (P1.out _ (HE.out.below hw7.out)).mono ?_
        rintro e w8 ⟨rfl, hb8⟩
        have hw8 := Lib.hid (hw7.out.trans (hb8.mono hw7.out.size))
        clear hb8 hw7
        go_wp2_with fail
        refine (P2.out _).mono ?_
        rintro e w9 ⟨rfl, hb9⟩
        have hw9 := Lib.hid (hw8.out.trans (hb9.mono hw8.out.size))
        clear hb9 hw8
        go_wp2_with fail
        refine (T3.out _ (HE.out.below hw9.out)).mono ?_
        rintro e w10 ⟨rfl, hb10⟩
        have hw10 := Lib.hid (hw9.out.trans (hb10.mono hw9.out.size))
        clear hb10 hw9
        go_wp2
        go_ret
        exact ⟨rfl, hw10.out⟩
    · have M1 := Lib.hid (ma hu)
      have M2 := Lib.hid (mr hu)
      have PM := Lib.hid (pa pu lu)
      clear hu lu pu
      rcases read_cases s with ⟨a, hp, ha⟩ | ⟨a, hp, ha⟩ | ⟨a, c, k, y, hp, hc, ha⟩
      · have P1 := Lib.hid (pa hp hs)
        have P2 := Lib.hid (pr hp hs)
        have T3 := Lib.hid (ma ha)
        clear hp ha hs
        go_enter Tryd.func9, Tryd.ntmps9
        go_wp2_with fail
        refine (awake_any _ HE.out).mono ?_
        rintro e w1 ⟨rfl, hb1⟩
        have hw1 := Lib.hid hb1
        clear hb1
        go_wp2_with fail
        refine (T1.out _ (HE.out.below hw1.out)).mono ?_
        rintro e w2 ⟨rfl, hb2⟩
        have hw2 := Lib.hid (hw1.out.trans (hb2.mono hw1.out.size))
        clear hb2 hw1
        go_wp2_with fail
        refine (T2.out _).mono ?_
        rintro e w3 ⟨rfl, hb3⟩
        have hw3 := Lib.hid (hw2.out.trans (hb3.mono hw2.out.size))
        clear hb3 hw2
        go_wp2_with fail
        refine (PT.out _ (HE.out.below hw3.out)).mono ?_
        rintro e w4 ⟨rfl, hb4⟩
        have hw4 := Lib.hid (hw3.out.trans (hb4.mono hw3.out.size))
        clear hb4 hw3
        go_wp2_with fail
        refine (M1.out _ (HE.out.below hw4.out)).mono ?_
        rintro e w5 ⟨rfl, hb5⟩
        have hw5 := Lib.hid (hw4.out.trans (hb5.mono hw4.out.size))
        clear hb5 hw4
        go_wp2_with fail
        refine (M2.out _).mono ?_
        rintro e w6 ⟨rfl, hb6⟩
        have hw6 := Lib.hid (hw5.out.trans (hb6.mono hw5.out.size))
        clear hb6 hw5
        go_wp2_with fail
        refine (PM.out _ (HE.out.below hw6.out)).mono ?_
        rintro e w7 ⟨rfl, hb7⟩
        have hw7 := Lib.hid (hw6.out.trans (hb7.mono hw6.out.size))
        clear hb7 hw6
        go_wp2_with fail
        refine (P1.out _ (HE.out.below hw7.out)).mono ?_
        rintro e w8 ⟨rfl, hb8⟩
        have hw8 := Lib.hid (hw7.out.trans (hb8.mono hw7.out.size))
        clear hb8 hw7
        go_wp2_with fail
        refine (P2.out _).mono ?_
        rintro e w9 ⟨rfl, hb9⟩
        have hw9 := Lib.hid (hw8.out.trans (hb9.mono hw8.out.size))
        clear hb9 hw8
        go_wp2_with fail
        refine (T3.out _ (HE.out.below hw9.out)).mono ?_
        rintro e w10 ⟨rfl, hb10⟩
        have hw10 := Lib.hid (hw9.out.trans (hb10.mono hw9.out.size))
        clear hb10 hw9
        go_wp2
        go_ret
        exact ⟨rfl, hw10.out⟩
      · have P1 := Lib.hid (pa hp hs)
        have P2 := Lib.hid (pr hp hs)
        have T3 := Lib.hid (ca ha)
        clear hp ha hs
        go_enter Tryd.func9, Tryd.ntmps9
        go_wp2_with fail
        refine (awake_any _ HE.out).mono ?_
        rintro e w1 ⟨rfl, hb1⟩
        have hw1 := Lib.hid hb1
        clear hb1
        go_wp2_with fail
        refine (T1.out _ (HE.out.below hw1.out)).mono ?_
        rintro e w2 ⟨rfl, hb2⟩
        have hw2 := Lib.hid (hw1.out.trans (hb2.mono hw1.out.size))
        clear hb2 hw1
        go_wp2_with fail
        refine (T2.out _).mono ?_
        rintro e w3 ⟨rfl, hb3⟩
        have hw3 := Lib.hid (hw2.out.trans (hb3.mono hw2.out.size))
        clear hb3 hw2
        go_wp2_with fail
        refine (PT.out _ (HE.out.below hw3.out)).mono ?_
        rintro e w4 ⟨rfl, hb4⟩
        have hw4 := Lib.hid (hw3.out.trans (hb4.mono hw3.out.size))
        clear hb4 hw3
        go_wp2_with fail
        refine (M1.out _ (HE.out.below hw4.out)).mono ?_
        rintro e w5 ⟨rfl, hb5⟩
        have hw5 := Lib.hid (hw4.out.trans (hb5.mono hw4.out.size))
        clear hb5 hw4
        go_wp2_with fail
        refine (M2.out _).mono ?_
        rintro e w6 ⟨rfl, hb6⟩
        have hw6 := Lib.hid (hw5.out.trans (hb6.mono hw5.out.size))
        clear hb6 hw5
        go_wp2_with fail
        refine (PM.out _ (HE.out.below hw6.out)).mono ?_
        rintro e w7 ⟨rfl, hb7⟩
        have hw7 := Lib.hid (hw6.out.trans (hb7.mono hw6.out.size))
        clear hb7 hw6
        go_wp2_with fail
        refine (P1.out _ (HE.out.below hw7.out)).mono ?_
        rintro e w8 ⟨rfl, hb8⟩
        have hw8 := Lib.hid (hw7.out.trans (hb8.mono hw7.out.size))
        clear hb8 hw7
        go_wp2_with fail
        refine (P2.out _).mono ?_
        rintro e w9 ⟨rfl, hb9⟩
        have hw9 := Lib.hid (hw8.out.trans (hb9.mono hw8.out.size))
        clear hb9 hw8
        go_wp2_with fail
        refine (T3.out _ (HE.out.below hw9.out)).mono ?_
        rintro e w10 ⟨rfl, hb10⟩
        have hw10 := Lib.hid (hw9.out.trans (hb10.mono hw9.out.size))
        clear hb10 hw9
        go_wp2
        go_ret
        exact ⟨rfl, hw10.out⟩
      · have P1 := Lib.hid (pa hp hs)
        have P2 := Lib.hid (pr hp hs)
        have T3 := Lib.hid (ca ha)
        have g1 : (c != 0) = true := by simpa using hc
        have g2 : (c == 0) = false := by simpa using hc
        clear hc
        clear hp ha hs
        go_enter Tryd.func9, Tryd.ntmps9
        go_wp2_with fail
        refine (awake_any _ HE.out).mono ?_
        rintro e w1 ⟨rfl, hb1⟩
        have hw1 := Lib.hid hb1
        clear hb1
        go_wp2_with fail
        refine (T1.out _ (HE.out.below hw1.out)).mono ?_
        rintro e w2 ⟨rfl, hb2⟩
        have hw2 := Lib.hid (hw1.out.trans (hb2.mono hw1.out.size))
        clear hb2 hw1
        go_wp2_with fail
        refine (T2.out _).mono ?_
        rintro e w3 ⟨rfl, hb3⟩
        have hw3 := Lib.hid (hw2.out.trans (hb3.mono hw2.out.size))
        clear hb3 hw2
        go_wp2_with fail
        refine (PT.out _ (HE.out.below hw3.out)).mono ?_
        rintro e w4 ⟨rfl, hb4⟩
        have hw4 := Lib.hid (hw3.out.trans (hb4.mono hw3.out.size))
        clear hb4 hw3
        go_wp2_with fail
        refine (M1.out _ (HE.out.below hw4.out)).mono ?_
        rintro e w5 ⟨rfl, hb5⟩
        have hw5 := Lib.hid (hw4.out.trans (hb5.mono hw4.out.size))
        clear hb5 hw4
        go_wp2_with fail
        refine (M2.out _).mono ?_
        rintro e w6 ⟨rfl, hb6⟩
        have hw6 := Lib.hid (hw5.out.trans (hb6.mono hw5.out.size))
        clear hb6 hw5
        go_wp2_with fail
        refine (PM.out _ (HE.out.below hw6.out)).mono ?_
        rintro e w7 ⟨rfl, hb7⟩
        have hw7 := Lib.hid (hw6.out.trans (hb7.mono hw6.out.size))
        clear hb7 hw6
        go_wp2_with fail
        refine (P1.out _ (HE.out.below hw7.out)).mono ?_
        rintro e w8 ⟨rfl, hb8⟩
        have hw8 := Lib.hid (hw7.out.trans (hb8.mono hw7.out.size))
        clear hb8 hw7
        go_wp2_with fail
        refine (P2.out _).mono ?_
        rintro e w9 ⟨rfl, hb9⟩
        have hw9 := Lib.hid (hw8.out.trans (hb9.mono hw8.out.size))
        clear hb9 hw8
        go_wp2_with fail
        refine (T3.out _ (HE.out.below hw9.out)).mono ?_
        rintro e w10 ⟨rfl, hb10⟩
        have hw10 := Lib.hid (hw9.out.trans (hb10.mono hw9.out.size))
        clear hb10 hw9
        go_wp2
        go_ret
        exact ⟨rfl, hw10.out⟩
  · have T1 := Lib.hid (ca ht)
    have T2 := Lib.hid (cr ht)
    have PT := Lib.hid (pa pt lt)
    clear ht lt pt
    rcases mt_cases v with ⟨u, hu, lu, pu⟩ | ⟨u, hu, lu, pu⟩
    · have M1 := Lib.hid (ma hu)
      have M2 := Lib.hid (mr hu)
      have PM := Lib.hid (pa pu lu)
      clear hu lu pu
      rcases read_cases s with ⟨a, hp, ha⟩ | ⟨a, hp, ha⟩ | ⟨a, c, k, y, hp, hc, ha⟩
      · have P1 := Lib.hid (pa hp hs)
        have P2 := Lib.hid (pr hp hs)
        have T3 := Lib.hid (ma ha)
        clear hp ha hs
        go_enter Tryd.func9, Tryd.ntmps9
        go_wp2_with fail
        refine (awake_any _ HE.out).mono ?_
        rintro e w1 ⟨rfl, hb1⟩
        have hw1 := Lib.hid hb1
        clear hb1
        go_wp2_with fail
        refine (T1.out _ (HE.out.below hw1.out)).mono ?_
        rintro e w2 ⟨rfl, hb2⟩
        have hw2 := Lib.hid (hw1.out.trans (hb2.mono hw1.out.size))
        clear hb2 hw1
        go_wp2_with fail
        refine (T2.out _).mono ?_
        rintro e w3 ⟨rfl, hb3⟩
        have hw3 := Lib.hid (hw2.out.trans (hb3.mono hw2.out.size))
        clear hb3 hw2
        go_wp2_with fail
        refine (PT.out _ (HE.out.below hw3.out)).mono ?_
        rintro e w4 ⟨rfl, hb4⟩
        have hw4 := Lib.hid (hw3.out.trans (hb4.mono hw3.out.size))
        clear hb4 hw3
        go_wp2_with fail
        refine (M1.out _ (HE.out.below hw4.out)).mono ?_
        rintro e w5 ⟨rfl, hb5⟩
        have hw5 := Lib.hid (hw4.out.trans (hb5.mono hw4.out.size))
        clear hb5 hw4
        go_wp2_with fail
        refine (M2.out _).mono ?_
        rintro e w6 ⟨rfl, hb6⟩
        have hw6 := Lib.hid (hw5.out.trans (hb6.mono hw5.out.size))
        clear hb6 hw5
        go_wp2_with fail
        refine (PM.out _ (HE.out.below hw6.out)).mono ?_
        rintro e w7 ⟨rfl, hb7⟩
        have hw7 := Lib.hid (hw6.out.trans (hb7.mono hw6.out.size))
        clear hb7 hw6
        go_wp2_with fail
        refine (P1.out _ (HE.out.below hw7.out)).mono ?_
        rintro e w8 ⟨rfl, hb8⟩
        have hw8 := Lib.hid (hw7.out.trans (hb8.mono hw7.out.size))
        clear hb8 hw7
        go_wp2_with fail
        refine (P2.out _).mono ?_
        rintro e w9 ⟨rfl, hb9⟩
        have hw9 := Lib.hid (hw8.out.trans (hb9.mono hw8.out.size))
        clear hb9 hw8
        go_wp2_with fail
        refine (T3.out _ (HE.out.below hw9.out)).mono ?_
        rintro e w10 ⟨rfl, hb10⟩
        have hw10 := Lib.hid (hw9.out.trans (hb10.mono hw9.out.size))
        clear hb10 hw9
        go_wp2
        go_ret
        exact ⟨rfl, hw10.out⟩
      · have P1 := Lib.hid (pa hp hs)
        have P2 := Lib.hid (pr hp hs)
        have T3 := Lib.hid (ca ha)
        clear hp ha hs
        go_enter Tryd.func9, Tryd.ntmps9
        go_wp2_with fail
        refine (awake_any _ HE.out).mono ?_
        rintro e w1 ⟨rfl, hb1⟩
        have hw1 := Lib.hid hb1
        clear hb1
        go_wp2_with fail
        refine (T1.out _ (HE.out.below hw1.out)).mono ?_
        rintro e w2 ⟨rfl, hb2⟩
        have hw2 := Lib.hid (hw1.out.trans (hb2.mono hw1.out.size))
        clear hb2 hw1
        go_wp2_with fail
        refine (T2.out _).mono ?_
        rintro e w3 ⟨rfl, hb3⟩
        have hw3 := Lib.hid (hw2.out.trans (hb3.mono hw2.out.size))
        clear hb3 hw2
        go_wp2_with fail
        refine (PT.out _ (HE.out.below hw3.out)).mono ?_
        rintro e w4 ⟨rfl, hb4⟩
        have hw4 := Lib.hid (hw3.out.trans (hb4.mono hw3.out.size))
        clear hb4 hw3
        go_wp2_with fail
        refine (M1.out _ (HE.out.below hw4.out)).mono ?_
        rintro e w5 ⟨rfl, hb5⟩
        have hw5 := Lib.hid (hw4.out.trans (hb5.mono hw4.out.size))
        clear hb5 hw4
        go_wp2_with fail
        refine (M2.out _).mono ?_
        rintro e w6 ⟨rfl, hb6⟩
        have hw6 := Lib.hid (hw5.out.trans (hb6.mono hw5.out.size))
        clear hb6 hw5
        go_wp2_with fail
        refine (PM.out _ (HE.out.below hw6.out)).mono ?_
        rintro e w7 ⟨rfl, hb7⟩
        have hw7 := Lib.hid (hw6.out.trans (hb7.mono hw6.out.size))
        clear hb7 hw6
        go_wp2_with fail
        refine (P1.out _ (HE.out.below hw7.out)).mono ?_
        rintro e w8 ⟨rfl, hb8⟩
        have hw8 := Lib.hid (hw7.out.trans (hb8.mono hw7.out.size))
        clear hb8 hw7
        go_wp2_with fail
        refine (P2.out _).mono ?_
        rintro e w9 ⟨rfl, hb9⟩
        have hw9 := Lib.hid (hw8.out.trans (hb9.mono hw8.out.size))
        clear hb9 hw8
        go_wp2_with fail
        refine (T3.out _ (HE.out.below hw9.out)).mono ?_
        rintro e w10 ⟨rfl, hb10⟩
        have hw10 := Lib.hid (hw9.out.trans (hb10.mono hw9.out.size))
        clear hb10 hw9
        go_wp2
        go_ret
        exact ⟨rfl, hw10.out⟩
      · have P1 := Lib.hid (pa hp hs)
        have P2 := Lib.hid (pr hp hs)
        have T3 := Lib.hid (ca ha)
        have g1 : (c != 0) = true := by simpa using hc
        have g2 : (c == 0) = false := by simpa using hc
        clear hc
        clear hp ha hs
        go_enter Tryd.func9, Tryd.ntmps9
        go_wp2_with fail
        refine (awake_any _ HE.out).mono ?_
        rintro e w1 ⟨rfl, hb1⟩
        have hw1 := Lib.hid hb1
        clear hb1
        go_wp2_with fail
        refine (T1.out _ (HE.out.below hw1.out)).mono ?_
        rintro e w2 ⟨rfl, hb2⟩
        have hw2 := Lib.hid (hw1.out.trans (hb2.mono hw1.out.size))
        clear hb2 hw1
        go_wp2_with fail
        refine (T2.out _).mono ?_
        rintro e w3 ⟨rfl, hb3⟩
        have hw3 := Lib.hid (hw2.out.trans (hb3.mono hw2.out.size))
        clear hb3 hw2
        go_wp2_with fail
        refine (PT.out _ (HE.out.below hw3.out)).mono ?_
        rintro e w4 ⟨rfl, hb4⟩
        have hw4 := Lib.hid (hw3.out.trans (hb4.mono hw3.out.size))
        clear hb4 hw3
        go_wp2_with fail
        refine (M1.out _ (HE.out.below hw4.out)).mono ?_
        rintro e w5 ⟨rfl, hb5⟩
        have hw5 := Lib.hid (hw4.out.trans (hb5.mono hw4.out.size))
        clear hb5 hw4
        go_wp2_with fail
        refine (M2.out _).mono ?_
        rintro e w6 ⟨rfl, hb6⟩
        have hw6 := Lib.hid (hw5.out.trans (hb6.mono hw5.out.size))
        clear hb6 hw5
        go_wp2_with fail
        refine (PM.out _ (HE.out.below hw6.out)).mono ?_
        rintro e w7 ⟨rfl, hb7⟩
        have hw7 := Lib.hid (hw6.out.trans (hb7.mono hw6.out.size))
        clear hb7 hw6
        go_wp2_with fail
        refine (P1.out _ (HE.out.below hw7.out)).mono ?_
        rintro e w8 ⟨rfl, hb8⟩
        have hw8 := Lib.hid (hw7.out.trans (hb8.mono hw7.out.size))
        clear hb8 hw7
        go_wp2_with fail
        refine (P2.out _).mono ?_
        rintro e w9 ⟨rfl, hb9⟩
        have hw9 := Lib.hid (hw8.out.trans (hb9.mono hw8.out.size))
        clear hb9 hw8
        go_wp2_with fail
        refine (T3.out _ (HE.out.below hw9.out)).mono ?_
        rintro e w10 ⟨rfl, hb10⟩
        have hw10 := Lib.hid (hw9.out.trans (hb10.mono hw9.out.size))
        clear hb10 hw9
        go_wp2
        go_ret
        exact ⟨rfl, hw10.out⟩
    · have M1 := Lib.hid (ma hu)
      have M2 := Lib.hid (mr hu)
      have PM := Lib.hid (pa pu lu)
      clear hu lu pu
      rcases read_cases s with ⟨a, hp, ha⟩ | ⟨a, hp, ha⟩ | ⟨a, c, k, y, hp, hc, ha⟩
      · have P1 := Lib.hid (pa hp hs)
        have P2 := Lib.hid (pr hp hs)
        have T3 := Lib.hid (ma ha)
        clear hp ha hs
        go_enter Tryd.func9, Tryd.ntmps9
        go_wp2_with fail
        refine (awake_any _ HE.out).mono ?_
        rintro e w1 ⟨rfl, hb1⟩
        have hw1 := Lib.hid hb1
        clear hb1
        go_wp2_with fail
        refine (T1.out _ (HE.out.below hw1.out)).mono ?_
        rintro e w2 ⟨rfl, hb2⟩
        have hw2 := Lib.hid (hw1.out.trans (hb2.mono hw1.out.size))
        clear hb2 hw1
        go_wp2_with fail
        refine (T2.out _).mono ?_
        rintro e w3 ⟨rfl, hb3⟩
        have hw3 := Lib.hid (hw2.out.trans (hb3.mono hw2.out.size))
        clear hb3 hw2
        go_wp2_with fail
        refine (PT.out _ (HE.out.below hw3.out)).mono ?_
        rintro e w4 ⟨rfl, hb4⟩
        have hw4 := Lib.hid (hw3.out.trans (hb4.mono hw3.out.size))
        clear hb4 hw3
        go_wp2_with fail
        refine (M1.out _ (HE.out.below hw4.out)).mono ?_
        rintro e w5 ⟨rfl, hb5⟩
        have hw5 := Lib.hid (hw4.out.trans (hb5.mono hw4.out.size))
        clear hb5 hw4
        go_wp2_with fail
        refine (M2.out _).mono ?_
        rintro e w6 ⟨rfl, hb6⟩
        have hw6 := Lib.hid (hw5.out.trans (hb6.mono hw5.out.size))
        clear hb6 hw5
        go_wp2_with fail
        refine (PM.out _ (HE.out.below hw6.out)).mono ?_
        rintro e w7 ⟨rfl, hb7⟩
        have hw7 := Lib.hid (hw6.out.trans (hb7.mono hw6.out.size))
        clear hb7 hw6
        go_wp2_with fail
        refine (P1.out _ (HE.out.below hw7.out)).mono ?_
        rintro e w8 ⟨rfl, hb8⟩
        have hw8 := Lib.hid (hw7.out.trans (hb8.mono hw7.out.size))
        clear hb8 hw7
        go_wp2_with fail
        refine (P2.out _).mono ?_
        rintro e w9 ⟨rfl, hb9⟩
        have hw9 := Lib.hid (hw8.out.trans (hb9.mono hw8.out.size))
        clear hb9 hw8
        go_wp2_with fail
        refine (T3.out _ (HE.out.below hw9.out)).mono ?_
        rintro e w10 ⟨rfl, hb10⟩
        have hw10 := Lib.hid (hw9.out.trans (hb10.mono hw9.out.size))
        clear hb10 hw9
        go_wp2
        go_ret
        exact ⟨rfl, hw10.out⟩
      · have P1 := Lib.hid (pa hp hs)
        have P2 := Lib.hid (pr hp hs)
        have T3 := Lib.hid (ca ha)
        clear hp ha hs
        go_enter Tryd.func9, Tryd.ntmps9
        go_wp2_with fail
        refine (awake_any _ HE.out).mono ?_
        rintro e w1 ⟨rfl, hb1⟩
        have hw1 := Lib.hid hb1
        clear hb1
        go_wp2_with fail
        refine (T1.out _ (HE.out.below hw1.out)).mono ?_
        rintro e w2 ⟨rfl, hb2⟩
        have hw2 := Lib.hid (hw1.out.trans (hb2.mono hw1.out.size))
        clear hb2 hw1
        go_wp2_with fail
        refine (T2.out _).mono ?_
        rintro e w3 ⟨rfl, hb3⟩
        have hw3 := Lib.hid (hw2.out.trans (hb3.mono hw2.out.size))
        clear hb3 hw2
        go_wp2_with fail
        refine (PT.out _ (HE.out.below hw3.out)).mono ?_
        rintro e w4 ⟨rfl, hb4⟩
        have hw4 := Lib.hid (hw3.out.trans (hb4.mono hw3.out.size))
        clear hb4 hw3
        go_wp2_with fail
        refine (M1.out _ (HE.out.below hw4.out)).mono ?_
        rintro e w5 ⟨rfl, hb5⟩
        have hw5 := Lib.hid (hw4.out.trans (hb5.mono hw4.out.size))
        clear hb5 hw4
        go_wp2_with fail
        refine (M2.out _).mono ?_
        rintro e w6 ⟨rfl, hb6⟩
        have hw6 := Lib.hid (hw5.out.trans (hb6.mono hw5.out.size))
        clear hb6 hw5
        go_wp2_with fail
        refine (PM.out _ (HE.out.below hw6.out)).mono ?_
        rintro e w7 ⟨rfl, hb7⟩
        have hw7 := Lib.hid (hw6.out.trans (hb7.mono hw6.out.size))
        clear hb7 hw6
        go_wp2_with fail
        refine (P1.out _ (HE.out.below hw7.out)).mono ?_
        rintro e w8 ⟨rfl, hb8⟩
        have hw8 := Lib.hid (hw7.out.trans (hb8.mono hw7.out.size))
        clear hb8 hw7
        go_wp2_with fail
        refine (P2.out _).mono ?_
        rintro e w9 ⟨rfl, hb9⟩
        have hw9 := Lib.hid (hw8.out.trans (hb9.mono hw8.out.size))
        clear hb9 hw8
        go_wp2_with fail
        refine (T3.out _ (HE.out.below hw9.out)).mono ?_
        rintro e w10 ⟨rfl, hb10⟩
        have hw10 := Lib.hid (hw9.out.trans (hb10.mono hw9.out.size))
        clear hb10 hw9
        go_wp2
        go_ret
        exact ⟨rfl, hw10.out⟩
      · have P1 := Lib.hid (pa hp hs)
        have P2 := Lib.hid (pr hp hs)
        have T3 := Lib.hid (ca ha)
        have g1 : (c != 0) = true := by simpa using hc
        have g2 : (c == 0) = false := by simpa using hc
        clear hc
        clear hp ha hs
        go_enter Tryd.func9, Tryd.ntmps9
        go_wp2_with fail
        refine (awake_any _ HE.out).mono ?_
        rintro e w1 ⟨rfl, hb1⟩
        have hw1 := Lib.hid hb1
        clear hb1
        go_wp2_with fail
        refine (T1.out _ (HE.out.below hw1.out)).mono ?_
        rintro e w2 ⟨rfl, hb2⟩
        have hw2 := Lib.hid (hw1.out.trans (hb2.mono hw1.out.size))
        clear hb2 hw1
        go_wp2_with fail
        refine (T2.out _).mono ?_
        rintro e w3 ⟨rfl, hb3⟩
        have hw3 := Lib.hid (hw2.out.trans (hb3.mono hw2.out.size))
        clear hb3 hw2
        go_wp2_with fail
        refine (PT.out _ (HE.out.below hw3.out)).mono ?_
        rintro e w4 ⟨rfl, hb4⟩
        have hw4 := Lib.hid (hw3.out.trans (hb4.mono hw3.out.size))
        clear hb4 hw3
        go_wp2_with fail
        refine (M1.out _ (HE.out.below hw4.out)).mono ?_
        rintro e w5 ⟨rfl, hb5⟩
        have hw5 := Lib.hid (hw4.out.trans (hb5.mono hw4.out.size))
        clear hb5 hw4
        go_wp2_with fail
        refine (M2.out _).mono ?_
        rintro e w6 ⟨rfl, hb6⟩
        have hw6 := Lib.hid (hw5.out.trans (hb6.mono hw5.out.size))
        clear hb6 hw5
        go_wp2_with fail
        refine (PM.out _ (HE.out.below hw6.out)).mono ?_
        rintro e w7 ⟨rfl, hb7⟩
        have hw7 := Lib.hid (hw6.out.trans (hb7.mono hw6.out.size))
        clear hb7 hw6
        go_wp2_with fail
        refine (P1.out _ (HE.out.below hw7.out)).mono ?_
        rintro e w8 ⟨rfl, hb8⟩
        have hw8 := Lib.hid (hw7.out.trans (hb8.mono hw7.out.size))
        clear hb8 hw7
        go_wp2_with fail
        refine (P2.out _).mono ?_
        rintro e w9 ⟨rfl, hb9⟩
        have hw9 := Lib.hid (hw8.out.trans (hb9.mono hw8.out.size))
        clear hb9 hw8
        go_wp2_with fail
        refine (T3.out _ (HE.out.below hw9.out)).mono ?_
        rintro e w10 ⟨rfl, hb10⟩
        have hw10 := Lib.hid (hw9.out.trans (hb10.mono hw9.out.size))
        clear hb10 hw9
        go_wp2
        go_ret
        exact ⟨rfl, hw10.out⟩

/-! ### the row's step -/
set_option maxRecDepth 100000 in
theorem contract (H : Type) (enc : TypeId × Value → H) (W : World) (base : Nat) (args : Array Value) (ds gs : List (DataW H)) (before : List MemPlace)
    (hval : ∀ (j : Nat) t v, Tryd.f9.params[j]? = some t → args[j]? = some v → Value.okWide Tryd.prog W .any base t v)
    (hW : DataW.Whole enc Tryd.prog Tryd.f9.params.toList Rows.airspeedTextsSpec.vars false W args.toList ds gs before) (hL : laidMetH Tryd.prog Rows.airspeedTextsRow.laid W) (hsh : W.ShapedOpen Tryd.prog) :
    Calls Tryd.prog 9 args W fun e W' => ∃ v, e = .returned v ∧ Rows.airspeedTextsSpec.post enc Tryd.prog Tryd.f9 false true false false W args v W' := by
  have hW' := hW
  obtain ⟨p, q, hA0, hV, rfl, hfz, hnd⟩ := hW
  have hA : DataW.TrodAll enc Tryd.prog W 0 (fun _ => true) true Tryd.f9.params.toList args.toList ds p := hA0
  rw [Tryd.params9] at hA hval
  obtain ⟨v0, vs0, d0, ds0, p0, q0, hargs, rfl, rfl, h0, r0⟩ := trodAll_cons hA
  obtain ⟨v1, vs1, d1, ds1, p1, q1, rfl, rfl, rfl, h1, r1⟩ := trodAll_cons r0
  obtain ⟨rfl, rfl, rfl⟩ := trodAll_nil r1
  obtain rfl : args = #[v0, v1] := by cases args; simp_all
  obtain ⟨rfl, rfl⟩ := trodVars_none hV
  obtain ⟨a0, rfl, rfl, rfl, w0⟩ := open_int Tryd.underlying2 (hval 0 2 v0 rfl rfl) h0
  obtain ⟨s1, rfl, rfl, rfl, w1⟩ := Go.ChangeMaps.open_string Tryd.underlying9 (hval 1 9 v1 rfl rfl) h1
  clear hA0
  simp only [List.append_nil] at hW'
  refine (walk a0 s1 (bd64 w0).1 (bd64 w0).2  W (env_of hL hsh) (by have h : s1.size ≤ 2 ^ 63 - 1 := w1; omega)).mono fun e W' ⟨he, hb⟩ => ?_
  subst he
  exact ⟨_, rfl, post_of_below (pa := []) (pv := []) hW' (fun _ _ _ => trodAll_cons_mk (shut_bool Tryd.underlying4 _) trodAll_mk0) (fun sp _ => (trodAll_cons_mk (shut_int Tryd.underlying2 w0) (trodAll_cons_mk (Go.ChangeMaps.shut_string Tryd.underlying9 w1) trodAll_mk0))) (fun _ _ => rfl) rfl
    hb (ok_one (by kernel_rfl) rfl (okWide_bool_mk Tryd.underlying4 _))⟩

theorem reads (os : Os) {H : Type} (enc : TypeId × Value → H) : ∃ places, DataW.whole enc Tryd.prog ((laidWorld os).forCall (fun _ _ => 0) ⟨#[], #[.int .i64 0, .string ByteArray.empty], []⟩).memory Tryd.f9.params.toList Rows.airspeedTextsSpec.vars false (#[.int .i64 0, .string ByteArray.empty] : Array Value).toList 8 = some ([.lit (.int .i64 0), .lit (.string [])], [], places) :=
  ⟨[], by kernel_rfl⟩

set_option maxRecDepth 100000 in
theorem lifted (os : Os) (started : os.Started) (H : Type) (enc : TypeId × Value → H) (F : Stop.Interp) :
    ReturnsInHanded {} Tryd.checked os 9 .any ((OpenSpec.ofChange Rows.airspeedTextsSpec).preRow enc Tryd.prog Tryd.f9 Rows.airspeedTextsRow.domain false Rows.airspeedTextsRow.laid) (((OpenSpec.ofChange Rows.airspeedTextsSpec).at F).post enc Tryd.prog Tryd.f9 false true false false) := by
  obtain ⟨places, hx⟩ := reads os enc
  refine returnsInHanded_of_row (C := Tryd.checked) (s := OpenSpec.ofChange Rows.airspeedTextsSpec) own started (by kernel_rfl) Tryd.func9
    (witness_row_at (enc := enc) (C := Tryd.checked) false (laidWorld os) #[.int .i64 0, .string ByteArray.empty] rfl (by kernel_rfl) (by kernel_rfl) (by kernel_rfl)
      (OpenSpec.preRow_of_cond 8 hx (by kernel_rfl) (fun k hk => by cases hk) (by kernel_rfl) (laid_met_any os _))) ?_
  intro W base args ds gs before hval hW _ _ _ hL hsh _
  exact contract H enc W base args ds gs before hval hW hL hsh

theorem said : Rows.AirspeedTextsSaid :=
  OpenClaim.holds_of_cond 9 Tryd.f9 rfl rfl rfl rfl rfl rfl rfl ⟨rfl, rfl, rfl, rfl, rfl⟩ rfl rfl rfl rfl rfl (by kernel_rfl) Tryd.func9 (by kernel_rfl)
    (of_decide_eq_true (by kernel_rfl)) (by unfold Func.isWrapper; first | (rw [if_pos (by decide +kernel)]; kernel_rfl) | (rw [if_neg (by decide +kernel)]; exact ⟨rfl, rfl⟩))
    (fun os started H enc _ F => by rw [OpenClaim.pre_eq_preRow]; exact lifted os started H enc F)

theorem plain (f : FuncId) (fn : Func) (hf : Tryd.pinned.checked.prog.funcNamed "flightdeck/flightdecklaw30.AirspeedTexts" = some f) (hfn : Tryd.pinned.checked.prog.funcs[f]? = some fn) :
    false = Tryd.pinned.checked.prog.looks [] ∧ ∀ (j : Nat) t, fn.params[j]? = some t → Tryd.pinned.checked.prog.wantsStandIn t = false := by
  obtain rfl : f = 9 := Option.some.inj ((show Tryd.prog.funcNamed "flightdeck/flightdecklaw30.AirspeedTexts" = some 9 by kernel_rfl).symm.trans hf) |>.symm
  obtain rfl : fn = Tryd.f9 := (Option.some.inj (Tryd.func9.symm.trans hfn)).symm
  refine ⟨by kernel_rfl, fun j t ht => ?_⟩
  rw [Tryd.params9] at ht
  have hm := Array.mem_of_getElem? ht
  simp only [List.mem_toArray, List.mem_cons, List.not_mem_nil, or_false] at hm
  rcases hm with rfl | rfl
  · exact (show Tryd.prog.wantsStandIn 2 = false by kernel_rfl)
  · exact (show Tryd.prog.wantsStandIn 9 = false by kernel_rfl)
/-- the law -/
theorem card : Rows.AirspeedTextsCardSaid :=
  Claim7.holds_tied_plain_at .later [] _ _ _ _ said (fun _ h => by cases h) (by kernel_rfl) (fun _ h => by cases h) airspeedTexts_row_tie rfl ⟨rfl, rfl⟩ (by kernel_rfl) rfl plain (by kernel_rfl)
end Go.Proofs.YtnaokohffelklaaDoor.airspeedTexts
