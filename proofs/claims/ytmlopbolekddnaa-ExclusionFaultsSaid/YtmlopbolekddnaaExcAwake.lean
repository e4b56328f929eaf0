/-
  The walks of three and awake.
-/
import Derived.Test.YtmlopbolekddnaaExcThree
namespace Go.Proofs.Ytmlopbolekddnaa
set_option linter.unusedVariables false
open Go.RowKit

theorem om_some {B : Nat} {w : World} {v : Value} {l : List Ms} (h : OM B w v l) (hn : 0 < l.length) : ∃ g cap, v = .slice (some ⟨g, 0, none⟩) l.length cap ∧ l.length ≤ cap ∧ cap ≤ 9223372036854775807 ∧ B ≤ g ∧ MsAt l g 0 w := by
  rcases om_cases h with ⟨_, rfl⟩ | ⟨g, cap, h1, h2, h3, h4, h5, _⟩
  · exact absurd hn (by simp)
  · exact ⟨g, cap, h1, h2, h3, h4, h5⟩
set_option maxHeartbeats 4000000 in
theorem three_any (b : Int) (w : World) (b0 : 0 ≤ b) (b1 : b ≤ 1000) :
    Calls Try.prog 32 #[.int .i64 b] w fun e w' => (∃ u, e = .returned u ∧ OM w.heap.size w' u (threeL b)) ∧ Below w.heap.size w w' := by
  have P1 := Lib.hid fun w => pos_any 1 0 0 b w (by omega) (by omega) ⟨b0, b1⟩
  have P2 := Lib.hid fun w => pos_any 2 100 0 b w (by omega) (by omega) ⟨b0, b1⟩
  have P3 := Lib.hid fun w => pos_any 3 20 60 b w (by omega) (by omega) ⟨b0, b1⟩
  go_enter Try.func32, Try.ntmps32
  go_wp2_with fail
  refine (P1.out _).mono ?_
  rintro e w1 ⟨⟨u1, rfl, h1⟩, hb1⟩
  have H1 := Lib.hid h1
  have HB1 := Lib.hid hb1
  obtain ⟨g1, c1, rfl, _⟩ := om_some h1 (by show 0 < 2; omega)
  clear h1 hb1
  go_wp2_with fail
  refine (P2.out _).mono ?_
  rintro e w2 ⟨⟨u2, rfl, h2⟩, hb2⟩
  have H12 := Lib.hid (H1.out.below hb2)
  have HB2 := Lib.hid (HB1.out.trans (hb2.mono HB1.out.size))
  obtain ⟨g2, c2, rfl, _, _, _, m2⟩ := om_some h2 (by show 0 < 2; omega)
  have M2 := Lib.hid m2
  clear h2 hb2 m2
  go_wp2_with (at_builtin; refine Halt.mk ?_)
  unfold Halt
  refine wpList_oms rfl (.tmp 4) (.tmp 6) rfl w.heap.size _ (posL 1 0 0 b) (posL 2 100 0 b) rfl w2 H12.out g2 c2 rfl M2.out (by show 2 ≤ 1000; omega) (by show 2 ≤ 1000; omega) HB2.out.size ?_
  intro u3 w3 h3 hg3
  have H3 := Lib.hid h3
  have HB3 := Lib.hid (below_grown HB2.out hg3 HB2.out.size (fun k hk => (World.ownsRow.lt H12.out k hk).1))
  obtain ⟨g3, c3, rfl, _⟩ := om_some h3 (by show 0 < 4; omega)
  clear h3 hg3
  go_wp2_with fail
  refine (P3.out _).mono ?_
  rintro e w4 ⟨⟨u4, rfl, h4⟩, hb4⟩
  have H34 := Lib.hid (H3.out.below hb4)
  have HB4 := Lib.hid (HB3.out.trans (hb4.mono HB3.out.size))
  obtain ⟨g4, c4, rfl, _, _, _, m4⟩ := om_some h4 (by show 0 < 2; omega)
  have M4 := Lib.hid m4
  clear h4 hb4 m4
  go_wp2_with (at_builtin; refine Halt.mk ?_)
  unfold Halt
  refine wpList_oms rfl (.tmp 7) (.tmp 9) rfl w.heap.size _ (posL 1 0 0 b ++ posL 2 100 0 b) (posL 3 20 60 b) rfl w4 H34.out g4 c4 rfl M4.out (by show 4 ≤ 1000; omega) (by show 2 ≤ 1000; omega) HB4.out.size ?_
  intro u5 w5 h5 hg5
  have H5 := Lib.hid h5
  have HB5 := Lib.hid (below_grown HB4.out hg5 HB4.out.size (fun k hk => (World.ownsRow.lt H34.out k hk).1))
  obtain ⟨g5, c5, rfl, _⟩ := om_some h5 (by show 0 < 6; omega)
  clear h5 hg5
  go_wp2
  go_ret
  exact ⟨⟨_, rfl, H5.out⟩, HB5.out⟩
set_option maxHeartbeats 4000000 in
theorem awake_any (w : World) : Calls Try.prog 13 #[] w fun e w' => e = .returned (.bool true) ∧ Below w.heap.size w w' := by
  have T1 := Lib.hid fun w => three_any 10 w (by omega) (by omega)
  have T3 := Lib.hid fun w => three_any 30 w (by omega) (by omega)
  have CO := Lib.hid fun v w h => con_any (threeL 10) v w h
  have F1 := Lib.hid fun v w h => flt_any (threeL 10) v w h
  have F3 := Lib.hid fun v w h => flt_any (threeL 30) v w h
  have DE := Lib.hid fun v w h => det_any ((threeL 10).take 4) 1 v w h
  have RA := Lib.hid fun v w h => range_any (((threeL 10).take 4).drop 2) 1 (-2) v w h
  unfold RetI FlP DtP at *
  rw [ex_con] at CO
  rw [ex_flt1] at F1
  rw [ex_flt3] at F3
  rw [ex_det] at DE
  rw [ex_rng] at RA
  go_enter Try.func13, Try.ntmps13
  go_wp2_with fail
  refine (T1.out _).mono ?_
  rintro e w1 ⟨⟨u1, rfl, h1⟩, hb1⟩
  have HB1 := Lib.hid hb1
  have L1 := Lib.hid h1.lst
  clear h1 hb1
  go_wp2_with fail
  refine (CO.out _ _ L1.out).mono ?_
  rintro e w2 ⟨rfl, hb2⟩
  have HB2 := Lib.hid (HB1.out.trans (hb2.mono HB1.out.size))
  clear hb2
  go_wp2_with fail
  refine (T1.out _).mono ?_
  rintro e w3 ⟨⟨u3, rfl, h3⟩, hb3⟩
  have HB3 := Lib.hid (HB2.out.trans (hb3.mono HB2.out.size))
  have L3 := Lib.hid h3.lst
  clear h3 hb3
  go_wp2_with fail
  refine (F1.out _ _ L3.out).mono ?_
  rintro e w4 ⟨rfl, hb4⟩
  have HB4 := Lib.hid (HB3.out.trans (hb4.mono HB3.out.size))
  clear hb4
  go_wp2_with fail
  refine (T3.out _).mono ?_
  rintro e w5 ⟨⟨u5, rfl, h5⟩, hb5⟩
  have HB5 := Lib.hid (HB4.out.trans (hb5.mono HB4.out.size))
  have L5 := Lib.hid h5.lst
  clear h5 hb5
  go_wp2_with fail
  refine (F3.out _ _ L5.out).mono ?_
  rintro e w6 ⟨rfl, hb6⟩
  have HB6 := Lib.hid (HB5.out.trans (hb6.mono HB5.out.size))
  clear hb6
  go_wp2_with fail
  refine (T1.out _).mono ?_
  rintro e w7 ⟨⟨u7, rfl, h7⟩, hb7⟩
  have HB7 := Lib.hid (HB6.out.trans (hb7.mono HB6.out.size))
  obtain ⟨g7, c7, rfl, k7, k7m, _, m7⟩ := om_some h7 (by show 0 < 6; omega)
  have e6 : (threeL 10).length = 6 := rfl
  rw [e6] at k7 ⊢
  have L7 := Lib.hid (show LstAt ((threeL 10).take 4) (.slice (some ⟨g7, 0, none⟩) 4 c7) w7 from .inr ⟨g7, 0, c7, rfl, by show 4 ≤ c7; omega, k7m, m7.take 4⟩)
  clear h7 hb7 m7
  go_wp2_with fail
  refine (DE.out _ _ L7.out).mono ?_
  rintro e w8 ⟨rfl, hb8⟩
  have HB8 := Lib.hid (HB7.out.trans (hb8.mono HB7.out.size))
  clear hb8
  go_wp2_with fail
  refine (T1.out _).mono ?_
  rintro e w9 ⟨⟨u9, rfl, h9⟩, hb9⟩
  have HB9 := Lib.hid (HB8.out.trans (hb9.mono HB8.out.size))
  obtain ⟨g9, c9, rfl, k9, k9m, _, m9⟩ := om_some h9 (by show 0 < 6; omega)
  rw [e6] at k9 ⊢
  have L9 := Lib.hid (show LstAt (((threeL 10).take 4).drop 2) (.slice (some ⟨g9, 12, none⟩) 2 (c9 - 2)) w9 from .inr ⟨g9, 12, c9 - 2, rfl, by show 2 ≤ c9 - 2; omega, by omega, by have := (m9.take 4).drop 2; simpa using this⟩)
  clear h9 hb9 m9
  have q9 : 2 ≤ c9 := by omega
  go_wp2_with fail
  refine (RA.out _ _ L9.out).mono ?_
  rintro e w10 ⟨rfl, hb10⟩
  have HB10 := Lib.hid (HB9.out.trans (hb10.mono HB9.out.size))
  clear hb10
  go_wp2
  go_ret
  exact ⟨rfl, HB10.out.alloc HB10.out.size _⟩
end Go.Proofs.Ytmlopbolekddnaa
