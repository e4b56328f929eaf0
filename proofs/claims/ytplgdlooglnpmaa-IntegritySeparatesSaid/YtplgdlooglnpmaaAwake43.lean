/-
  The walk of awake.
-/
import Derived.Test.YtplgdlooglnpmaaSep43
import Derived.Test.YtplgdlooglnpmaaPos43
namespace Go.Proofs.Ytplgdlooglnpmaa
set_option linter.unusedVariables false
open Go.RowKit

set_option maxHeartbeats 8000000 in
set_option maxRecDepth 100000 in
theorem awake_any (w : World) : Calls Try.prog 9 #[] w fun e w' => e = .returned (.bool true) ∧ Below w.heap.size w w' := by
  have P1 := Lib.hid fun w => pos_any 1 0 0 w (by omega) (by omega)
  have P2 := Lib.hid fun w => pos_any 2 100 0 w (by omega) (by omega)
  have P3 := Lib.hid fun w => pos_any 3 20 60 w (by omega) (by omega)
  have LV := Lib.hid fun v w h => lev_any thrL v w h
  have AC := Lib.hid fun v w h => acc_any thrL v w h
  have SP := Lib.hid fun v w h => sep_any thrL 2 v w h
  have L2 := Lib.hid fun v w h => lev_any (thrL.take 2) v w h
  rw [lev_thr] at LV
  rw [acc_thr] at AC
  rw [sep_thr] at SP
  have e2 : levF (thrL.take 2) = (box0, 14) := by
    have a := lev_two
    have b := bad_lev (thrL.take 2)
    rcases b with b | b
    · rw [a] at b; cases b
    · exact Prod.ext b a
  rw [e2] at L2
  clear e2
  unfold boxV box0 at *
  simp only at LV AC SP L2
  go_enter Try.func9, Try.ntmps9
  go_wp2_with fail
  refine (P1.out _).mono ?_
  rintro e w1 ⟨⟨u1, rfl, h1⟩, hb1⟩
  have H1 := Lib.hid h1
  have HB1 := Lib.hid hb1
  obtain ⟨g1, c1, rfl, _⟩ := om_some h1 (by show 0 < 2; omega)
  clear h1 hb1
  go_wp2_with fail
  refine (P2.out _).mono ?_
  rintro e w2 ⟨⟨u2, rfl, h2⟩, hb2⟩
  have H12 := Lib.hid (H1.out.below hb2)
  have HB2 := Lib.hid (HB1.out.trans (hb2.mono HB1.out.size))
  obtain ⟨g2, c2, rfl, _, _, _, m2⟩ := om_some h2 (by show 0 < 2; omega)
  have M2 := Lib.hid m2
  clear h2 hb2 m2
  go_wp2_with (at_builtin; refine Halt.mk ?_)
  unfold Halt
  refine wpList_oms rfl (.tmp 11) (.tmp 12) rfl w.heap.size _ (posL 1 0 0) (posL 2 100 0) rfl w2 H12.out g2 c2 rfl M2.out (by show 2 ≤ 1000; omega) (by show 2 ≤ 1000; omega) HB2.out.size ?_
  intro u3 w3 h3 hg3
  have H3 := Lib.hid h3
  have HB3 := Lib.hid (below_grown HB2.out hg3 HB2.out.size (fun k hk => (World.ownsRow.lt H12.out k hk).1))
  obtain ⟨g3, c3, rfl, _⟩ := om_some h3 (by show 0 < 4; omega)
  clear h3 hg3
  go_wp2_with fail
  refine (P3.out _).mono ?_
  rintro e w4 ⟨⟨u4, rfl, h4⟩, hb4⟩
  have H34 := Lib.hid (H3.out.below hb4)
  have HB4 := Lib.hid (HB3.out.trans (hb4.mono HB3.out.size))
  obtain ⟨g4, c4, rfl, _, _, _, m4⟩ := om_some h4 (by show 0 < 2; omega)
  have M4 := Lib.hid m4
  clear h4 hb4 m4
  go_wp2_with (at_builtin; refine Halt.mk ?_)
  unfold Halt
  refine wpList_oms rfl (.tmp 13) (.tmp 14) rfl w.heap.size _ (posL 1 0 0 ++ posL 2 100 0) (posL 3 20 60) rfl w4 H34.out g4 c4 rfl M4.out (by show 4 ≤ 1000; omega) (by show 2 ≤ 1000; omega) HB4.out.size ?_
  intro u5 w5 h5 hg5
  have H5 := Lib.hid h5
  have HB5 := Lib.hid (below_grown HB4.out hg5 HB4.out.size (fun k hk => (World.ownsRow.lt H34.out k hk).1))
  obtain ⟨g5, c5, rfl, k5, k5m, _, m5⟩ := om_some h5 (by show 0 < 6; omega)
  have e6 : (posL 1 0 0 ++ posL 2 100 0 ++ posL 3 20 60).length = 6 := rfl
  rw [e6] at k5 ⊢
  have L5 := Lib.hid (show LstAt thrL (.slice (some ⟨g5, 0, none⟩) 6 c5) w5 from .inr ⟨g5, 0, c5, rfl, by show 6 ≤ c5; omega, k5m, m5⟩)
  have M5 := Lib.hid (show LstAt (thrL.take 2) (.slice (some ⟨g5, 0, none⟩) 2 c5) w5 from .inr ⟨g5, 0, c5, rfl, by show 2 ≤ c5; omega, k5m, m5.take 2⟩)
  have k2 : 2 ≤ c5 := by omega
  clear h5 hg5 m5 H5 e6
  have HB := HB5
  clear HB5
  go_wp2_with fail
  refine (LV.out _ _ L5.out).mono ?_
  rintro e6 w6 ⟨rfl, hb6⟩
  replace HB := Lib.hid (HB.out.trans (hb6.mono HB.out.size))
  replace L5 := Lib.hid (L5.out.below hb6)
  replace M5 := Lib.hid (M5.out.below hb6)
  clear hb6
  go_wp2_with fail
  have KB := Lib.hid (Blk.of (vs := #[.int .i64 40, .int .i64 20, .int .i64 40, .int .i64 30]) (t := 32) (w := w6) (b := w6.heap.size) rfl)
  have hb7 : Below w6.heap.size w6 (w6.alloc (.cells #[.int .i64 40, .int .i64 20, .int .i64 40, .int .i64 30] 32)) := (Below.refl _ _).alloc (Nat.le_refl _) _
  have hnB := HB.out.size
  replace HB := Lib.hid (HB.out.trans (hb7.mono HB.out.size))
  replace L5 := Lib.hid (L5.out.below hb7)
  replace M5 := Lib.hid (M5.out.below hb7)
  clear hb7
  generalize w6.alloc (.cells #[.int .i64 40, .int .i64 20, .int .i64 40, .int .i64 30] 32) = w7 at *
  generalize w6.heap.size = bB at *
  refine (AC.out _ _ L5.out).mono ?_
  rintro e8 w8 ⟨rfl, hb8⟩
  replace HB := Lib.hid (HB.out.trans (hb8.mono HB.out.size))
  replace KB := Lib.hid (KB.out.below hb8)
  replace L5 := Lib.hid (L5.out.below hb8)
  replace M5 := Lib.hid (M5.out.below hb8)
  clear hb8
  go_wp2_with fail
  have KA := Lib.hid (Blk.of (vs := #[.int .i64 40, .int .i64 20, .int .i64 10, .int .i64 10]) (t := 32) (w := w8) (b := w8.heap.size) rfl)
  have hb9 : Below w8.heap.size w8 (w8.alloc (.cells #[.int .i64 40, .int .i64 20, .int .i64 10, .int .i64 10] 32)) := (Below.refl _ _).alloc (Nat.le_refl _) _
  have hnA := HB.out.size
  have nzA_B := KB.out.lt
  replace HB := Lib.hid (HB.out.trans (hb9.mono HB.out.size))
  replace KB := Lib.hid (KB.out.below hb9)
  replace L5 := Lib.hid (L5.out.below hb9)
  replace M5 := Lib.hid (M5.out.below hb9)
  clear hb9
  generalize w8.alloc (.cells #[.int .i64 40, .int .i64 20, .int .i64 10, .int .i64 10] 32) = w9 at *
  generalize w8.heap.size = bA at *
  have neA_B : bA ≠ bB := by omega
  clear nzA_B
  refine (SP.out _ _ L5.out).mono ?_
  rintro e10 w10 ⟨rfl, hb10⟩
  replace HB := Lib.hid (HB.out.trans (hb10.mono HB.out.size))
  replace KB := Lib.hid (KB.out.below hb10)
  replace KA := Lib.hid (KA.out.below hb10)
  replace L5 := Lib.hid (L5.out.below hb10)
  replace M5 := Lib.hid (M5.out.below hb10)
  clear hb10
  go_wp2_with fail
  refine (L2.out _ _ M5.out).mono ?_
  rintro e11 w11 ⟨rfl, hb11⟩
  replace HB := Lib.hid (HB.out.trans (hb11.mono HB.out.size))
  replace KB := Lib.hid (KB.out.below hb11)
  replace KA := Lib.hid (KA.out.below hb11)
  replace L5 := Lib.hid (L5.out.below hb11)
  replace M5 := Lib.hid (M5.out.below hb11)
  clear hb11
  have yB := KB.out
  have yB_0 := yB.c 0 _ rfl
  have yB_1 := yB.c 1 _ rfl
  have yB_2 := yB.c 2 _ rfl
  have yB_3 := yB.c 3 _ rfl
  have yB_z := yB.lt
  clear yB
  have yA := KA.out
  have yA_0 := yA.c 0 _ rfl
  have yA_1 := yA.c 1 _ rfl
  have yA_2 := yA.c 2 _ rfl
  have yA_3 := yA.c 3 _ rfl
  have yA_z := yA.lt
  clear yA
  go_wp2
  go_ret
  exact ⟨rfl, HB.out.alloc HB.out.size _⟩
end Go.Proofs.Ytplgdlooglnpmaa
