/-
  The walks of the reference's DivUp and Nearest of layer 2.
-/
import Derived.Test.YtplgdlooglnpmaaRefQuoA
import Derived.Test.YtplgdlooglnpmaaRefQuoB
import Derived.Test.YtplgdlooglnpmaaWideRound
namespace Go.Proofs.Ytplgdlooglnpmaa
set_option linter.unusedVariables false
open Go.RowKit

theorem quo_parts {x d : Int} (hx0 : -85070591730234615865843651857942052864 < x) (hx : x < 85070591730234615865843651857942052864) (hd : 0 < d) :
    0 ≤ absW x / d ∧ absW x / d < 85070591730234615865843651857942052864 ∧ 0 ≤ absW x % d ∧ absW x % d < d := by
  have ax0 := absW_nonneg x
  have ax1 : absW x < 85070591730234615865843651857942052864 := by unfold absW; split <;> omega
  refine ⟨Int.ediv_nonneg ax0 (by omega), ?_, Int.emod_nonneg _ (by omega), Int.emod_lt_of_pos _ hd⟩
  exact Int.lt_of_le_of_lt (Int.ediv_le_self _ ax0) ax1
/-- rounded up -/
theorem rquo_up (x d : Int) (w : World) (hx0 : 0 ≤ x) (hx : x < 85070591730234615865843651857942052864) (hd : 0 < d) (hd1 : d < 9223372036854775808) :
    Calls Try.prog 91 #[wv x, .agg #[.int .i64 0, .int .u64 d], .int .i64 1] w fun e w' => e = .returned (.tuple #[wv (ceilI x d), .bool true]) ∧ Below w.heap.size w w' := by
  have W := quo_world (x := x) (d := d) (q := absW x / d) (r := absW x % d) (by omega) hx hd hd1 rfl rfl
  obtain ⟨p0, p1, p2, p3⟩ := quo_parts (x := x) (by omega) hx hd
  have ea : absW x = x := by unfold absW; rw [if_neg (by omega)]
  have U := up_pos (x := x) hd
  rw [ea] at W p0 p1 p2 p3
  by_cases hr : x % d = 0
  · exact quo_upP0lt x d _ _ _ w W hx0 p0 p1 hr p2 p3 hd1 (by rw [U, if_neg (by omega)]; unfold sgn; simp)
  · exact quo_upP1lt x d _ _ _ w W hx0 p0 p1 hr p2 p3 hd1 (by rw [U, if_pos hr]; unfold sgn; simp)
/-- rounded to the nearest -/
theorem rquo_near (x d : Int) (w : World) (hx0 : -85070591730234615865843651857942052864 < x) (hx : x < 85070591730234615865843651857942052864) (hd : 0 < d) (hd1 : d < 9223372036854775808) :
    Calls Try.prog 91 #[wv x, .agg #[.int .i64 0, .int .u64 d], .int .i64 2] w fun e w' => e = .returned (.tuple #[wv (nearI2 x d), .bool true]) ∧ Below w.heap.size w w' := by
  have W := quo_world (x := x) (d := d) (q := absW x / d) (r := absW x % d) hx0 hx hd hd1 rfl rfl
  obtain ⟨p0, p1, p2, p3⟩ := quo_parts (x := x) hx0 hx hd
  by_cases hn : x < 0
  · have U := near_negW (x := x) hd
    have ea : absW x = -x := by unfold absW; rw [if_pos hn]
    rw [ea] at W p0 p1 p2 p3
    generalize (-x) / d = q at *
    generalize (-x) % d = r at *
    by_cases hr : r = 0
    · exact quo_nearN0lt x d _ _ _ w W hn p0 p1 hr p2 p3 hd1 (by omega) (by rw [U, if_neg (by omega)]; unfold sgn; simp)
    · rcases Int.lt_trichotomy r (d - r) with h | h | h
      · exact quo_nearN1lt x d _ _ _ w W hn p0 p1 hr p2 p3 hd1 h (by rw [U, if_neg (by omega)]; unfold sgn; simp)
      · exact quo_nearN1eq x d _ _ _ w W hn p0 p1 hr p2 p3 hd1 h (by rw [U, if_neg (by omega)]; unfold sgn; simp)
      · exact quo_nearN1gt x d _ _ _ w W hn p0 p1 hr p2 p3 hd1 h (by rw [U, if_pos (by omega)]; unfold sgn; simp)
  · have U := near_posW (x := x) hd
    have ea : absW x = x := by unfold absW; rw [if_neg hn]
    have hp : 0 ≤ x := by omega
    rw [ea] at W p0 p1 p2 p3
    generalize x / d = q at *
    generalize x % d = r at *
    by_cases hr : r = 0
    · exact quo_nearP0lt x d _ _ _ w W hp p0 p1 hr p2 p3 hd1 (by omega) (by rw [U, if_neg (by omega)]; unfold sgn; simp)
    · rcases Int.lt_trichotomy r (d - r) with h | h | h
      · exact quo_nearP1lt x d _ _ _ w W hp p0 p1 hr p2 p3 hd1 h (by rw [U, if_neg (by omega)]; unfold sgn; simp)
      · exact quo_nearP1eq x d _ _ _ w W hp p0 p1 hr p2 p3 hd1 h (by rw [U, if_pos (by omega)]; unfold sgn; simp)
      · exact quo_nearP1gt x d _ _ _ w W hp p0 p1 hr p2 p3 hd1 h (by rw [U, if_pos (by omega)]; unfold sgn; simp)
set_option maxHeartbeats 8000000 in
set_option maxRecDepth 100000 in
theorem rdivup_any (x d : Int) (w : World) (hx0 : 0 ≤ x) (hx : x < 85070591730234615865843651857942052864) (hd : 0 < d) (hd1 : d < 9223372036854775808) :
    Calls Try.prog 73 #[wv x, wv d] w fun e w' => e = .returned (.tuple #[wv (ceilI x d), .bool true]) ∧ Below w.heap.size w w' := by
  have DV := Lib.hid fun w => rquo_up x d w hx0 hx hd hd1
  have ed : wv d = .agg #[.int .i64 0, .int .u64 d] := by unfold wv; rw [(small_words (d := d) (by omega) hd1).1, (small_words (d := d) (by omega) hd1).2]
  rw [ed]
  generalize ceilI x d = v at *
  clear hx0 hx hd hd1 ed
  unfold wv at DV ⊢
  have KX := Lib.hid (((Blk.of (vs := #[.int .i64 (hiW x), .int .u64 (loW x)]) (t := 51) (w := w) (b := w.heap.size) (by simp)).alloc (.cells #[.int .i64 0, .int .u64 d] 51)).alloc (.cells #[.int .i64 0, .int .u64 0] 51))
  have KY := Lib.hid ((Blk.of (vs := #[.int .i64 0, .int .u64 d]) (t := 51) (w := (w.alloc (.cells #[.int .i64 (hiW x), .int .u64 (loW x)] 51))) (b := w.heap.size + 1) (by simp)).alloc (.cells #[.int .i64 0, .int .u64 0] 51))
  have KZ := Lib.hid (Blk.of (vs := #[.int .i64 0, .int .u64 0]) (t := 51) (w := ((w.alloc (.cells #[.int .i64 (hiW x), .int .u64 (loW x)] 51)).alloc (.cells #[.int .i64 0, .int .u64 d] 51))) (b := w.heap.size + 1 + 1) (by simp))
  have HB := Lib.hid ((((Below.refl w.heap.size w).alloc (by simp; try omega) (.cells #[.int .i64 (hiW x), .int .u64 (loW x)] 51)).alloc (by simp; try omega) (.cells #[.int .i64 0, .int .u64 d] 51)).alloc (by simp; try omega) (.cells #[.int .i64 0, .int .u64 0] 51))
  go_enter Try.func73, Try.ntmps73
  go_wp2_with fail
  generalize ((w.alloc (.cells #[.int .i64 (hiW x), .int .u64 (loW x)] 51)).alloc (.cells #[.int .i64 0, .int .u64 d] 51)).alloc (.cells #[.int .i64 0, .int .u64 0] 51) = w0 at *
  refine (DV.out _).mono ?_
  rintro e1 w1 ⟨rfl, hb1⟩
  replace HB := Lib.hid (HB.out.trans (hb1.mono HB.out.size))
  replace KX := Lib.hid (KX.out.below hb1)
  replace KY := Lib.hid (KY.out.below hb1)
  replace KZ := Lib.hid (KZ.out.below hb1)
  clear hb1
  have yZ := KZ.out
  have yZ_0 := yZ.c 0 _ rfl
  have yZ_1 := yZ.c 1 _ rfl
  have yZ_z := yZ.lt
  have yZ_f0 := yZ.f 0 _ rfl
  have yZ_f1 := yZ.f 1 _ rfl
  clear yZ
  go_wp2
  replace KX := Lib.hid (blk_other (b := w.heap.size) (n := (w.heap.size + 1 + 1)) (j := 1) (blk_other (b := w.heap.size) (n := (w.heap.size + 1 + 1)) (j := 0) KX.out (by omega) (.int .i64 (hiW v))) (by omega) (.int .u64 (loW v)))
  replace KY := Lib.hid (blk_other (b := (w.heap.size + 1)) (n := (w.heap.size + 1 + 1)) (j := 1) (blk_other (b := (w.heap.size + 1)) (n := (w.heap.size + 1 + 1)) (j := 0) KY.out (by omega) (.int .i64 (hiW v))) (by omega) (.int .u64 (loW v)))
  replace KZ := Lib.hid (blk_set (blk_set KZ.out (j := 0) (by simp) (.int .i64 (hiW v))) (j := 1) (by simp) (.int .u64 (loW v)))
  replace HB := Lib.hid ((HB.out.setCell (p := ⟨(w.heap.size + 1 + 1), 0, none⟩) (show w.heap.size ≤ (w.heap.size + 1 + 1) by omega) (.int .i64 (hiW v))).setCell (p := ⟨(w.heap.size + 1 + 1), 1, none⟩) (show w.heap.size ≤ (w.heap.size + 1 + 1) by omega) (.int .u64 (loW v)))
  clear yZ_0 yZ_1 yZ_z yZ_f0 yZ_f1
  generalize (w1.setCell ⟨(w.heap.size + 1 + 1), 0, none⟩ (.int .i64 (hiW v))).setCell ⟨(w.heap.size + 1 + 1), 1, none⟩ (.int .u64 (loW v)) = w2 at *
  simp only [List.set] at KZ
  have yZ := KZ.out
  have yZ_0 := yZ.c 0 _ rfl
  have yZ_1 := yZ.c 1 _ rfl
  have yZ_z := yZ.lt
  clear yZ
  refine bodyPost_ret (v := .tuple #[.agg #[.int .i64 (hiW v), .int .u64 (loW v)], .bool true]) (by simp [results, Try.results73, go_sem, yZ_0, yZ_1]) rfl ⟨rfl, HB.out⟩
set_option maxHeartbeats 8000000 in
set_option maxRecDepth 100000 in
theorem rnear_any (x d : Int) (w : World) (hx0 : -85070591730234615865843651857942052864 < x) (hx : x < 85070591730234615865843651857942052864) (hd : 0 < d) (hd1 : d < 9223372036854775808) :
    Calls Try.prog 69 #[wv x, wv d] w fun e w' => e = .returned (.tuple #[wv (nearI2 x d), .bool true]) ∧ Below w.heap.size w w' := by
  have DV := Lib.hid fun w => rquo_near x d w hx0 hx hd hd1
  have ed : wv d = .agg #[.int .i64 0, .int .u64 d] := by unfold wv; rw [(small_words (d := d) (by omega) hd1).1, (small_words (d := d) (by omega) hd1).2]
  rw [ed]
  generalize nearI2 x d = v at *
  clear hx0 hx hd hd1 ed
  unfold wv at DV ⊢
  have KX := Lib.hid (((Blk.of (vs := #[.int .i64 (hiW x), .int .u64 (loW x)]) (t := 51) (w := w) (b := w.heap.size) (by simp)).alloc (.cells #[.int .i64 0, .int .u64 d] 51)).alloc (.cells #[.int .i64 0, .int .u64 0] 51))
  have KY := Lib.hid ((Blk.of (vs := #[.int .i64 0, .int .u64 d]) (t := 51) (w := (w.alloc (.cells #[.int .i64 (hiW x), .int .u64 (loW x)] 51))) (b := w.heap.size + 1) (by simp)).alloc (.cells #[.int .i64 0, .int .u64 0] 51))
  have KZ := Lib.hid (Blk.of (vs := #[.int .i64 0, .int .u64 0]) (t := 51) (w := ((w.alloc (.cells #[.int .i64 (hiW x), .int .u64 (loW x)] 51)).alloc (.cells #[.int .i64 0, .int .u64 d] 51))) (b := w.heap.size + 1 + 1) (by simp))
  have HB := Lib.hid ((((Below.refl w.heap.size w).alloc (by simp; try omega) (.cells #[.int .i64 (hiW x), .int .u64 (loW x)] 51)).alloc (by simp; try omega) (.cells #[.int .i64 0, .int .u64 d] 51)).alloc (by simp; try omega) (.cells #[.int .i64 0, .int .u64 0] 51))
  go_enter Try.func69, Try.ntmps69
  go_wp2_with fail
  generalize ((w.alloc (.cells #[.int .i64 (hiW x), .int .u64 (loW x)] 51)).alloc (.cells #[.int .i64 0, .int .u64 d] 51)).alloc (.cells #[.int .i64 0, .int .u64 0] 51) = w0 at *
  refine (DV.out _).mono ?_
  rintro e1 w1 ⟨rfl, hb1⟩
  replace HB := Lib.hid (HB.out.trans (hb1.mono HB.out.size))
  replace KX := Lib.hid (KX.out.below hb1)
  replace KY := Lib.hid (KY.out.below hb1)
  replace KZ := Lib.hid (KZ.out.below hb1)
  clear hb1
  have yZ := KZ.out
  have yZ_0 := yZ.c 0 _ rfl
  have yZ_1 := yZ.c 1 _ rfl
  have yZ_z := yZ.lt
  have yZ_f0 := yZ.f 0 _ rfl
  have yZ_f1 := yZ.f 1 _ rfl
  clear yZ
  go_wp2
  replace KX := Lib.hid (blk_other (b := w.heap.size) (n := (w.heap.size + 1 + 1)) (j := 1) (blk_other (b := w.heap.size) (n := (w.heap.size + 1 + 1)) (j := 0) KX.out (by omega) (.int .i64 (hiW v))) (by omega) (.int .u64 (loW v)))
  replace KY := Lib.hid (blk_other (b := (w.heap.size + 1)) (n := (w.heap.size + 1 + 1)) (j := 1) (blk_other (b := (w.heap.size + 1)) (n := (w.heap.size + 1 + 1)) (j := 0) KY.out (by omega) (.int .i64 (hiW v))) (by omega) (.int .u64 (loW v)))
  replace KZ := Lib.hid (blk_set (blk_set KZ.out (j := 0) (by simp) (.int .i64 (hiW v))) (j := 1) (by simp) (.int .u64 (loW v)))
  replace HB := Lib.hid ((HB.out.setCell (p := ⟨(w.heap.size + 1 + 1), 0, none⟩) (show w.heap.size ≤ (w.heap.size + 1 + 1) by omega) (.int .i64 (hiW v))).setCell (p := ⟨(w.heap.size + 1 + 1), 1, none⟩) (show w.heap.size ≤ (w.heap.size + 1 + 1) by omega) (.int .u64 (loW v)))
  clear yZ_0 yZ_1 yZ_z yZ_f0 yZ_f1
  generalize (w1.setCell ⟨(w.heap.size + 1 + 1), 0, none⟩ (.int .i64 (hiW v))).setCell ⟨(w.heap.size + 1 + 1), 1, none⟩ (.int .u64 (loW v)) = w2 at *
  simp only [List.set] at KZ
  have yZ := KZ.out
  have yZ_0 := yZ.c 0 _ rfl
  have yZ_1 := yZ.c 1 _ rfl
  have yZ_z := yZ.lt
  clear yZ
  refine bodyPost_ret (v := .tuple #[.agg #[.int .i64 (hiW v), .int .u64 (loW v)], .bool true]) (by simp [results, Try.results69, go_sem, yZ_0, yZ_1]) rfl ⟨rfl, HB.out⟩
end Go.Proofs.Ytplgdlooglnpmaa
