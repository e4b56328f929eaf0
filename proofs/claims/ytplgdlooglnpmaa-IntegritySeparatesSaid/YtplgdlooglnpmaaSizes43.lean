/-
  The walks of sizes and reach.
-/
import Derived.Test.YtplgdlooglnpmaaNorm43
namespace Go.Proofs.Ytplgdlooglnpmaa
set_option linter.unusedVariables false
open Go.RowKit

/-- what reach asks of its numbers -/
structure ReachB (cx cy X Y NX NY D : Int) : Prop where
  c : -2000000 ≤ cx ∧ cx ≤ 2000000 ∧ -2000000 ≤ cy ∧ cy ≤ 2000000
  x : -9444732965739290427392 ≤ X ∧ X ≤ 9444732965739290427392
  y : -9444732965739290427392 ≤ Y ∧ Y ≤ 9444732965739290427392
  nx : 0 ≤ NX ∧ NX ≤ 9444732965739290427392
  ny : 0 ≤ NY ∧ NY ≤ 9444732965739290427392
  d : 0 < D ∧ D ≤ 562949953421312
set_option maxHeartbeats 8000000 in
set_option maxRecDepth 100000 in
theorem sizes_any (x y d : Int) (w : World) (hx0 : 0 ≤ x) (hx : x < 85070591730234615865843651857942052864) (hy0 : 0 ≤ y) (hy : y < 85070591730234615865843651857942052864) (hd : 0 < d) (hd1 : d ≤ 9223372036854775807) :
    Calls Try.prog 27 #[wv x, wv y, .int .i64 d] w fun e w' => e = .returned (.tuple #[.int .i64 (pairF x y d).1.1, .int .i64 (pairF x y d).1.2, .int .i64 (pairF x y d).2]) ∧ Below w.heap.size w w' := by
  have SX := Lib.hid fun w => size_any x d w hx0 hx hd hd1
  have SY := Lib.hid fun w => size_any y d w hy0 hy hd hd1
  have E0 : pairF x y d = if ceilI x d ≤ 8000000 ∧ ceilI y d ≤ 8000000 then ((ceilI x d, ceilI y d), 0) else ((0, 0), 2) := rfl
  clear hx0 hx hy0 hy hd hd1
  generalize pairF x y d = P at *
  generalize ceilI x d = u at *
  generalize ceilI y d = v at *
  unfold wv at *
  by_cases h : u ≤ 8000000
  · rw [if_pos h] at SX
    by_cases k : v ≤ 8000000
    · rw [if_pos k] at SY
      have E := Lib.hid (E0.trans (if_pos ⟨h, k⟩))
      clear E0 h k
      have KX := Lib.hid ((Blk.of (vs := #[.int .i64 (hiW x), .int .u64 (loW x)]) (t := 51) (w := w) (b := w.heap.size) (by simp)).alloc (.cells #[.int .i64 (hiW y), .int .u64 (loW y)] 51))
      have KY := Lib.hid (Blk.of (vs := #[.int .i64 (hiW y), .int .u64 (loW y)]) (t := 51) (w := (w.alloc (.cells #[.int .i64 (hiW x), .int .u64 (loW x)] 51))) (b := w.heap.size + 1) (by simp))
      have HB := Lib.hid (((Below.refl w.heap.size w).alloc (by simp; try omega) (.cells #[.int .i64 (hiW x), .int .u64 (loW x)] 51)).alloc (by simp; try omega) (.cells #[.int .i64 (hiW y), .int .u64 (loW y)] 51))
      go_enter Try.func27, Try.ntmps27
      go_wp2_with fail
      generalize (w.alloc (.cells #[.int .i64 (hiW x), .int .u64 (loW x)] 51)).alloc (.cells #[.int .i64 (hiW y), .int .u64 (loW y)] 51) = w0 at *
      refine (SX.out _).mono ?_
      rintro e1 w1 ⟨rfl, hb1⟩
      replace HB := Lib.hid (HB.out.trans (hb1.mono HB.out.size))
      replace KX := Lib.hid (KX.out.below hb1)
      replace KY := Lib.hid (KY.out.below hb1)
      clear hb1
      have yY := KY.out
      have yY_0 := yY.c 0 _ rfl
      have yY_1 := yY.c 1 _ rfl
      have yY_z := yY.lt
      clear yY
      go_wp2_with fail
      refine (SY.out _).mono ?_
      rintro e2 w2 ⟨rfl, hb2⟩
      replace HB := Lib.hid (HB.out.trans (hb2.mono HB.out.size))
      replace KX := Lib.hid (KX.out.below hb2)
      replace KY := Lib.hid (KY.out.below hb2)
      clear yY_0 yY_1 yY_z
      clear hb2
      go_wp2
      refine bodyPost_ret (v := .tuple #[.int .i64 u, .int .i64 v, .int .i64 0]) (by simp [results, Try.results27, go_sem]) rfl ⟨by rw [E.out], HB.out⟩
    · rw [if_neg k] at SY
      have E := Lib.hid (E0.trans (if_neg fun q => k q.2))
      clear E0 h k
      have KX := Lib.hid ((Blk.of (vs := #[.int .i64 (hiW x), .int .u64 (loW x)]) (t := 51) (w := w) (b := w.heap.size) (by simp)).alloc (.cells #[.int .i64 (hiW y), .int .u64 (loW y)] 51))
      have KY := Lib.hid (Blk.of (vs := #[.int .i64 (hiW y), .int .u64 (loW y)]) (t := 51) (w := (w.alloc (.cells #[.int .i64 (hiW x), .int .u64 (loW x)] 51))) (b := w.heap.size + 1) (by simp))
      have HB := Lib.hid (((Below.refl w.heap.size w).alloc (by simp; try omega) (.cells #[.int .i64 (hiW x), .int .u64 (loW x)] 51)).alloc (by simp; try omega) (.cells #[.int .i64 (hiW y), .int .u64 (loW y)] 51))
      go_enter Try.func27, Try.ntmps27
      go_wp2_with fail
      generalize (w.alloc (.cells #[.int .i64 (hiW x), .int .u64 (loW x)] 51)).alloc (.cells #[.int .i64 (hiW y), .int .u64 (loW y)] 51) = w0 at *
      refine (SX.out _).mono ?_
      rintro e1 w1 ⟨rfl, hb1⟩
      replace HB := Lib.hid (HB.out.trans (hb1.mono HB.out.size))
      replace KX := Lib.hid (KX.out.below hb1)
      replace KY := Lib.hid (KY.out.below hb1)
      clear hb1
      have yY := KY.out
      have yY_0 := yY.c 0 _ rfl
      have yY_1 := yY.c 1 _ rfl
      have yY_z := yY.lt
      clear yY
      go_wp2_with fail
      refine (SY.out _).mono ?_
      rintro e2 w2 ⟨rfl, hb2⟩
      replace HB := Lib.hid (HB.out.trans (hb2.mono HB.out.size))
      replace KX := Lib.hid (KX.out.below hb2)
      replace KY := Lib.hid (KY.out.below hb2)
      clear yY_0 yY_1 yY_z
      clear hb2
      go_wp2
      refine bodyPost_ret (v := .tuple #[.int .i64 0, .int .i64 0, .int .i64 2]) (by simp [results, Try.results27, go_sem]) rfl ⟨by rw [E.out], HB.out⟩
  · rw [if_neg h] at SX
    by_cases k : v ≤ 8000000
    · rw [if_pos k] at SY
      have E := Lib.hid (E0.trans (if_neg fun q => h q.1))
      clear E0 h k
      have KX := Lib.hid ((Blk.of (vs := #[.int .i64 (hiW x), .int .u64 (loW x)]) (t := 51) (w := w) (b := w.heap.size) (by simp)).alloc (.cells #[.int .i64 (hiW y), .int .u64 (loW y)] 51))
      have KY := Lib.hid (Blk.of (vs := #[.int .i64 (hiW y), .int .u64 (loW y)]) (t := 51) (w := (w.alloc (.cells #[.int .i64 (hiW x), .int .u64 (loW x)] 51))) (b := w.heap.size + 1) (by simp))
      have HB := Lib.hid (((Below.refl w.heap.size w).alloc (by simp; try omega) (.cells #[.int .i64 (hiW x), .int .u64 (loW x)] 51)).alloc (by simp; try omega) (.cells #[.int .i64 (hiW y), .int .u64 (loW y)] 51))
      go_enter Try.func27, Try.ntmps27
      go_wp2_with fail
      generalize (w.alloc (.cells #[.int .i64 (hiW x), .int .u64 (loW x)] 51)).alloc (.cells #[.int .i64 (hiW y), .int .u64 (loW y)] 51) = w0 at *
      refine (SX.out _).mono ?_
      rintro e1 w1 ⟨rfl, hb1⟩
      replace HB := Lib.hid (HB.out.trans (hb1.mono HB.out.size))
      replace KX := Lib.hid (KX.out.below hb1)
      replace KY := Lib.hid (KY.out.below hb1)
      clear hb1
      have yY := KY.out
      have yY_0 := yY.c 0 _ rfl
      have yY_1 := yY.c 1 _ rfl
      have yY_z := yY.lt
      clear yY
      go_wp2_with fail
      refine (SY.out _).mono ?_
      rintro e2 w2 ⟨rfl, hb2⟩
      replace HB := Lib.hid (HB.out.trans (hb2.mono HB.out.size))
      replace KX := Lib.hid (KX.out.below hb2)
      replace KY := Lib.hid (KY.out.below hb2)
      clear yY_0 yY_1 yY_z
      clear hb2
      go_wp2
      refine bodyPost_ret (v := .tuple #[.int .i64 0, .int .i64 0, .int .i64 2]) (by simp [results, Try.results27, go_sem]) rfl ⟨by rw [E.out], HB.out⟩
    · rw [if_neg k] at SY
      have E := Lib.hid (E0.trans (if_neg fun q => h q.1))
      clear E0 h k
      have KX := Lib.hid ((Blk.of (vs := #[.int .i64 (hiW x), .int .u64 (loW x)]) (t := 51) (w := w) (b := w.heap.size) (by simp)).alloc (.cells #[.int .i64 (hiW y), .int .u64 (loW y)] 51))
      have KY := Lib.hid (Blk.of (vs := #[.int .i64 (hiW y), .int .u64 (loW y)]) (t := 51) (w := (w.alloc (.cells #[.int .i64 (hiW x), .int .u64 (loW x)] 51))) (b := w.heap.size + 1) (by simp))
      have HB := Lib.hid (((Below.refl w.heap.size w).alloc (by simp; try omega) (.cells #[.int .i64 (hiW x), .int .u64 (loW x)] 51)).alloc (by simp; try omega) (.cells #[.int .i64 (hiW y), .int .u64 (loW y)] 51))
      go_enter Try.func27, Try.ntmps27
      go_wp2_with fail
      generalize (w.alloc (.cells #[.int .i64 (hiW x), .int .u64 (loW x)] 51)).alloc (.cells #[.int .i64 (hiW y), .int .u64 (loW y)] 51) = w0 at *
      refine (SX.out _).mono ?_
      rintro e1 w1 ⟨rfl, hb1⟩
      replace HB := Lib.hid (HB.out.trans (hb1.mono HB.out.size))
      replace KX := Lib.hid (KX.out.below hb1)
      replace KY := Lib.hid (KY.out.below hb1)
      clear hb1
      have yY := KY.out
      have yY_0 := yY.c 0 _ rfl
      have yY_1 := yY.c 1 _ rfl
      have yY_z := yY.lt
      clear yY
      go_wp2_with fail
      refine (SY.out _).mono ?_
      rintro e2 w2 ⟨rfl, hb2⟩
      replace HB := Lib.hid (HB.out.trans (hb2.mono HB.out.size))
      replace KX := Lib.hid (KX.out.below hb2)
      replace KY := Lib.hid (KY.out.below hb2)
      clear yY_0 yY_1 yY_z
      clear hb2
      go_wp2
      refine bodyPost_ret (v := .tuple #[.int .i64 0, .int .i64 0, .int .i64 2]) (by simp [results, Try.results27, go_sem]) rfl ⟨by rw [E.out], HB.out⟩
theorem apart_bd {p d x : Int} (hp0 : -2000000 ≤ p) (hp : p ≤ 2000000) (hd0 : 0 < d) (hd : d ≤ 562949953421312) (hx0 : -9444732965739290427392 ≤ x) (hx : x ≤ 9444732965739290427392) :
    -10570632872582575427392 ≤ p * d - x ∧ p * d - x ≤ 10570632872582575427392 ∧ 0 ≤ absZ (p * d - x) ∧ absZ (p * d - x) ≤ 10570632872582575427392 := by
  have h := mulb (X := 2000000) (Y := 562949953421312) (x := p) (y := d) (by omega) hp0 hp (by omega) hd
  have h1 : -10570632872582575427392 ≤ p * d - x := by omega
  have h2 : p * d - x ≤ 10570632872582575427392 := by omega
  exact ⟨h1, h2, absZ_ge _, absZ_le h1 h2⟩
set_option maxHeartbeats 8000000 in
set_option maxRecDepth 100000 in
theorem reach_any (cx cy X Y NX NY D : Int) (w : World) (h : ReachB cx cy X Y NX NY D) :
    Calls Try.prog 33 #[.agg #[.int .i64 cx, .int .i64 cy], .agg #[.int .i64 (hiW X), .int .u64 (loW X), .int .i64 (hiW Y), .int .u64 (loW Y), .int .i64 (hiW NX), .int .u64 (loW NX), .int .i64 (hiW NY), .int .u64 (loW NY), .int .i64 D]] w fun e w' => e = .returned (.tuple #[.int .i64 (pairF (apartI cx X D + NX) (apartI cy Y D + NY) D).1.1, .int .i64 (pairF (apartI cx X D + NX) (apartI cy Y D + NY) D).1.2, .int .i64 (pairF (apartI cx X D + NX) (apartI cy Y D + NY) D).2]) ∧ Below w.heap.size w w' := by
  obtain ⟨⟨c0, c1, c2, c3⟩, ⟨x0, x1⟩, ⟨y0, y1⟩, ⟨nx0, nx1⟩, ⟨ny0, ny1⟩, d0, d1⟩ := h
  obtain ⟨a0, a1, a2, a3⟩ := apart_bd c0 c1 d0 d1 x0 x1
  obtain ⟨b0, b1, b2, b3⟩ := apart_bd c2 c3 d0 d1 y0 y1
  have AX := Lib.hid fun w => apart_any cx X D w ⟨by omega, by omega⟩ ⟨by omega, by omega⟩ ⟨by omega, by omega⟩ ⟨by omega, by omega⟩ ⟨by omega, by omega⟩
  have AY := Lib.hid fun w => apart_any cy Y D w ⟨by omega, by omega⟩ ⟨by omega, by omega⟩ ⟨by omega, by omega⟩ ⟨by omega, by omega⟩ ⟨by omega, by omega⟩
  unfold apartI
  generalize absZ (cx * D - X) = u at *
  generalize absZ (cy * D - Y) = v at *
  have PX := Lib.hid fun w => plus_any u NX w ⟨by omega, by omega⟩ ⟨by omega, by omega⟩ ⟨by omega, by omega⟩
  have PY := Lib.hid fun w => plus_any v NY w ⟨by omega, by omega⟩ ⟨by omega, by omega⟩ ⟨by omega, by omega⟩
  have SZ := Lib.hid fun w => sizes_any (u + NX) (v + NY) D w (by omega) (by omega) (by omega) (by omega) d0 (by omega)
  generalize pairF (u + NX) (v + NY) D = q at *
  generalize u + NX = s at *
  generalize v + NY = t at *
  unfold wv at *
  clear c0 c1 c2 c3 x0 x1 y0 y1 nx0 nx1 ny0 ny1 d0 d1 a0 a1 a2 a3 b0 b1 b2 b3
  have KP := Lib.hid ((Blk.of (vs := #[.int .i64 cx, .int .i64 cy]) (t := 30) (w := w) (b := w.heap.size) (by simp)).alloc (.cells #[.int .i64 (hiW X), .int .u64 (loW X), .int .i64 (hiW Y), .int .u64 (loW Y), .int .i64 (hiW NX), .int .u64 (loW NX), .int .i64 (hiW NY), .int .u64 (loW NY), .int .i64 D] 57))
  have KS := Lib.hid (Blk.of (vs := #[.int .i64 (hiW X), .int .u64 (loW X), .int .i64 (hiW Y), .int .u64 (loW Y), .int .i64 (hiW NX), .int .u64 (loW NX), .int .i64 (hiW NY), .int .u64 (loW NY), .int .i64 D]) (t := 57) (w := (w.alloc (.cells #[.int .i64 cx, .int .i64 cy] 30))) (b := w.heap.size + 1) (by simp))
  have HB := Lib.hid (((Below.refl w.heap.size w).alloc (by simp; try omega) (.cells #[.int .i64 cx, .int .i64 cy] 30)).alloc (by simp; try omega) (.cells #[.int .i64 (hiW X), .int .u64 (loW X), .int .i64 (hiW Y), .int .u64 (loW Y), .int .i64 (hiW NX), .int .u64 (loW NX), .int .i64 (hiW NY), .int .u64 (loW NY), .int .i64 D] 57))
  go_enter Try.func33, Try.ntmps33
  go_wp2_with fail
  generalize (w.alloc (.cells #[.int .i64 cx, .int .i64 cy] 30)).alloc (.cells #[.int .i64 (hiW X), .int .u64 (loW X), .int .i64 (hiW Y), .int .u64 (loW Y), .int .i64 (hiW NX), .int .u64 (loW NX), .int .i64 (hiW NY), .int .u64 (loW NY), .int .i64 D] 57) = w0 at *
  have gP_0 := fun d os => cell_regrown (KP.out.c 0 _ rfl) d os
  have gP_1 := fun d os => cell_regrown (KP.out.c 1 _ rfl) d os
  have gS_0 := fun d os => cell_regrown (KS.out.c 0 _ rfl) d os
  have gS_1 := fun d os => cell_regrown (KS.out.c 1 _ rfl) d os
  have gS_2 := fun d os => cell_regrown (KS.out.c 2 _ rfl) d os
  have gS_3 := fun d os => cell_regrown (KS.out.c 3 _ rfl) d os
  have gS_4 := fun d os => cell_regrown (KS.out.c 4 _ rfl) d os
  have gS_5 := fun d os => cell_regrown (KS.out.c 5 _ rfl) d os
  have gS_6 := fun d os => cell_regrown (KS.out.c 6 _ rfl) d os
  have gS_7 := fun d os => cell_regrown (KS.out.c 7 _ rfl) d os
  have gS_8 := fun d os => cell_regrown (KS.out.c 8 _ rfl) d os
  have rv0 := Lib.hid (fun d os => Calls.regrown_of (AX.out (Go.Sort.grow (redrawn w0 d) os)))
  have rv1 := Lib.hid (fun d os => Calls.regrown_of (AY.out (Go.Sort.grow (redrawn w0 d) os)))
  have rv2 := Lib.hid (fun d os => Calls.regrown_of (PX.out (Go.Sort.grow (redrawn w0 d) os)))
  have rv3 := Lib.hid (fun d os => Calls.regrown_of (PY.out (Go.Sort.grow (redrawn w0 d) os)))
  have rv4 := Lib.hid (fun d os => Calls.regrown_of (SZ.out (Go.Sort.grow (redrawn w0 d) os)))
  refine wp_region_quiet_below (by kernel_rfl) (by kernel_rfl) ?_
  repeat (quiet_step (first | with_reducible exact rv0.out _ _ | with_reducible exact rv1.out _ _ | with_reducible exact rv2.out _ _ | with_reducible exact rv3.out _ _ | with_reducible exact rv4.out _ _))
  refine wpQuiet_nil ?_
  intro w1 hw1
  have hb1 : Below w0.heap.size w0 w1 := by
    obtain ⟨⟨dq, osq⟩, hw2⟩ := hw1
    rw [hw2]; exact below_regrown _ dq osq
  clear gP_0 gP_1 gS_0 gS_1 gS_2 gS_3 gS_4 gS_5 gS_6 gS_7 gS_8 rv0 rv1 rv2 rv3 rv4 hw1
  replace HB := Lib.hid (HB.out.trans (hb1.mono HB.out.size))
  replace KP := Lib.hid (KP.out.below hb1)
  replace KS := Lib.hid (KS.out.below hb1)
  clear hb1
  go_wp2
  refine bodyPost_ret (v := .tuple #[.int .i64 q.1.1, .int .i64 q.1.2, .int .i64 q.2]) (by simp [results, Try.results33, go_sem]) rfl ⟨rfl, HB.out⟩
end Go.Proofs.Ytplgdlooglnpmaa
