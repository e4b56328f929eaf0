/-
  The walk of the reference's quotient of layer 2: five of its ways.
-/
import Derived.Test.YtplgdlooglnpmaaRefQuo
namespace Go.Proofs.Ytplgdlooglnpmaa
set_option linter.unusedVariables false
open Go.RowKit

set_option maxHeartbeats 16000000 in
set_option maxRecDepth 100000 in
theorem quo_nearP1gt (x d q r v : Int) (w : World) (h : QuoW x d q r) (hx : 0 ≤ x) (h0 : 0 ≤ q) (h1 : q < 85070591730234615865843651857942052864) (hr : ¬ r = 0) (hr0 : 0 ≤ r) (hr1 : r < d) (hd1 : d < 9223372036854775808) (hc : d - r < r) (hv : v = sgn false (q + 1)) :
    Calls Try.prog 91 #[wv x, .agg #[.int .i64 0, .int .u64 d], .int .i64 2] w fun e w' => e = .returned (.tuple #[wv v, .bool true]) ∧ Below w.heap.size w w' := by
  by_cases hcy : loW (q + 1) = 0
  · have gx : decide (hiW x < 0) = false := by have := hi_neg x; simp; omega
    have gr : (r == 0) = false := by simpa using hr
    have gr' : (r != 0) = true := by simpa using hr
    have gd : decide (d < r) = false := by simp; omega
    have gs : IntKind.u64.wrap (d - r) = d - r := by rw [IntKind.wrap_u64]; omega
    have gc : decide (d - r < r) = true := by simp; omega
    have ge : (r == d - r) = false := by simp; omega
    have ge' : (d - r == r) = false := by simp; omega
    have qs : IntKind.u64.wrap (loW q + 1) = loW (q + 1) := by rw [IntKind.wrap_u64]; unfold loW; omega
    have qc : (loW (q + 1) == 0) = true := by simpa using hcy
    have qh : IntKind.u64.wrap (hiW q + 1) = hiW (q + 1) := by rw [IntKind.wrap_u64]; unfold hiW loW at *; omega
    have J := Lib.hid fun w => rsigned_any (q + 1) false w (by omega) (by omega)
    rw [← hv] at J
    unfold wv at J ⊢
    clear hv
    generalize loW (q + 1) = ql at *
    clear h0 h1 hr0 hr1 hd1 hx hr hcy hc
    have SG := Lib.hid h.sg
    have SX := Lib.hid h.sx
    have SY := Lib.hid h.sy
    have DV := Lib.hid h.dv
    clear h
    have KX := Lib.hid (((Blk.of (vs := #[.int .i64 (hiW x), .int .u64 (loW x)]) (t := 51) (w := w) (b := w.heap.size) (by simp)).alloc (.cells #[.int .i64 0, .int .u64 d] 51)).alloc (.cells #[.int .i64 0, .int .u64 0] 51))
    have KY := Lib.hid ((Blk.of (vs := #[.int .i64 0, .int .u64 d]) (t := 51) (w := (w.alloc (.cells #[.int .i64 (hiW x), .int .u64 (loW x)] 51))) (b := w.heap.size + 1) (by simp)).alloc (.cells #[.int .i64 0, .int .u64 0] 51))
    have KZ := Lib.hid (Blk.of (vs := #[.int .i64 0, .int .u64 0]) (t := 51) (w := ((w.alloc (.cells #[.int .i64 (hiW x), .int .u64 (loW x)] 51)).alloc (.cells #[.int .i64 0, .int .u64 d] 51))) (b := w.heap.size + 1 + 1) (by simp))
    have HB := Lib.hid ((((Below.refl w.heap.size w).alloc (by simp; try omega) (.cells #[.int .i64 (hiW x), .int .u64 (loW x)] 51)).alloc (by simp; try omega) (.cells #[.int .i64 0, .int .u64 d] 51)).alloc (by simp; try omega) (.cells #[.int .i64 0, .int .u64 0] 51))
    go_enter Try.func91, Try.ntmps91
    go_wp2_with fail
    generalize ((w.alloc (.cells #[.int .i64 (hiW x), .int .u64 (loW x)] 51)).alloc (.cells #[.int .i64 0, .int .u64 d] 51)).alloc (.cells #[.int .i64 0, .int .u64 0] 51) = w0 at *
    refine (SG.out _).mono ?_
    rintro e1 w1 ⟨rfl, hb1⟩
    replace HB := Lib.hid (HB.out.trans (hb1.mono HB.out.size))
    replace KX := Lib.hid (KX.out.below hb1)
    replace KY := Lib.hid (KY.out.below hb1)
    replace KZ := Lib.hid (KZ.out.below hb1)
    clear hb1
    have yX := KX.out
    have yX_0 := yX.c 0 _ rfl
    have yX_1 := yX.c 1 _ rfl
    have yX_z := yX.lt
    clear yX
    have yY := KY.out
    have yY_0 := yY.c 0 _ rfl
    have yY_1 := yY.c 1 _ rfl
    have yY_z := yY.lt
    clear yY
    go_wp2_with fail
    refine (SX.out _).mono ?_
    rintro e2 w2 ⟨rfl, hb2⟩
    replace HB := Lib.hid (HB.out.trans (hb2.mono HB.out.size))
    replace KX := Lib.hid (KX.out.below hb2)
    replace KY := Lib.hid (KY.out.below hb2)
    replace KZ := Lib.hid (KZ.out.below hb2)
    clear yX_0 yX_1 yX_z yY_0 yY_1 yY_z
    clear hb2
    have yY := KY.out
    have yY_0 := yY.c 0 _ rfl
    have yY_1 := yY.c 1 _ rfl
    have yY_z := yY.lt
    clear yY
    go_wp2_with fail
    refine (SY.out _).mono ?_
    rintro e3 w3 ⟨rfl, hb3⟩
    replace HB := Lib.hid (HB.out.trans (hb3.mono HB.out.size))
    replace KX := Lib.hid (KX.out.below hb3)
    replace KY := Lib.hid (KY.out.below hb3)
    replace KZ := Lib.hid (KZ.out.below hb3)
    clear yY_0 yY_1 yY_z
    clear hb3
    go_wp2_with fail
    refine (DV.out _).mono ?_
    rintro e4 w4 ⟨rfl, hb4⟩
    replace HB := Lib.hid (HB.out.trans (hb4.mono HB.out.size))
    replace KX := Lib.hid (KX.out.below hb4)
    replace KY := Lib.hid (KY.out.below hb4)
    replace KZ := Lib.hid (KZ.out.below hb4)
    clear hb4
    go_wp2_with fail
    refine (J.out _).mono ?_
    rintro e5 w5 ⟨rfl, hb5⟩
    replace HB := Lib.hid (HB.out.trans (hb5.mono HB.out.size))
    replace KX := Lib.hid (KX.out.below hb5)
    replace KY := Lib.hid (KY.out.below hb5)
    replace KZ := Lib.hid (KZ.out.below hb5)
    clear hb5
    have yZ := KZ.out
    have yZ_0 := yZ.c 0 _ rfl
    have yZ_1 := yZ.c 1 _ rfl
    have yZ_z := yZ.lt
    have yZ_f0 := yZ.f 0 _ rfl
    have yZ_f1 := yZ.f 1 _ rfl
    clear yZ
    go_wp2
    replace KX := Lib.hid (blk_other (b := w.heap.size) (n := (w.heap.size + 1 + 1)) (j := 1) (blk_other (b := w.heap.size) (n := (w.heap.size + 1 + 1)) (j := 0) KX.out (by omega) (.int .i64 (hiW v))) (by omega) (.int .u64 (loW v)))
    replace KY := Lib.hid (blk_other (b := (w.heap.size + 1)) (n := (w.heap.size + 1 + 1)) (j := 1) (blk_other (b := (w.heap.size + 1)) (n := (w.heap.size + 1 + 1)) (j := 0) KY.out (by omega) (.int .i64 (hiW v))) (by omega) (.int .u64 (loW v)))
    replace KZ := Lib.hid (blk_set (blk_set KZ.out (j := 0) (by simp) (.int .i64 (hiW v))) (j := 1) (by simp) (.int .u64 (loW v)))
    replace HB := Lib.hid ((HB.out.setCell (p := ⟨(w.heap.size + 1 + 1), 0, none⟩) (show w.heap.size ≤ (w.heap.size + 1 + 1) by omega) (.int .i64 (hiW v))).setCell (p := ⟨(w.heap.size + 1 + 1), 1, none⟩) (show w.heap.size ≤ (w.heap.size + 1 + 1) by omega) (.int .u64 (loW v)))
    clear yZ_0 yZ_1 yZ_z yZ_f0 yZ_f1
    generalize (w5.setCell ⟨(w.heap.size + 1 + 1), 0, none⟩ (.int .i64 (hiW v))).setCell ⟨(w.heap.size + 1 + 1), 1, none⟩ (.int .u64 (loW v)) = w6 at *
    simp only [List.set] at KZ
    have yZ := KZ.out
    have yZ_0 := yZ.c 0 _ rfl
    have yZ_1 := yZ.c 1 _ rfl
    have yZ_z := yZ.lt
    clear yZ
    refine bodyPost_ret (v := .tuple #[.agg #[.int .i64 (hiW v), .int .u64 (loW v)], .bool true]) (by simp [results, Try.results91, go_sem, yZ_0, yZ_1]) rfl ⟨rfl, HB.out⟩
  · have gx : decide (hiW x < 0) = false := by have := hi_neg x; simp; omega
    have gr : (r == 0) = false := by simpa using hr
    have gr' : (r != 0) = true := by simpa using hr
    have gd : decide (d < r) = false := by simp; omega
    have gs : IntKind.u64.wrap (d - r) = d - r := by rw [IntKind.wrap_u64]; omega
    have gc : decide (d - r < r) = true := by simp; omega
    have ge : (r == d - r) = false := by simp; omega
    have ge' : (d - r == r) = false := by simp; omega
    have qs : IntKind.u64.wrap (loW q + 1) = loW (q + 1) := by rw [IntKind.wrap_u64]; unfold loW; omega
    have qc : (loW (q + 1) == 0) = false := by simpa using hcy
    have qh : hiW q = hiW (q + 1) := by unfold hiW loW at *; omega
    have J := Lib.hid fun w => rsigned_any (q + 1) false w (by omega) (by omega)
    rw [← hv] at J
    unfold wv at J ⊢
    clear hv
    rw [← qh] at J
    clear qh
    generalize loW (q + 1) = ql at *
    clear h0 h1 hr0 hr1 hd1 hx hr hcy hc
    have SG := Lib.hid h.sg
    have SX := Lib.hid h.sx
    have SY := Lib.hid h.sy
    have DV := Lib.hid h.dv
    clear h
    have KX := Lib.hid (((Blk.of (vs := #[.int .i64 (hiW x), .int .u64 (loW x)]) (t := 51) (w := w) (b := w.heap.size) (by simp)).alloc (.cells #[.int .i64 0, .int .u64 d] 51)).alloc (.cells #[.int .i64 0, .int .u64 0] 51))
    have KY := Lib.hid ((Blk.of (vs := #[.int .i64 0, .int .u64 d]) (t := 51) (w := (w.alloc (.cells #[.int .i64 (hiW x), .int .u64 (loW x)] 51))) (b := w.heap.size + 1) (by simp)).alloc (.cells #[.int .i64 0, .int .u64 0] 51))
    have KZ := Lib.hid (Blk.of (vs := #[.int .i64 0, .int .u64 0]) (t := 51) (w := ((w.alloc (.cells #[.int .i64 (hiW x), .int .u64 (loW x)] 51)).alloc (.cells #[.int .i64 0, .int .u64 d] 51))) (b := w.heap.size + 1 + 1) (by simp))
    have HB := Lib.hid ((((Below.refl w.heap.size w).alloc (by simp; try omega) (.cells #[.int .i64 (hiW x), .int .u64 (loW x)] 51)).alloc (by simp; try omega) (.cells #[.int .i64 0, .int .u64 d] 51)).alloc (by simp; try omega) (.cells #[.int .i64 0, .int .u64 0] 51))
    go_enter Try.func91, Try.ntmps91
    go_wp2_with fail
    generalize ((w.alloc (.cells #[.int .i64 (hiW x), .int .u64 (loW x)] 51)).alloc (.cells #[.int .i64 0, .int .u64 d] 51)).alloc (.cells #[.int .i64 0, .int .u64 0] 51) = w0 at *
    refine (SG.out _).mono ?_
    rintro e1 w1 ⟨rfl, hb1⟩
    replace HB := Lib.hid (HB.out.trans (hb1.mono HB.out.size))
    replace KX := Lib.hid (KX.out.below hb1)
    replace KY := Lib.hid (KY.out.below hb1)
    replace KZ := Lib.hid (KZ.out.below hb1)
    clear hb1
    have yX := KX.out
    have yX_0 := yX.c 0 _ rfl
    have yX_1 := yX.c 1 _ rfl
    have yX_z := yX.lt
    clear yX
    have yY := KY.out
    have yY_0 := yY.c 0 _ rfl
    have yY_1 := yY.c 1 _ rfl
    have yY_z := yY.lt
    clear yY
    go_wp2_with fail
    refine (SX.out _).mono ?_
    rintro e2 w2 ⟨rfl, hb2⟩
    replace HB := Lib.hid (HB.out.trans (hb2.mono HB.out.size))
    replace KX := Lib.hid (KX.out.below hb2)
    replace KY := Lib.hid (KY.out.below hb2)
    replace KZ := Lib.hid (KZ.out.below hb2)
    clear yX_0 yX_1 yX_z yY_0 yY_1 yY_z
    clear hb2
    have yY := KY.out
    have yY_0 := yY.c 0 _ rfl
    have yY_1 := yY.c 1 _ rfl
    have yY_z := yY.lt
    clear yY
    go_wp2_with fail
    refine (SY.out _).mono ?_
    rintro e3 w3 ⟨rfl, hb3⟩
    replace HB := Lib.hid (HB.out.trans (hb3.mono HB.out.size))
    replace KX := Lib.hid (KX.out.below hb3)
    replace KY := Lib.hid (KY.out.below hb3)
    replace KZ := Lib.hid (KZ.out.below hb3)
    clear yY_0 yY_1 yY_z
    clear hb3
    go_wp2_with fail
    refine (DV.out _).mono ?_
    rintro e4 w4 ⟨rfl, hb4⟩
    replace HB := Lib.hid (HB.out.trans (hb4.mono HB.out.size))
    replace KX := Lib.hid (KX.out.below hb4)
    replace KY := Lib.hid (KY.out.below hb4)
    replace KZ := Lib.hid (KZ.out.below hb4)
    clear hb4
    go_wp2_with fail
    refine (J.out _).mono ?_
    rintro e5 w5 ⟨rfl, hb5⟩
    replace HB := Lib.hid (HB.out.trans (hb5.mono HB.out.size))
    replace KX := Lib.hid (KX.out.below hb5)
    replace KY := Lib.hid (KY.out.below hb5)
    replace KZ := Lib.hid (KZ.out.below hb5)
    clear hb5
    have yZ := KZ.out
    have yZ_0 := yZ.c 0 _ rfl
    have yZ_1 := yZ.c 1 _ rfl
    have yZ_z := yZ.lt
    have yZ_f0 := yZ.f 0 _ rfl
    have yZ_f1 := yZ.f 1 _ rfl
    clear yZ
    go_wp2
    replace KX := Lib.hid (blk_other (b := w.heap.size) (n := (w.heap.size + 1 + 1)) (j := 1) (blk_other (b := w.heap.size) (n := (w.heap.size + 1 + 1)) (j := 0) KX.out (by omega) (.int .i64 (hiW v))) (by omega) (.int .u64 (loW v)))
    replace KY := Lib.hid (blk_other (b := (w.heap.size + 1)) (n := (w.heap.size + 1 + 1)) (j := 1) (blk_other (b := (w.heap.size + 1)) (n := (w.heap.size + 1 + 1)) (j := 0) KY.out (by omega) (.int .i64 (hiW v))) (by omega) (.int .u64 (loW v)))
    replace KZ := Lib.hid (blk_set (blk_set KZ.out (j := 0) (by simp) (.int .i64 (hiW v))) (j := 1) (by simp) (.int .u64 (loW v)))
    replace HB := Lib.hid ((HB.out.setCell (p := ⟨(w.heap.size + 1 + 1), 0, none⟩) (show w.heap.size ≤ (w.heap.size + 1 + 1) by omega) (.int .i64 (hiW v))).setCell (p := ⟨(w.heap.size + 1 + 1), 1, none⟩) (show w.heap.size ≤ (w.heap.size + 1 + 1) by omega) (.int .u64 (loW v)))
    clear yZ_0 yZ_1 yZ_z yZ_f0 yZ_f1
    generalize (w5.setCell ⟨(w.heap.size + 1 + 1), 0, none⟩ (.int .i64 (hiW v))).setCell ⟨(w.heap.size + 1 + 1), 1, none⟩ (.int .u64 (loW v)) = w6 at *
    simp only [List.set] at KZ
    have yZ := KZ.out
    have yZ_0 := yZ.c 0 _ rfl
    have yZ_1 := yZ.c 1 _ rfl
    have yZ_z := yZ.lt
    clear yZ
    refine bodyPost_ret (v := .tuple #[.agg #[.int .i64 (hiW v), .int .u64 (loW v)], .bool true]) (by simp [results, Try.results91, go_sem, yZ_0, yZ_1]) rfl ⟨rfl, HB.out⟩
set_option maxHeartbeats 16000000 in
set_option maxRecDepth 100000 in
theorem quo_nearN0lt (x d q r v : Int) (w : World) (h : QuoW x d q r) (hx : x < 0) (h0 : 0 ≤ q) (h1 : q < 85070591730234615865843651857942052864) (hr : r = 0) (hr0 : 0 ≤ r) (hr1 : r < d) (hd1 : d < 9223372036854775808) (hc : r < d - r) (hv : v = sgn true q) :
    Calls Try.prog 91 #[wv x, .agg #[.int .i64 0, .int .u64 d], .int .i64 2] w fun e w' => e = .returned (.tuple #[wv v, .bool true]) ∧ Below w.heap.size w w' := by
  by_cases hnz : hiW q = 0
  · by_cases hnl : loW q = 0
    · have gx : decide (hiW x < 0) = true := by have := hi_neg x; simp; omega
      have gr : (r == 0) = true := by simpa using hr
      have gr' : (r != 0) = false := by simpa using hr
      have gd : decide (d < r) = false := by simp; omega
      have gs : IntKind.u64.wrap (d - r) = d - r := by rw [IntKind.wrap_u64]; omega
      have gc : decide (d - r < r) = false := by simp; omega
      have ge : (r == d - r) = false := by simp; omega
      have ge' : (d - r == r) = false := by simp; omega
      have n1 : (hiW q != 0) = false := by simpa using hnz
      have n2 : (loW q != 0) = false := by simpa using hnl
      have J := Lib.hid fun w => rsigned_any q false w (by omega) (by omega)
      have e0 : sgn false q = v := by rw [hv]; unfold sgn; simp; unfold hiW loW at *; omega
      rw [e0] at J
      unfold wv at J ⊢
      clear hv
      clear h0 h1 hr0 hr1 hd1 hx hr hnz hnl hc
      have SG := Lib.hid h.sg
      have SX := Lib.hid h.sx
      have SY := Lib.hid h.sy
      have DV := Lib.hid h.dv
      clear h
      have KX := Lib.hid (((Blk.of (vs := #[.int .i64 (hiW x), .int .u64 (loW x)]) (t := 51) (w := w) (b := w.heap.size) (by simp)).alloc (.cells #[.int .i64 0, .int .u64 d] 51)).alloc (.cells #[.int .i64 0, .int .u64 0] 51))
      have KY := Lib.hid ((Blk.of (vs := #[.int .i64 0, .int .u64 d]) (t := 51) (w := (w.alloc (.cells #[.int .i64 (hiW x), .int .u64 (loW x)] 51))) (b := w.heap.size + 1) (by simp)).alloc (.cells #[.int .i64 0, .int .u64 0] 51))
      have KZ := Lib.hid (Blk.of (vs := #[.int .i64 0, .int .u64 0]) (t := 51) (w := ((w.alloc (.cells #[.int .i64 (hiW x), .int .u64 (loW x)] 51)).alloc (.cells #[.int .i64 0, .int .u64 d] 51))) (b := w.heap.size + 1 + 1) (by simp))
      have HB := Lib.hid ((((Below.refl w.heap.size w).alloc (by simp; try omega) (.cells #[.int .i64 (hiW x), .int .u64 (loW x)] 51)).alloc (by simp; try omega) (.cells #[.int .i64 0, .int .u64 d] 51)).alloc (by simp; try omega) (.cells #[.int .i64 0, .int .u64 0] 51))
      go_enter Try.func91, Try.ntmps91
      go_wp2_with fail
      generalize ((w.alloc (.cells #[.int .i64 (hiW x), .int .u64 (loW x)] 51)).alloc (.cells #[.int .i64 0, .int .u64 d] 51)).alloc (.cells #[.int .i64 0, .int .u64 0] 51) = w0 at *
      refine (SG.out _).mono ?_
      rintro e1 w1 ⟨rfl, hb1⟩
      replace HB := Lib.hid (HB.out.trans (hb1.mono HB.out.size))
      replace KX := Lib.hid (KX.out.below hb1)
      replace KY := Lib.hid (KY.out.below hb1)
      replace KZ := Lib.hid (KZ.out.below hb1)
      clear hb1
      have yX := KX.out
      have yX_0 := yX.c 0 _ rfl
      have yX_1 := yX.c 1 _ rfl
      have yX_z := yX.lt
      clear yX
      have yY := KY.out
      have yY_0 := yY.c 0 _ rfl
      have yY_1 := yY.c 1 _ rfl
      have yY_z := yY.lt
      clear yY
      go_wp2_with fail
      refine (SX.out _).mono ?_
      rintro e2 w2 ⟨rfl, hb2⟩
      replace HB := Lib.hid (HB.out.trans (hb2.mono HB.out.size))
      replace KX := Lib.hid (KX.out.below hb2)
      replace KY := Lib.hid (KY.out.below hb2)
      replace KZ := Lib.hid (KZ.out.below hb2)
      clear yX_0 yX_1 yX_z yY_0 yY_1 yY_z
      clear hb2
      have yY := KY.out
      have yY_0 := yY.c 0 _ rfl
      have yY_1 := yY.c 1 _ rfl
      have yY_z := yY.lt
      clear yY
      go_wp2_with fail
      refine (SY.out _).mono ?_
      rintro e3 w3 ⟨rfl, hb3⟩
      replace HB := Lib.hid (HB.out.trans (hb3.mono HB.out.size))
      replace KX := Lib.hid (KX.out.below hb3)
      replace KY := Lib.hid (KY.out.below hb3)
      replace KZ := Lib.hid (KZ.out.below hb3)
      clear yY_0 yY_1 yY_z
      clear hb3
      go_wp2_with fail
      refine (DV.out _).mono ?_
      rintro e4 w4 ⟨rfl, hb4⟩
      replace HB := Lib.hid (HB.out.trans (hb4.mono HB.out.size))
      replace KX := Lib.hid (KX.out.below hb4)
      replace KY := Lib.hid (KY.out.below hb4)
      replace KZ := Lib.hid (KZ.out.below hb4)
      clear hb4
      go_wp2_with fail
      refine (J.out _).mono ?_
      rintro e5 w5 ⟨rfl, hb5⟩
      replace HB := Lib.hid (HB.out.trans (hb5.mono HB.out.size))
      replace KX := Lib.hid (KX.out.below hb5)
      replace KY := Lib.hid (KY.out.below hb5)
      replace KZ := Lib.hid (KZ.out.below hb5)
      clear hb5
      have yZ := KZ.out
      have yZ_0 := yZ.c 0 _ rfl
      have yZ_1 := yZ.c 1 _ rfl
      have yZ_z := yZ.lt
      have yZ_f0 := yZ.f 0 _ rfl
      have yZ_f1 := yZ.f 1 _ rfl
      clear yZ
      go_wp2
      replace KX := Lib.hid (blk_other (b := w.heap.size) (n := (w.heap.size + 1 + 1)) (j := 1) (blk_other (b := w.heap.size) (n := (w.heap.size + 1 + 1)) (j := 0) KX.out (by omega) (.int .i64 (hiW v))) (by omega) (.int .u64 (loW v)))
      replace KY := Lib.hid (blk_other (b := (w.heap.size + 1)) (n := (w.heap.size + 1 + 1)) (j := 1) (blk_other (b := (w.heap.size + 1)) (n := (w.heap.size + 1 + 1)) (j := 0) KY.out (by omega) (.int .i64 (hiW v))) (by omega) (.int .u64 (loW v)))
      replace KZ := Lib.hid (blk_set (blk_set KZ.out (j := 0) (by simp) (.int .i64 (hiW v))) (j := 1) (by simp) (.int .u64 (loW v)))
      replace HB := Lib.hid ((HB.out.setCell (p := ⟨(w.heap.size + 1 + 1), 0, none⟩) (show w.heap.size ≤ (w.heap.size + 1 + 1) by omega) (.int .i64 (hiW v))).setCell (p := ⟨(w.heap.size + 1 + 1), 1, none⟩) (show w.heap.size ≤ (w.heap.size + 1 + 1) by omega) (.int .u64 (loW v)))
      clear yZ_0 yZ_1 yZ_z yZ_f0 yZ_f1
      generalize (w5.setCell ⟨(w.heap.size + 1 + 1), 0, none⟩ (.int .i64 (hiW v))).setCell ⟨(w.heap.size + 1 + 1), 1, none⟩ (.int .u64 (loW v)) = w6 at *
      simp only [List.set] at KZ
      have yZ := KZ.out
      have yZ_0 := yZ.c 0 _ rfl
      have yZ_1 := yZ.c 1 _ rfl
      have yZ_z := yZ.lt
      clear yZ
      refine bodyPost_ret (v := .tuple #[.agg #[.int .i64 (hiW v), .int .u64 (loW v)], .bool true]) (by simp [results, Try.results91, go_sem, yZ_0, yZ_1]) rfl ⟨rfl, HB.out⟩
    · have gx : decide (hiW x < 0) = true := by have := hi_neg x; simp; omega
      have gr : (r == 0) = true := by simpa using hr
      have gr' : (r != 0) = false := by simpa using hr
      have gd : decide (d < r) = false := by simp; omega
      have gs : IntKind.u64.wrap (d - r) = d - r := by rw [IntKind.wrap_u64]; omega
      have gc : decide (d - r < r) = false := by simp; omega
      have ge : (r == d - r) = false := by simp; omega
      have ge' : (d - r == r) = false := by simp; omega
      have n1 : (hiW q != 0) = false := by simpa using hnz
      have n2 : (loW q != 0) = true := by simpa using hnl
      have J := Lib.hid fun w => rsigned_any q true w (by omega) (by omega)
      rw [← hv] at J
      unfold wv at J ⊢
      clear hv
      clear h0 h1 hr0 hr1 hd1 hx hr hnz hnl hc
      have SG := Lib.hid h.sg
      have SX := Lib.hid h.sx
      have SY := Lib.hid h.sy
      have DV := Lib.hid h.dv
      clear h
      have KX := Lib.hid (((Blk.of (vs := #[.int .i64 (hiW x), .int .u64 (loW x)]) (t := 51) (w := w) (b := w.heap.size) (by simp)).alloc (.cells #[.int .i64 0, .int .u64 d] 51)).alloc (.cells #[.int .i64 0, .int .u64 0] 51))
      have KY := Lib.hid ((Blk.of (vs := #[.int .i64 0, .int .u64 d]) (t := 51) (w := (w.alloc (.cells #[.int .i64 (hiW x), .int .u64 (loW x)] 51))) (b := w.heap.size + 1) (by simp)).alloc (.cells #[.int .i64 0, .int .u64 0] 51))
      have KZ := Lib.hid (Blk.of (vs := #[.int .i64 0, .int .u64 0]) (t := 51) (w := ((w.alloc (.cells #[.int .i64 (hiW x), .int .u64 (loW x)] 51)).alloc (.cells #[.int .i64 0, .int .u64 d] 51))) (b := w.heap.size + 1 + 1) (by simp))
      have HB := Lib.hid ((((Below.refl w.heap.size w).alloc (by simp; try omega) (.cells #[.int .i64 (hiW x), .int .u64 (loW x)] 51)).alloc (by simp; try omega) (.cells #[.int .i64 0, .int .u64 d] 51)).alloc (by simp; try omega) (.cells #[.int .i64 0, .int .u64 0] 51))
      go_enter Try.func91, Try.ntmps91
      go_wp2_with fail
      generalize ((w.alloc (.cells #[.int .i64 (hiW x), .int .u64 (loW x)] 51)).alloc (.cells #[.int .i64 0, .int .u64 d] 51)).alloc (.cells #[.int .i64 0, .int .u64 0] 51) = w0 at *
      refine (SG.out _).mono ?_
      rintro e1 w1 ⟨rfl, hb1⟩
      replace HB := Lib.hid (HB.out.trans (hb1.mono HB.out.size))
      replace KX := Lib.hid (KX.out.below hb1)
      replace KY := Lib.hid (KY.out.below hb1)
      replace KZ := Lib.hid (KZ.out.below hb1)
      clear hb1
      have yX := KX.out
      have yX_0 := yX.c 0 _ rfl
      have yX_1 := yX.c 1 _ rfl
      have yX_z := yX.lt
      clear yX
      have yY := KY.out
      have yY_0 := yY.c 0 _ rfl
      have yY_1 := yY.c 1 _ rfl
      have yY_z := yY.lt
      clear yY
      go_wp2_with fail
      refine (SX.out _).mono ?_
      rintro e2 w2 ⟨rfl, hb2⟩
      replace HB := Lib.hid (HB.out.trans (hb2.mono HB.out.size))
      replace KX := Lib.hid (KX.out.below hb2)
      replace KY := Lib.hid (KY.out.below hb2)
      replace KZ := Lib.hid (KZ.out.below hb2)
      clear yX_0 yX_1 yX_z yY_0 yY_1 yY_z
      clear hb2
      have yY := KY.out
      have yY_0 := yY.c 0 _ rfl
      have yY_1 := yY.c 1 _ rfl
      have yY_z := yY.lt
      clear yY
      go_wp2_with fail
      refine (SY.out _).mono ?_
      rintro e3 w3 ⟨rfl, hb3⟩
      replace HB := Lib.hid (HB.out.trans (hb3.mono HB.out.size))
      replace KX := Lib.hid (KX.out.below hb3)
      replace KY := Lib.hid (KY.out.below hb3)
      replace KZ := Lib.hid (KZ.out.below hb3)
      clear yY_0 yY_1 yY_z
      clear hb3
      go_wp2_with fail
      refine (DV.out _).mono ?_
      rintro e4 w4 ⟨rfl, hb4⟩
      replace HB := Lib.hid (HB.out.trans (hb4.mono HB.out.size))
      replace KX := Lib.hid (KX.out.below hb4)
      replace KY := Lib.hid (KY.out.below hb4)
      replace KZ := Lib.hid (KZ.out.below hb4)
      clear hb4
      go_wp2_with fail
      refine (J.out _).mono ?_
      rintro e5 w5 ⟨rfl, hb5⟩
      replace HB := Lib.hid (HB.out.trans (hb5.mono HB.out.size))
      replace KX := Lib.hid (KX.out.below hb5)
      replace KY := Lib.hid (KY.out.below hb5)
      replace KZ := Lib.hid (KZ.out.below hb5)
      clear hb5
      have yZ := KZ.out
      have yZ_0 := yZ.c 0 _ rfl
      have yZ_1 := yZ.c 1 _ rfl
      have yZ_z := yZ.lt
      have yZ_f0 := yZ.f 0 _ rfl
      have yZ_f1 := yZ.f 1 _ rfl
      clear yZ
      go_wp2
      replace KX := Lib.hid (blk_other (b := w.heap.size) (n := (w.heap.size + 1 + 1)) (j := 1) (blk_other (b := w.heap.size) (n := (w.heap.size + 1 + 1)) (j := 0) KX.out (by omega) (.int .i64 (hiW v))) (by omega) (.int .u64 (loW v)))
      replace KY := Lib.hid (blk_other (b := (w.heap.size + 1)) (n := (w.heap.size + 1 + 1)) (j := 1) (blk_other (b := (w.heap.size + 1)) (n := (w.heap.size + 1 + 1)) (j := 0) KY.out (by omega) (.int .i64 (hiW v))) (by omega) (.int .u64 (loW v)))
      replace KZ := Lib.hid (blk_set (blk_set KZ.out (j := 0) (by simp) (.int .i64 (hiW v))) (j := 1) (by simp) (.int .u64 (loW v)))
      replace HB := Lib.hid ((HB.out.setCell (p := ⟨(w.heap.size + 1 + 1), 0, none⟩) (show w.heap.size ≤ (w.heap.size + 1 + 1) by omega) (.int .i64 (hiW v))).setCell (p := ⟨(w.heap.size + 1 + 1), 1, none⟩) (show w.heap.size ≤ (w.heap.size + 1 + 1) by omega) (.int .u64 (loW v)))
      clear yZ_0 yZ_1 yZ_z yZ_f0 yZ_f1
      generalize (w5.setCell ⟨(w.heap.size + 1 + 1), 0, none⟩ (.int .i64 (hiW v))).setCell ⟨(w.heap.size + 1 + 1), 1, none⟩ (.int .u64 (loW v)) = w6 at *
      simp only [List.set] at KZ
      have yZ := KZ.out
      have yZ_0 := yZ.c 0 _ rfl
      have yZ_1 := yZ.c 1 _ rfl
      have yZ_z := yZ.lt
      clear yZ
      refine bodyPost_ret (v := .tuple #[.agg #[.int .i64 (hiW v), .int .u64 (loW v)], .bool true]) (by simp [results, Try.results91, go_sem, yZ_0, yZ_1]) rfl ⟨rfl, HB.out⟩
  · have gx : decide (hiW x < 0) = true := by have := hi_neg x; simp; omega
    have gr : (r == 0) = true := by simpa using hr
    have gr' : (r != 0) = false := by simpa using hr
    have gd : decide (d < r) = false := by simp; omega
    have gs : IntKind.u64.wrap (d - r) = d - r := by rw [IntKind.wrap_u64]; omega
    have gc : decide (d - r < r) = false := by simp; omega
    have ge : (r == d - r) = false := by simp; omega
    have ge' : (d - r == r) = false := by simp; omega
    have n1 : (hiW q != 0) = true := by simpa using hnz
    have J := Lib.hid fun w => rsigned_any q true w (by omega) (by omega)
    rw [← hv] at J
    unfold wv at J ⊢
    clear hv
    clear h0 h1 hr0 hr1 hd1 hx hr hnz hc
    have SG := Lib.hid h.sg
    have SX := Lib.hid h.sx
    have SY := Lib.hid h.sy
    have DV := Lib.hid h.dv
    clear h
    have KX := Lib.hid (((Blk.of (vs := #[.int .i64 (hiW x), .int .u64 (loW x)]) (t := 51) (w := w) (b := w.heap.size) (by simp)).alloc (.cells #[.int .i64 0, .int .u64 d] 51)).alloc (.cells #[.int .i64 0, .int .u64 0] 51))
    have KY := Lib.hid ((Blk.of (vs := #[.int .i64 0, .int .u64 d]) (t := 51) (w := (w.alloc (.cells #[.int .i64 (hiW x), .int .u64 (loW x)] 51))) (b := w.heap.size + 1) (by simp)).alloc (.cells #[.int .i64 0, .int .u64 0] 51))
    have KZ := Lib.hid (Blk.of (vs := #[.int .i64 0, .int .u64 0]) (t := 51) (w := ((w.alloc (.cells #[.int .i64 (hiW x), .int .u64 (loW x)] 51)).alloc (.cells #[.int .i64 0, .int .u64 d] 51))) (b := w.heap.size + 1 + 1) (by simp))
    have HB := Lib.hid ((((Below.refl w.heap.size w).alloc (by simp; try omega) (.cells #[.int .i64 (hiW x), .int .u64 (loW x)] 51)).alloc (by simp; try omega) (.cells #[.int .i64 0, .int .u64 d] 51)).alloc (by simp; try omega) (.cells #[.int .i64 0, .int .u64 0] 51))
    go_enter Try.func91, Try.ntmps91
    go_wp2_with fail
    generalize ((w.alloc (.cells #[.int .i64 (hiW x), .int .u64 (loW x)] 51)).alloc (.cells #[.int .i64 0, .int .u64 d] 51)).alloc (.cells #[.int .i64 0, .int .u64 0] 51) = w0 at *
    refine (SG.out _).mono ?_
    rintro e1 w1 ⟨rfl, hb1⟩
    replace HB := Lib.hid (HB.out.trans (hb1.mono HB.out.size))
    replace KX := Lib.hid (KX.out.below hb1)
    replace KY := Lib.hid (KY.out.below hb1)
    replace KZ := Lib.hid (KZ.out.below hb1)
    clear hb1
    have yX := KX.out
    have yX_0 := yX.c 0 _ rfl
    have yX_1 := yX.c 1 _ rfl
    have yX_z := yX.lt
    clear yX
    have yY := KY.out
    have yY_0 := yY.c 0 _ rfl
    have yY_1 := yY.c 1 _ rfl
    have yY_z := yY.lt
    clear yY
    go_wp2_with fail
    refine (SX.out _).mono ?_
    rintro e2 w2 ⟨rfl, hb2⟩
    replace HB := Lib.hid (HB.out.trans (hb2.mono HB.out.size))
    replace KX := Lib.hid (KX.out.below hb2)
    replace KY := Lib.hid (KY.out.below hb2)
    replace KZ := Lib.hid (KZ.out.below hb2)
    clear yX_0 yX_1 yX_z yY_0 yY_1 yY_z
    clear hb2
    have yY := KY.out
    have yY_0 := yY.c 0 _ rfl
    have yY_1 := yY.c 1 _ rfl
    have yY_z := yY.lt
    clear yY
    go_wp2_with fail
    refine (SY.out _).mono ?_
    rintro e3 w3 ⟨rfl, hb3⟩
    replace HB := Lib.hid (HB.out.trans (hb3.mono HB.out.size))
    replace KX := Lib.hid (KX.out.below hb3)
    replace KY := Lib.hid (KY.out.below hb3)
    replace KZ := Lib.hid (KZ.out.below hb3)
    clear yY_0 yY_1 yY_z
    clear hb3
    go_wp2_with fail
    refine (DV.out _).mono ?_
    rintro e4 w4 ⟨rfl, hb4⟩
    replace HB := Lib.hid (HB.out.trans (hb4.mono HB.out.size))
    replace KX := Lib.hid (KX.out.below hb4)
    replace KY := Lib.hid (KY.out.below hb4)
    replace KZ := Lib.hid (KZ.out.below hb4)
    clear hb4
    go_wp2_with fail
    refine (J.out _).mono ?_
    rintro e5 w5 ⟨rfl, hb5⟩
    replace HB := Lib.hid (HB.out.trans (hb5.mono HB.out.size))
    replace KX := Lib.hid (KX.out.below hb5)
    replace KY := Lib.hid (KY.out.below hb5)
    replace KZ := Lib.hid (KZ.out.below hb5)
    clear hb5
    have yZ := KZ.out
    have yZ_0 := yZ.c 0 _ rfl
    have yZ_1 := yZ.c 1 _ rfl
    have yZ_z := yZ.lt
    have yZ_f0 := yZ.f 0 _ rfl
    have yZ_f1 := yZ.f 1 _ rfl
    clear yZ
    go_wp2
    replace KX := Lib.hid (blk_other (b := w.heap.size) (n := (w.heap.size + 1 + 1)) (j := 1) (blk_other (b := w.heap.size) (n := (w.heap.size + 1 + 1)) (j := 0) KX.out (by omega) (.int .i64 (hiW v))) (by omega) (.int .u64 (loW v)))
    replace KY := Lib.hid (blk_other (b := (w.heap.size + 1)) (n := (w.heap.size + 1 + 1)) (j := 1) (blk_other (b := (w.heap.size + 1)) (n := (w.heap.size + 1 + 1)) (j := 0) KY.out (by omega) (.int .i64 (hiW v))) (by omega) (.int .u64 (loW v)))
    replace KZ := Lib.hid (blk_set (blk_set KZ.out (j := 0) (by simp) (.int .i64 (hiW v))) (j := 1) (by simp) (.int .u64 (loW v)))
    replace HB := Lib.hid ((HB.out.setCell (p := ⟨(w.heap.size + 1 + 1), 0, none⟩) (show w.heap.size ≤ (w.heap.size + 1 + 1) by omega) (.int .i64 (hiW v))).setCell (p := ⟨(w.heap.size + 1 + 1), 1, none⟩) (show w.heap.size ≤ (w.heap.size + 1 + 1) by omega) (.int .u64 (loW v)))
    clear yZ_0 yZ_1 yZ_z yZ_f0 yZ_f1
    generalize (w5.setCell ⟨(w.heap.size + 1 + 1), 0, none⟩ (.int .i64 (hiW v))).setCell ⟨(w.heap.size + 1 + 1), 1, none⟩ (.int .u64 (loW v)) = w6 at *
    simp only [List.set] at KZ
    have yZ := KZ.out
    have yZ_0 := yZ.c 0 _ rfl
    have yZ_1 := yZ.c 1 _ rfl
    have yZ_z := yZ.lt
    clear yZ
    refine bodyPost_ret (v := .tuple #[.agg #[.int .i64 (hiW v), .int .u64 (loW v)], .bool true]) (by simp [results, Try.results91, go_sem, yZ_0, yZ_1]) rfl ⟨rfl, HB.out⟩
set_option maxHeartbeats 16000000 in
set_option maxRecDepth 100000 in
theorem quo_nearN1lt (x d q r v : Int) (w : World) (h : QuoW x d q r) (hx : x < 0) (h0 : 0 ≤ q) (h1 : q < 85070591730234615865843651857942052864) (hr : ¬ r = 0) (hr0 : 0 ≤ r) (hr1 : r < d) (hd1 : d < 9223372036854775808) (hc : r < d - r) (hv : v = sgn true q) :
    Calls Try.prog 91 #[wv x, .agg #[.int .i64 0, .int .u64 d], .int .i64 2] w fun e w' => e = .returned (.tuple #[wv v, .bool true]) ∧ Below w.heap.size w w' := by
  by_cases hnz : hiW q = 0
  · by_cases hnl : loW q = 0
    · have gx : decide (hiW x < 0) = true := by have := hi_neg x; simp; omega
      have gr : (r == 0) = false := by simpa using hr
      have gr' : (r != 0) = true := by simpa using hr
      have gd : decide (d < r) = false := by simp; omega
      have gs : IntKind.u64.wrap (d - r) = d - r := by rw [IntKind.wrap_u64]; omega
      have gc : decide (d - r < r) = false := by simp; omega
      have ge : (r == d - r) = false := by simp; omega
      have ge' : (d - r == r) = false := by simp; omega
      have n1 : (hiW q != 0) = false := by simpa using hnz
      have n2 : (loW q != 0) = false := by simpa using hnl
      have J := Lib.hid fun w => rsigned_any q false w (by omega) (by omega)
      have e0 : sgn false q = v := by rw [hv]; unfold sgn; simp; unfold hiW loW at *; omega
      rw [e0] at J
      unfold wv at J ⊢
      clear hv
      clear h0 h1 hr0 hr1 hd1 hx hr hnz hnl hc
      have SG := Lib.hid h.sg
      have SX := Lib.hid h.sx
      have SY := Lib.hid h.sy
      have DV := Lib.hid h.dv
      clear h
      have KX := Lib.hid (((Blk.of (vs := #[.int .i64 (hiW x), .int .u64 (loW x)]) (t := 51) (w := w) (b := w.heap.size) (by simp)).alloc (.cells #[.int .i64 0, .int .u64 d] 51)).alloc (.cells #[.int .i64 0, .int .u64 0] 51))
      have KY := Lib.hid ((Blk.of (vs := #[.int .i64 0, .int .u64 d]) (t := 51) (w := (w.alloc (.cells #[.int .i64 (hiW x), .int .u64 (loW x)] 51))) (b := w.heap.size + 1) (by simp)).alloc (.cells #[.int .i64 0, .int .u64 0] 51))
      have KZ := Lib.hid (Blk.of (vs := #[.int .i64 0, .int .u64 0]) (t := 51) (w := ((w.alloc (.cells #[.int .i64 (hiW x), .int .u64 (loW x)] 51)).alloc (.cells #[.int .i64 0, .int .u64 d] 51))) (b := w.heap.size + 1 + 1) (by simp))
      have HB := Lib.hid ((((Below.refl w.heap.size w).alloc (by simp; try omega) (.cells #[.int .i64 (hiW x), .int .u64 (loW x)] 51)).alloc (by simp; try omega) (.cells #[.int .i64 0, .int .u64 d] 51)).alloc (by simp; try omega) (.cells #[.int .i64 0, .int .u64 0] 51))
      go_enter Try.func91, Try.ntmps91
      go_wp2_with fail
      generalize ((w.alloc (.cells #[.int .i64 (hiW x), .int .u64 (loW x)] 51)).alloc (.cells #[.int .i64 0, .int .u64 d] 51)).alloc (.cells #[.int .i64 0, .int .u64 0] 51) = w0 at *
      refine (SG.out _).mono ?_
      rintro e1 w1 ⟨rfl, hb1⟩
      replace HB := Lib.hid (HB.out.trans (hb1.mono HB.out.size))
      replace KX := Lib.hid (KX.out.below hb1)
      replace KY := Lib.hid (KY.out.below hb1)
      replace KZ := Lib.hid (KZ.out.below hb1)
      clear hb1
      have yX := KX.out
      have yX_0 := yX.c 0 _ rfl
      have yX_1 := yX.c 1 _ rfl
      have yX_z := yX.lt
      clear yX
      have yY := KY.out
      have yY_0 := yY.c 0 _ rfl
      have yY_1 := yY.c 1 _ rfl
      have yY_z := yY.lt
      clear yY
      go_wp2_with fail
      refine (SX.out _).mono ?_
      rintro e2 w2 ⟨rfl, hb2⟩
      replace HB := Lib.hid (HB.out.trans (hb2.mono HB.out.size))
      replace KX := Lib.hid (KX.out.below hb2)
      replace KY := Lib.hid (KY.out.below hb2)
      replace KZ := Lib.hid (KZ.out.below hb2)
      clear yX_0 yX_1 yX_z yY_0 yY_1 yY_z
      clear hb2
      have yY := KY.out
      have yY_0 := yY.c 0 _ rfl
      have yY_1 := yY.c 1 _ rfl
      have yY_z := yY.lt
      clear yY
      go_wp2_with fail
      refine (SY.out _).mono ?_
      rintro e3 w3 ⟨rfl, hb3⟩
      replace HB := Lib.hid (HB.out.trans (hb3.mono HB.out.size))
      replace KX := Lib.hid (KX.out.below hb3)
      replace KY := Lib.hid (KY.out.below hb3)
      replace KZ := Lib.hid (KZ.out.below hb3)
      clear yY_0 yY_1 yY_z
      clear hb3
      go_wp2_with fail
      refine (DV.out _).mono ?_
      rintro e4 w4 ⟨rfl, hb4⟩
      replace HB := Lib.hid (HB.out.trans (hb4.mono HB.out.size))
      replace KX := Lib.hid (KX.out.below hb4)
      replace KY := Lib.hid (KY.out.below hb4)
      replace KZ := Lib.hid (KZ.out.below hb4)
      clear hb4
      go_wp2_with fail
      refine (J.out _).mono ?_
      rintro e5 w5 ⟨rfl, hb5⟩
      replace HB := Lib.hid (HB.out.trans (hb5.mono HB.out.size))
      replace KX := Lib.hid (KX.out.below hb5)
      replace KY := Lib.hid (KY.out.below hb5)
      replace KZ := Lib.hid (KZ.out.below hb5)
      clear hb5
      have yZ := KZ.out
      have yZ_0 := yZ.c 0 _ rfl
      have yZ_1 := yZ.c 1 _ rfl
      have yZ_z := yZ.lt
      have yZ_f0 := yZ.f 0 _ rfl
      have yZ_f1 := yZ.f 1 _ rfl
      clear yZ
      go_wp2
      replace KX := Lib.hid (blk_other (b := w.heap.size) (n := (w.heap.size + 1 + 1)) (j := 1) (blk_other (b := w.heap.size) (n := (w.heap.size + 1 + 1)) (j := 0) KX.out (by omega) (.int .i64 (hiW v))) (by omega) (.int .u64 (loW v)))
      replace KY := Lib.hid (blk_other (b := (w.heap.size + 1)) (n := (w.heap.size + 1 + 1)) (j := 1) (blk_other (b := (w.heap.size + 1)) (n := (w.heap.size + 1 + 1)) (j := 0) KY.out (by omega) (.int .i64 (hiW v))) (by omega) (.int .u64 (loW v)))
      replace KZ := Lib.hid (blk_set (blk_set KZ.out (j := 0) (by simp) (.int .i64 (hiW v))) (j := 1) (by simp) (.int .u64 (loW v)))
      replace HB := Lib.hid ((HB.out.setCell (p := ⟨(w.heap.size + 1 + 1), 0, none⟩) (show w.heap.size ≤ (w.heap.size + 1 + 1) by omega) (.int .i64 (hiW v))).setCell (p := ⟨(w.heap.size + 1 + 1), 1, none⟩) (show w.heap.size ≤ (w.heap.size + 1 + 1) by omega) (.int .u64 (loW v)))
      clear yZ_0 yZ_1 yZ_z yZ_f0 yZ_f1
      generalize (w5.setCell ⟨(w.heap.size + 1 + 1), 0, none⟩ (.int .i64 (hiW v))).setCell ⟨(w.heap.size + 1 + 1), 1, none⟩ (.int .u64 (loW v)) = w6 at *
      simp only [List.set] at KZ
      have yZ := KZ.out
      have yZ_0 := yZ.c 0 _ rfl
      have yZ_1 := yZ.c 1 _ rfl
      have yZ_z := yZ.lt
      clear yZ
      refine bodyPost_ret (v := .tuple #[.agg #[.int .i64 (hiW v), .int .u64 (loW v)], .bool true]) (by simp [results, Try.results91, go_sem, yZ_0, yZ_1]) rfl ⟨rfl, HB.out⟩
    · have gx : decide (hiW x < 0) = true := by have := hi_neg x; simp; omega
      have gr : (r == 0) = false := by simpa using hr
      have gr' : (r != 0) = true := by simpa using hr
      have gd : decide (d < r) = false := by simp; omega
      have gs : IntKind.u64.wrap (d - r) = d - r := by rw [IntKind.wrap_u64]; omega
      have gc : decide (d - r < r) = false := by simp; omega
      have ge : (r == d - r) = false := by simp; omega
      have ge' : (d - r == r) = false := by simp; omega
      have n1 : (hiW q != 0) = false := by simpa using hnz
      have n2 : (loW q != 0) = true := by simpa using hnl
      have J := Lib.hid fun w => rsigned_any q true w (by omega) (by omega)
      rw [← hv] at J
      unfold wv at J ⊢
      clear hv
      clear h0 h1 hr0 hr1 hd1 hx hr hnz hnl hc
      have SG := Lib.hid h.sg
      have SX := Lib.hid h.sx
      have SY := Lib.hid h.sy
      have DV := Lib.hid h.dv
      clear h
      have KX := Lib.hid (((Blk.of (vs := #[.int .i64 (hiW x), .int .u64 (loW x)]) (t := 51) (w := w) (b := w.heap.size) (by simp)).alloc (.cells #[.int .i64 0, .int .u64 d] 51)).alloc (.cells #[.int .i64 0, .int .u64 0] 51))
      have KY := Lib.hid ((Blk.of (vs := #[.int .i64 0, .int .u64 d]) (t := 51) (w := (w.alloc (.cells #[.int .i64 (hiW x), .int .u64 (loW x)] 51))) (b := w.heap.size + 1) (by simp)).alloc (.cells #[.int .i64 0, .int .u64 0] 51))
      have KZ := Lib.hid (Blk.of (vs := #[.int .i64 0, .int .u64 0]) (t := 51) (w := ((w.alloc (.cells #[.int .i64 (hiW x), .int .u64 (loW x)] 51)).alloc (.cells #[.int .i64 0, .int .u64 d] 51))) (b := w.heap.size + 1 + 1) (by simp))
      have HB := Lib.hid ((((Below.refl w.heap.size w).alloc (by simp; try omega) (.cells #[.int .i64 (hiW x), .int .u64 (loW x)] 51)).alloc (by simp; try omega) (.cells #[.int .i64 0, .int .u64 d] 51)).alloc (by simp; try omega) (.cells #[.int .i64 0, .int .u64 0] 51))
      go_enter Try.func91, Try.ntmps91
      go_wp2_with fail
      generalize ((w.alloc (.cells #[.int .i64 (hiW x), .int .u64 (loW x)] 51)).alloc (.cells #[.int .i64 0, .int .u64 d] 51)).alloc (.cells #[.int .i64 0, .int .u64 0] 51) = w0 at *
      refine (SG.out _).mono ?_
      rintro e1 w1 ⟨rfl, hb1⟩
      replace HB := Lib.hid (HB.out.trans (hb1.mono HB.out.size))
      replace KX := Lib.hid (KX.out.below hb1)
      replace KY := Lib.hid (KY.out.below hb1)
      replace KZ := Lib.hid (KZ.out.below hb1)
      clear hb1
      have yX := KX.out
      have yX_0 := yX.c 0 _ rfl
      have yX_1 := yX.c 1 _ rfl
      have yX_z := yX.lt
      clear yX
      have yY := KY.out
      have yY_0 := yY.c 0 _ rfl
      have yY_1 := yY.c 1 _ rfl
      have yY_z := yY.lt
      clear yY
      go_wp2_with fail
      refine (SX.out _).mono ?_
      rintro e2 w2 ⟨rfl, hb2⟩
      replace HB := Lib.hid (HB.out.trans (hb2.mono HB.out.size))
      replace KX := Lib.hid (KX.out.below hb2)
      replace KY := Lib.hid (KY.out.below hb2)
      replace KZ := Lib.hid (KZ.out.below hb2)
      clear yX_0 yX_1 yX_z yY_0 yY_1 yY_z
      clear hb2
      have yY := KY.out
      have yY_0 := yY.c 0 _ rfl
      have yY_1 := yY.c 1 _ rfl
      have yY_z := yY.lt
      clear yY
      go_wp2_with fail
      refine (SY.out _).mono ?_
      rintro e3 w3 ⟨rfl, hb3⟩
      replace HB := Lib.hid (HB.out.trans (hb3.mono HB.out.size))
      replace KX := Lib.hid (KX.out.below hb3)
      replace KY := Lib.hid (KY.out.below hb3)
      replace KZ := Lib.hid (KZ.out.below hb3)
      clear yY_0 yY_1 yY_z
      clear hb3
      go_wp2_with fail
      refine (DV.out _).mono ?_
      rintro e4 w4 ⟨rfl, hb4⟩
      replace HB := Lib.hid (HB.out.trans (hb4.mono HB.out.size))
      replace KX := Lib.hid (KX.out.below hb4)
      replace KY := Lib.hid (KY.out.below hb4)
      replace KZ := Lib.hid (KZ.out.below hb4)
      clear hb4
      go_wp2_with fail
      refine (J.out _).mono ?_
      rintro e5 w5 ⟨rfl, hb5⟩
      replace HB := Lib.hid (HB.out.trans (hb5.mono HB.out.size))
      replace KX := Lib.hid (KX.out.below hb5)
      replace KY := Lib.hid (KY.out.below hb5)
      replace KZ := Lib.hid (KZ.out.below hb5)
      clear hb5
      have yZ := KZ.out
      have yZ_0 := yZ.c 0 _ rfl
      have yZ_1 := yZ.c 1 _ rfl
      have yZ_z := yZ.lt
      have yZ_f0 := yZ.f 0 _ rfl
      have yZ_f1 := yZ.f 1 _ rfl
      clear yZ
      go_wp2
      replace KX := Lib.hid (blk_other (b := w.heap.size) (n := (w.heap.size + 1 + 1)) (j := 1) (blk_other (b := w.heap.size) (n := (w.heap.size + 1 + 1)) (j := 0) KX.out (by omega) (.int .i64 (hiW v))) (by omega) (.int .u64 (loW v)))
      replace KY := Lib.hid (blk_other (b := (w.heap.size + 1)) (n := (w.heap.size + 1 + 1)) (j := 1) (blk_other (b := (w.heap.size + 1)) (n := (w.heap.size + 1 + 1)) (j := 0) KY.out (by omega) (.int .i64 (hiW v))) (by omega) (.int .u64 (loW v)))
      replace KZ := Lib.hid (blk_set (blk_set KZ.out (j := 0) (by simp) (.int .i64 (hiW v))) (j := 1) (by simp) (.int .u64 (loW v)))
      replace HB := Lib.hid ((HB.out.setCell (p := ⟨(w.heap.size + 1 + 1), 0, none⟩) (show w.heap.size ≤ (w.heap.size + 1 + 1) by omega) (.int .i64 (hiW v))).setCell (p := ⟨(w.heap.size + 1 + 1), 1, none⟩) (show w.heap.size ≤ (w.heap.size + 1 + 1) by omega) (.int .u64 (loW v)))
      clear yZ_0 yZ_1 yZ_z yZ_f0 yZ_f1
      generalize (w5.setCell ⟨(w.heap.size + 1 + 1), 0, none⟩ (.int .i64 (hiW v))).setCell ⟨(w.heap.size + 1 + 1), 1, none⟩ (.int .u64 (loW v)) = w6 at *
      simp only [List.set] at KZ
      have yZ := KZ.out
      have yZ_0 := yZ.c 0 _ rfl
      have yZ_1 := yZ.c 1 _ rfl
      have yZ_z := yZ.lt
      clear yZ
      refine bodyPost_ret (v := .tuple #[.agg #[.int .i64 (hiW v), .int .u64 (loW v)], .bool true]) (by simp [results, Try.results91, go_sem, yZ_0, yZ_1]) rfl ⟨rfl, HB.out⟩
  · have gx : decide (hiW x < 0) = true := by have := hi_neg x; simp; omega
    have gr : (r == 0) = false := by simpa using hr
    have gr' : (r != 0) = true := by simpa using hr
    have gd : decide (d < r) = false := by simp; omega
    have gs : IntKind.u64.wrap (d - r) = d - r := by rw [IntKind.wrap_u64]; omega
    have gc : decide (d - r < r) = false := by simp; omega
    have ge : (r == d - r) = false := by simp; omega
    have ge' : (d - r == r) = false := by simp; omega
    have n1 : (hiW q != 0) = true := by simpa using hnz
    have J := Lib.hid fun w => rsigned_any q true w (by omega) (by omega)
    rw [← hv] at J
    unfold wv at J ⊢
    clear hv
    clear h0 h1 hr0 hr1 hd1 hx hr hnz hc
    have SG := Lib.hid h.sg
    have SX := Lib.hid h.sx
    have SY := Lib.hid h.sy
    have DV := Lib.hid h.dv
    clear h
    have KX := Lib.hid (((Blk.of (vs := #[.int .i64 (hiW x), .int .u64 (loW x)]) (t := 51) (w := w) (b := w.heap.size) (by simp)).alloc (.cells #[.int .i64 0, .int .u64 d] 51)).alloc (.cells #[.int .i64 0, .int .u64 0] 51))
    have KY := Lib.hid ((Blk.of (vs := #[.int .i64 0, .int .u64 d]) (t := 51) (w := (w.alloc (.cells #[.int .i64 (hiW x), .int .u64 (loW x)] 51))) (b := w.heap.size + 1) (by simp)).alloc (.cells #[.int .i64 0, .int .u64 0] 51))
    have KZ := Lib.hid (Blk.of (vs := #[.int .i64 0, .int .u64 0]) (t := 51) (w := ((w.alloc (.cells #[.int .i64 (hiW x), .int .u64 (loW x)] 51)).alloc (.cells #[.int .i64 0, .int .u64 d] 51))) (b := w.heap.size + 1 + 1) (by simp))
    have HB := Lib.hid ((((Below.refl w.heap.size w).alloc (by simp; try omega) (.cells #[.int .i64 (hiW x), .int .u64 (loW x)] 51)).alloc (by simp; try omega) (.cells #[.int .i64 0, .int .u64 d] 51)).alloc (by simp; try omega) (.cells #[.int .i64 0, .int .u64 0] 51))
    go_enter Try.func91, Try.ntmps91
    go_wp2_with fail
    generalize ((w.alloc (.cells #[.int .i64 (hiW x), .int .u64 (loW x)] 51)).alloc (.cells #[.int .i64 0, .int .u64 d] 51)).alloc (.cells #[.int .i64 0, .int .u64 0] 51) = w0 at *
    refine (SG.out _).mono ?_
    rintro e1 w1 ⟨rfl, hb1⟩
    replace HB := Lib.hid (HB.out.trans (hb1.mono HB.out.size))
    replace KX := Lib.hid (KX.out.below hb1)
    replace KY := Lib.hid (KY.out.below hb1)
    replace KZ := Lib.hid (KZ.out.below hb1)
    clear hb1
    have yX := KX.out
    have yX_0 := yX.c 0 _ rfl
    have yX_1 := yX.c 1 _ rfl
    have yX_z := yX.lt
    clear yX
    have yY := KY.out
    have yY_0 := yY.c 0 _ rfl
    have yY_1 := yY.c 1 _ rfl
    have yY_z := yY.lt
    clear yY
    go_wp2_with fail
    refine (SX.out _).mono ?_
    rintro e2 w2 ⟨rfl, hb2⟩
    replace HB := Lib.hid (HB.out.trans (hb2.mono HB.out.size))
    replace KX := Lib.hid (KX.out.below hb2)
    replace KY := Lib.hid (KY.out.below hb2)
    replace KZ := Lib.hid (KZ.out.below hb2)
    clear yX_0 yX_1 yX_z yY_0 yY_1 yY_z
    clear hb2
    have yY := KY.out
    have yY_0 := yY.c 0 _ rfl
    have yY_1 := yY.c 1 _ rfl
    have yY_z := yY.lt
    clear yY
    go_wp2_with fail
    refine (SY.out _).mono ?_
    rintro e3 w3 ⟨rfl, hb3⟩
    replace HB := Lib.hid (HB.out.trans (hb3.mono HB.out.size))
    replace KX := Lib.hid (KX.out.below hb3)
    replace KY := Lib.hid (KY.out.below hb3)
    replace KZ := Lib.hid (KZ.out.below hb3)
    clear yY_0 yY_1 yY_z
    clear hb3
    go_wp2_with fail
    refine (DV.out _).mono ?_
    rintro e4 w4 ⟨rfl, hb4⟩
    replace HB := Lib.hid (HB.out.trans (hb4.mono HB.out.size))
    replace KX := Lib.hid (KX.out.below hb4)
    replace KY := Lib.hid (KY.out.below hb4)
    replace KZ := Lib.hid (KZ.out.below hb4)
    clear hb4
    go_wp2_with fail
    refine (J.out _).mono ?_
    rintro e5 w5 ⟨rfl, hb5⟩
    replace HB := Lib.hid (HB.out.trans (hb5.mono HB.out.size))
    replace KX := Lib.hid (KX.out.below hb5)
    replace KY := Lib.hid (KY.out.below hb5)
    replace KZ := Lib.hid (KZ.out.below hb5)
    clear hb5
    have yZ := KZ.out
    have yZ_0 := yZ.c 0 _ rfl
    have yZ_1 := yZ.c 1 _ rfl
    have yZ_z := yZ.lt
    have yZ_f0 := yZ.f 0 _ rfl
    have yZ_f1 := yZ.f 1 _ rfl
    clear yZ
    go_wp2
    replace KX := Lib.hid (blk_other (b := w.heap.size) (n := (w.heap.size + 1 + 1)) (j := 1) (blk_other (b := w.heap.size) (n := (w.heap.size + 1 + 1)) (j := 0) KX.out (by omega) (.int .i64 (hiW v))) (by omega) (.int .u64 (loW v)))
    replace KY := Lib.hid (blk_other (b := (w.heap.size + 1)) (n := (w.heap.size + 1 + 1)) (j := 1) (blk_other (b := (w.heap.size + 1)) (n := (w.heap.size + 1 + 1)) (j := 0) KY.out (by omega) (.int .i64 (hiW v))) (by omega) (.int .u64 (loW v)))
    replace KZ := Lib.hid (blk_set (blk_set KZ.out (j := 0) (by simp) (.int .i64 (hiW v))) (j := 1) (by simp) (.int .u64 (loW v)))
    replace HB := Lib.hid ((HB.out.setCell (p := ⟨(w.heap.size + 1 + 1), 0, none⟩) (show w.heap.size ≤ (w.heap.size + 1 + 1) by omega) (.int .i64 (hiW v))).setCell (p := ⟨(w.heap.size + 1 + 1), 1, none⟩) (show w.heap.size ≤ (w.heap.size + 1 + 1) by omega) (.int .u64 (loW v)))
    clear yZ_0 yZ_1 yZ_z yZ_f0 yZ_f1
    generalize (w5.setCell ⟨(w.heap.size + 1 + 1), 0, none⟩ (.int .i64 (hiW v))).setCell ⟨(w.heap.size + 1 + 1), 1, none⟩ (.int .u64 (loW v)) = w6 at *
    simp only [List.set] at KZ
    have yZ := KZ.out
    have yZ_0 := yZ.c 0 _ rfl
    have yZ_1 := yZ.c 1 _ rfl
    have yZ_z := yZ.lt
    clear yZ
    refine bodyPost_ret (v := .tuple #[.agg #[.int .i64 (hiW v), .int .u64 (loW v)], .bool true]) (by simp [results, Try.results91, go_sem, yZ_0, yZ_1]) rfl ⟨rfl, HB.out⟩
set_option maxHeartbeats 16000000 in
set_option maxRecDepth 100000 in
theorem quo_nearN1eq (x d q r v : Int) (w : World) (h : QuoW x d q r) (hx : x < 0) (h0 : 0 ≤ q) (h1 : q < 85070591730234615865843651857942052864) (hr : ¬ r = 0) (hr0 : 0 ≤ r) (hr1 : r < d) (hd1 : d < 9223372036854775808) (hc : r = d - r) (hv : v = sgn true q) :
    Calls Try.prog 91 #[wv x, .agg #[.int .i64 0, .int .u64 d], .int .i64 2] w fun e w' => e = .returned (.tuple #[wv v, .bool true]) ∧ Below w.heap.size w w' := by
  by_cases hnz : hiW q = 0
  · by_cases hnl : loW q = 0
    · have gx : decide (hiW x < 0) = true := by have := hi_neg x; simp; omega
      have gr : (r == 0) = false := by simpa using hr
      have gr' : (r != 0) = true := by simpa using hr
      have gd : decide (d < r) = false := by simp; omega
      have gs : IntKind.u64.wrap (d - r) = d - r := by rw [IntKind.wrap_u64]; omega
      have gc : decide (d - r < r) = false := by simp; omega
      have ge : (r == d - r) = true := by simp; omega
      have ge' : (d - r == r) = true := by simp; omega
      have n1 : (hiW q != 0) = false := by simpa using hnz
      have n2 : (loW q != 0) = false := by simpa using hnl
      have J := Lib.hid fun w => rsigned_any q false w (by omega) (by omega)
      have e0 : sgn false q = v := by rw [hv]; unfold sgn; simp; unfold hiW loW at *; omega
      rw [e0] at J
      unfold wv at J ⊢
      clear hv
      clear h0 h1 hr0 hr1 hd1 hx hr hnz hnl hc
      have SG := Lib.hid h.sg
      have SX := Lib.hid h.sx
      have SY := Lib.hid h.sy
      have DV := Lib.hid h.dv
      clear h
      have KX := Lib.hid (((Blk.of (vs := #[.int .i64 (hiW x), .int .u64 (loW x)]) (t := 51) (w := w) (b := w.heap.size) (by simp)).alloc (.cells #[.int .i64 0, .int .u64 d] 51)).alloc (.cells #[.int .i64 0, .int .u64 0] 51))
      have KY := Lib.hid ((Blk.of (vs := #[.int .i64 0, .int .u64 d]) (t := 51) (w := (w.alloc (.cells #[.int .i64 (hiW x), .int .u64 (loW x)] 51))) (b := w.heap.size + 1) (by simp)).alloc (.cells #[.int .i64 0, .int .u64 0] 51))
      have KZ := Lib.hid (Blk.of (vs := #[.int .i64 0, .int .u64 0]) (t := 51) (w := ((w.alloc (.cells #[.int .i64 (hiW x), .int .u64 (loW x)] 51)).alloc (.cells #[.int .i64 0, .int .u64 d] 51))) (b := w.heap.size + 1 + 1) (by simp))
      have HB := Lib.hid ((((Below.refl w.heap.size w).alloc (by simp; try omega) (.cells #[.int .i64 (hiW x), .int .u64 (loW x)] 51)).alloc (by simp; try omega) (.cells #[.int .i64 0, .int .u64 d] 51)).alloc (by simp; try omega) (.cells #[.int .i64 0, .int .u64 0] 51))
      go_enter Try.func91, Try.ntmps91
      go_wp2_with fail
      generalize ((w.alloc (.cells #[.int .i64 (hiW x), .int .u64 (loW x)] 51)).alloc (.cells #[.int .i64 0, .int .u64 d] 51)).alloc (.cells #[.int .i64 0, .int .u64 0] 51) = w0 at *
      refine (SG.out _).mono ?_
      rintro e1 w1 ⟨rfl, hb1⟩
      replace HB := Lib.hid (HB.out.trans (hb1.mono HB.out.size))
      replace KX := Lib.hid (KX.out.below hb1)
      replace KY := Lib.hid (KY.out.below hb1)
      replace KZ := Lib.hid (KZ.out.below hb1)
      clear hb1
      have yX := KX.out
      have yX_0 := yX.c 0 _ rfl
      have yX_1 := yX.c 1 _ rfl
      have yX_z := yX.lt
      clear yX
      have yY := KY.out
      have yY_0 := yY.c 0 _ rfl
      have yY_1 := yY.c 1 _ rfl
      have yY_z := yY.lt
      clear yY
      go_wp2_with fail
      refine (SX.out _).mono ?_
      rintro e2 w2 ⟨rfl, hb2⟩
      replace HB := Lib.hid (HB.out.trans (hb2.mono HB.out.size))
      replace KX := Lib.hid (KX.out.below hb2)
      replace KY := Lib.hid (KY.out.below hb2)
      replace KZ := Lib.hid (KZ.out.below hb2)
      clear yX_0 yX_1 yX_z yY_0 yY_1 yY_z
      clear hb2
      have yY := KY.out
      have yY_0 := yY.c 0 _ rfl
      have yY_1 := yY.c 1 _ rfl
      have yY_z := yY.lt
      clear yY
      go_wp2_with fail
      refine (SY.out _).mono ?_
      rintro e3 w3 ⟨rfl, hb3⟩
      replace HB := Lib.hid (HB.out.trans (hb3.mono HB.out.size))
      replace KX := Lib.hid (KX.out.below hb3)
      replace KY := Lib.hid (KY.out.below hb3)
      replace KZ := Lib.hid (KZ.out.below hb3)
      clear yY_0 yY_1 yY_z
      clear hb3
      go_wp2_with fail
      refine (DV.out _).mono ?_
      rintro e4 w4 ⟨rfl, hb4⟩
      replace HB := Lib.hid (HB.out.trans (hb4.mono HB.out.size))
      replace KX := Lib.hid (KX.out.below hb4)
      replace KY := Lib.hid (KY.out.below hb4)
      replace KZ := Lib.hid (KZ.out.below hb4)
      clear hb4
      go_wp2_with fail
      refine (J.out _).mono ?_
      rintro e5 w5 ⟨rfl, hb5⟩
      replace HB := Lib.hid (HB.out.trans (hb5.mono HB.out.size))
      replace KX := Lib.hid (KX.out.below hb5)
      replace KY := Lib.hid (KY.out.below hb5)
      replace KZ := Lib.hid (KZ.out.below hb5)
      clear hb5
      have yZ := KZ.out
      have yZ_0 := yZ.c 0 _ rfl
      have yZ_1 := yZ.c 1 _ rfl
      have yZ_z := yZ.lt
      have yZ_f0 := yZ.f 0 _ rfl
      have yZ_f1 := yZ.f 1 _ rfl
      clear yZ
      go_wp2
      replace KX := Lib.hid (blk_other (b := w.heap.size) (n := (w.heap.size + 1 + 1)) (j := 1) (blk_other (b := w.heap.size) (n := (w.heap.size + 1 + 1)) (j := 0) KX.out (by omega) (.int .i64 (hiW v))) (by omega) (.int .u64 (loW v)))
      replace KY := Lib.hid (blk_other (b := (w.heap.size + 1)) (n := (w.heap.size + 1 + 1)) (j := 1) (blk_other (b := (w.heap.size + 1)) (n := (w.heap.size + 1 + 1)) (j := 0) KY.out (by omega) (.int .i64 (hiW v))) (by omega) (.int .u64 (loW v)))
      replace KZ := Lib.hid (blk_set (blk_set KZ.out (j := 0) (by simp) (.int .i64 (hiW v))) (j := 1) (by simp) (.int .u64 (loW v)))
      replace HB := Lib.hid ((HB.out.setCell (p := ⟨(w.heap.size + 1 + 1), 0, none⟩) (show w.heap.size ≤ (w.heap.size + 1 + 1) by omega) (.int .i64 (hiW v))).setCell (p := ⟨(w.heap.size + 1 + 1), 1, none⟩) (show w.heap.size ≤ (w.heap.size + 1 + 1) by omega) (.int .u64 (loW v)))
      clear yZ_0 yZ_1 yZ_z yZ_f0 yZ_f1
      generalize (w5.setCell ⟨(w.heap.size + 1 + 1), 0, none⟩ (.int .i64 (hiW v))).setCell ⟨(w.heap.size + 1 + 1), 1, none⟩ (.int .u64 (loW v)) = w6 at *
      simp only [List.set] at KZ
      have yZ := KZ.out
      have yZ_0 := yZ.c 0 _ rfl
      have yZ_1 := yZ.c 1 _ rfl
      have yZ_z := yZ.lt
      clear yZ
      refine bodyPost_ret (v := .tuple #[.agg #[.int .i64 (hiW v), .int .u64 (loW v)], .bool true]) (by simp [results, Try.results91, go_sem, yZ_0, yZ_1]) rfl ⟨rfl, HB.out⟩
    · have gx : decide (hiW x < 0) = true := by have := hi_neg x; simp; omega
      have gr : (r == 0) = false := by simpa using hr
      have gr' : (r != 0) = true := by simpa using hr
      have gd : decide (d < r) = false := by simp; omega
      have gs : IntKind.u64.wrap (d - r) = d - r := by rw [IntKind.wrap_u64]; omega
      have gc : decide (d - r < r) = false := by simp; omega
      have ge : (r == d - r) = true := by simp; omega
      have ge' : (d - r == r) = true := by simp; omega
      have n1 : (hiW q != 0) = false := by simpa using hnz
      have n2 : (loW q != 0) = true := by simpa using hnl
      have J := Lib.hid fun w => rsigned_any q true w (by omega) (by omega)
      rw [← hv] at J
      unfold wv at J ⊢
      clear hv
      clear h0 h1 hr0 hr1 hd1 hx hr hnz hnl hc
      have SG := Lib.hid h.sg
      have SX := Lib.hid h.sx
      have SY := Lib.hid h.sy
      have DV := Lib.hid h.dv
      clear h
      have KX := Lib.hid (((Blk.of (vs := #[.int .i64 (hiW x), .int .u64 (loW x)]) (t := 51) (w := w) (b := w.heap.size) (by simp)).alloc (.cells #[.int .i64 0, .int .u64 d] 51)).alloc (.cells #[.int .i64 0, .int .u64 0] 51))
      have KY := Lib.hid ((Blk.of (vs := #[.int .i64 0, .int .u64 d]) (t := 51) (w := (w.alloc (.cells #[.int .i64 (hiW x), .int .u64 (loW x)] 51))) (b := w.heap.size + 1) (by simp)).alloc (.cells #[.int .i64 0, .int .u64 0] 51))
      have KZ := Lib.hid (Blk.of (vs := #[.int .i64 0, .int .u64 0]) (t := 51) (w := ((w.alloc (.cells #[.int .i64 (hiW x), .int .u64 (loW x)] 51)).alloc (.cells #[.int .i64 0, .int .u64 d] 51))) (b := w.heap.size + 1 + 1) (by simp))
      have HB := Lib.hid ((((Below.refl w.heap.size w).alloc (by simp; try omega) (.cells #[.int .i64 (hiW x), .int .u64 (loW x)] 51)).alloc (by simp; try omega) (.cells #[.int .i64 0, .int .u64 d] 51)).alloc (by simp; try omega) (.cells #[.int .i64 0, .int .u64 0] 51))
      go_enter Try.func91, Try.ntmps91
      go_wp2_with fail
      generalize ((w.alloc (.cells #[.int .i64 (hiW x), .int .u64 (loW x)] 51)).alloc (.cells #[.int .i64 0, .int .u64 d] 51)).alloc (.cells #[.int .i64 0, .int .u64 0] 51) = w0 at *
      refine (SG.out _).mono ?_
      rintro e1 w1 ⟨rfl, hb1⟩
      replace HB := Lib.hid (HB.out.trans (hb1.mono HB.out.size))
      replace KX := Lib.hid (KX.out.below hb1)
      replace KY := Lib.hid (KY.out.below hb1)
      replace KZ := Lib.hid (KZ.out.below hb1)
      clear hb1
      have yX := KX.out
      have yX_0 := yX.c 0 _ rfl
      have yX_1 := yX.c 1 _ rfl
      have yX_z := yX.lt
      clear yX
      have yY := KY.out
      have yY_0 := yY.c 0 _ rfl
      have yY_1 := yY.c 1 _ rfl
      have yY_z := yY.lt
      clear yY
      go_wp2_with fail
      refine (SX.out _).mono ?_
      rintro e2 w2 ⟨rfl, hb2⟩
      replace HB := Lib.hid (HB.out.trans (hb2.mono HB.out.size))
      replace KX := Lib.hid (KX.out.below hb2)
      replace KY := Lib.hid (KY.out.below hb2)
      replace KZ := Lib.hid (KZ.out.below hb2)
      clear yX_0 yX_1 yX_z yY_0 yY_1 yY_z
      clear hb2
      have yY := KY.out
      have yY_0 := yY.c 0 _ rfl
      have yY_1 := yY.c 1 _ rfl
      have yY_z := yY.lt
      clear yY
      go_wp2_with fail
      refine (SY.out _).mono ?_
      rintro e3 w3 ⟨rfl, hb3⟩
      replace HB := Lib.hid (HB.out.trans (hb3.mono HB.out.size))
      replace KX := Lib.hid (KX.out.below hb3)
      replace KY := Lib.hid (KY.out.below hb3)
      replace KZ := Lib.hid (KZ.out.below hb3)
      clear yY_0 yY_1 yY_z
      clear hb3
      go_wp2_with fail
      refine (DV.out _).mono ?_
      rintro e4 w4 ⟨rfl, hb4⟩
      replace HB := Lib.hid (HB.out.trans (hb4.mono HB.out.size))
      replace KX := Lib.hid (KX.out.below hb4)
      replace KY := Lib.hid (KY.out.below hb4)
      replace KZ := Lib.hid (KZ.out.below hb4)
      clear hb4
      go_wp2_with fail
      refine (J.out _).mono ?_
      rintro e5 w5 ⟨rfl, hb5⟩
      replace HB := Lib.hid (HB.out.trans (hb5.mono HB.out.size))
      replace KX := Lib.hid (KX.out.below hb5)
      replace KY := Lib.hid (KY.out.below hb5)
      replace KZ := Lib.hid (KZ.out.below hb5)
      clear hb5
      have yZ := KZ.out
      have yZ_0 := yZ.c 0 _ rfl
      have yZ_1 := yZ.c 1 _ rfl
      have yZ_z := yZ.lt
      have yZ_f0 := yZ.f 0 _ rfl
      have yZ_f1 := yZ.f 1 _ rfl
      clear yZ
      go_wp2
      replace KX := Lib.hid (blk_other (b := w.heap.size) (n := (w.heap.size + 1 + 1)) (j := 1) (blk_other (b := w.heap.size) (n := (w.heap.size + 1 + 1)) (j := 0) KX.out (by omega) (.int .i64 (hiW v))) (by omega) (.int .u64 (loW v)))
      replace KY := Lib.hid (blk_other (b := (w.heap.size + 1)) (n := (w.heap.size + 1 + 1)) (j := 1) (blk_other (b := (w.heap.size + 1)) (n := (w.heap.size + 1 + 1)) (j := 0) KY.out (by omega) (.int .i64 (hiW v))) (by omega) (.int .u64 (loW v)))
      replace KZ := Lib.hid (blk_set (blk_set KZ.out (j := 0) (by simp) (.int .i64 (hiW v))) (j := 1) (by simp) (.int .u64 (loW v)))
      replace HB := Lib.hid ((HB.out.setCell (p := ⟨(w.heap.size + 1 + 1), 0, none⟩) (show w.heap.size ≤ (w.heap.size + 1 + 1) by omega) (.int .i64 (hiW v))).setCell (p := ⟨(w.heap.size + 1 + 1), 1, none⟩) (show w.heap.size ≤ (w.heap.size + 1 + 1) by omega) (.int .u64 (loW v)))
      clear yZ_0 yZ_1 yZ_z yZ_f0 yZ_f1
      generalize (w5.setCell ⟨(w.heap.size + 1 + 1), 0, none⟩ (.int .i64 (hiW v))).setCell ⟨(w.heap.size + 1 + 1), 1, none⟩ (.int .u64 (loW v)) = w6 at *
      simp only [List.set] at KZ
      have yZ := KZ.out
      have yZ_0 := yZ.c 0 _ rfl
      have yZ_1 := yZ.c 1 _ rfl
      have yZ_z := yZ.lt
      clear yZ
      refine bodyPost_ret (v := .tuple #[.agg #[.int .i64 (hiW v), .int .u64 (loW v)], .bool true]) (by simp [results, Try.results91, go_sem, yZ_0, yZ_1]) rfl ⟨rfl, HB.out⟩
  · have gx : decide (hiW x < 0) = true := by have := hi_neg x; simp; omega
    have gr : (r == 0) = false := by simpa using hr
    have gr' : (r != 0) = true := by simpa using hr
    have gd : decide (d < r) = false := by simp; omega
    have gs : IntKind.u64.wrap (d - r) = d - r := by rw [IntKind.wrap_u64]; omega
    have gc : decide (d - r < r) = false := by simp; omega
    have ge : (r == d - r) = true := by simp; omega
    have ge' : (d - r == r) = true := by simp; omega
    have n1 : (hiW q != 0) = true := by simpa using hnz
    have J := Lib.hid fun w => rsigned_any q true w (by omega) (by omega)
    rw [← hv] at J
    unfold wv at J ⊢
    clear hv
    clear h0 h1 hr0 hr1 hd1 hx hr hnz hc
    have SG := Lib.hid h.sg
    have SX := Lib.hid h.sx
    have SY := Lib.hid h.sy
    have DV := Lib.hid h.dv
    clear h
    have KX := Lib.hid (((Blk.of (vs := #[.int .i64 (hiW x), .int .u64 (loW x)]) (t := 51) (w := w) (b := w.heap.size) (by simp)).alloc (.cells #[.int .i64 0, .int .u64 d] 51)).alloc (.cells #[.int .i64 0, .int .u64 0] 51))
    have KY := Lib.hid ((Blk.of (vs := #[.int .i64 0, .int .u64 d]) (t := 51) (w := (w.alloc (.cells #[.int .i64 (hiW x), .int .u64 (loW x)] 51))) (b := w.heap.size + 1) (by simp)).alloc (.cells #[.int .i64 0, .int .u64 0] 51))
    have KZ := Lib.hid (Blk.of (vs := #[.int .i64 0, .int .u64 0]) (t := 51) (w := ((w.alloc (.cells #[.int .i64 (hiW x), .int .u64 (loW x)] 51)).alloc (.cells #[.int .i64 0, .int .u64 d] 51))) (b := w.heap.size + 1 + 1) (by simp))
    have HB := Lib.hid ((((Below.refl w.heap.size w).alloc (by simp; try omega) (.cells #[.int .i64 (hiW x), .int .u64 (loW x)] 51)).alloc (by simp; try omega) (.cells #[.int .i64 0, .int .u64 d] 51)).alloc (by simp; try omega) (.cells #[.int .i64 0, .int .u64 0] 51))
    go_enter Try.func91, Try.ntmps91
    go_wp2_with fail
    generalize ((w.alloc (.cells #[.int .i64 (hiW x), .int .u64 (loW x)] 51)).alloc (.cells #[.int .i64 0, .int .u64 d] 51)).alloc (.cells #[.int .i64 0, .int .u64 0] 51) = w0 at *
    refine (SG.out _).mono ?_
    rintro e1 w1 ⟨rfl, hb1⟩
    replace HB := Lib.hid (HB.out.trans (hb1.mono HB.out.size))
    replace KX := Lib.hid (KX.out.below hb1)
    replace KY := Lib.hid (KY.out.below hb1)
    replace KZ := Lib.hid (KZ.out.below hb1)
    clear hb1
    have yX := KX.out
    have yX_0 := yX.c 0 _ rfl
    have yX_1 := yX.c 1 _ rfl
    have yX_z := yX.lt
    clear yX
    have yY := KY.out
    have yY_0 := yY.c 0 _ rfl
    have yY_1 := yY.c 1 _ rfl
    have yY_z := yY.lt
    clear yY
    go_wp2_with fail
    refine (SX.out _).mono ?_
    rintro e2 w2 ⟨rfl, hb2⟩
    replace HB := Lib.hid (HB.out.trans (hb2.mono HB.out.size))
    replace KX := Lib.hid (KX.out.below hb2)
    replace KY := Lib.hid (KY.out.below hb2)
    replace KZ := Lib.hid (KZ.out.below hb2)
    clear yX_0 yX_1 yX_z yY_0 yY_1 yY_z
    clear hb2
    have yY := KY.out
    have yY_0 := yY.c 0 _ rfl
    have yY_1 := yY.c 1 _ rfl
    have yY_z := yY.lt
    clear yY
    go_wp2_with fail
    refine (SY.out _).mono ?_
    rintro e3 w3 ⟨rfl, hb3⟩
    replace HB := Lib.hid (HB.out.trans (hb3.mono HB.out.size))
    replace KX := Lib.hid (KX.out.below hb3)
    replace KY := Lib.hid (KY.out.below hb3)
    replace KZ := Lib.hid (KZ.out.below hb3)
    clear yY_0 yY_1 yY_z
    clear hb3
    go_wp2_with fail
    refine (DV.out _).mono ?_
    rintro e4 w4 ⟨rfl, hb4⟩
    replace HB := Lib.hid (HB.out.trans (hb4.mono HB.out.size))
    replace KX := Lib.hid (KX.out.below hb4)
    replace KY := Lib.hid (KY.out.below hb4)
    replace KZ := Lib.hid (KZ.out.below hb4)
    clear hb4
    go_wp2_with fail
    refine (J.out _).mono ?_
    rintro e5 w5 ⟨rfl, hb5⟩
    replace HB := Lib.hid (HB.out.trans (hb5.mono HB.out.size))
    replace KX := Lib.hid (KX.out.below hb5)
    replace KY := Lib.hid (KY.out.below hb5)
    replace KZ := Lib.hid (KZ.out.below hb5)
    clear hb5
    have yZ := KZ.out
    have yZ_0 := yZ.c 0 _ rfl
    have yZ_1 := yZ.c 1 _ rfl
    have yZ_z := yZ.lt
    have yZ_f0 := yZ.f 0 _ rfl
    have yZ_f1 := yZ.f 1 _ rfl
    clear yZ
    go_wp2
    replace KX := Lib.hid (blk_other (b := w.heap.size) (n := (w.heap.size + 1 + 1)) (j := 1) (blk_other (b := w.heap.size) (n := (w.heap.size + 1 + 1)) (j := 0) KX.out (by omega) (.int .i64 (hiW v))) (by omega) (.int .u64 (loW v)))
    replace KY := Lib.hid (blk_other (b := (w.heap.size + 1)) (n := (w.heap.size + 1 + 1)) (j := 1) (blk_other (b := (w.heap.size + 1)) (n := (w.heap.size + 1 + 1)) (j := 0) KY.out (by omega) (.int .i64 (hiW v))) (by omega) (.int .u64 (loW v)))
    replace KZ := Lib.hid (blk_set (blk_set KZ.out (j := 0) (by simp) (.int .i64 (hiW v))) (j := 1) (by simp) (.int .u64 (loW v)))
    replace HB := Lib.hid ((HB.out.setCell (p := ⟨(w.heap.size + 1 + 1), 0, none⟩) (show w.heap.size ≤ (w.heap.size + 1 + 1) by omega) (.int .i64 (hiW v))).setCell (p := ⟨(w.heap.size + 1 + 1), 1, none⟩) (show w.heap.size ≤ (w.heap.size + 1 + 1) by omega) (.int .u64 (loW v)))
    clear yZ_0 yZ_1 yZ_z yZ_f0 yZ_f1
    generalize (w5.setCell ⟨(w.heap.size + 1 + 1), 0, none⟩ (.int .i64 (hiW v))).setCell ⟨(w.heap.size + 1 + 1), 1, none⟩ (.int .u64 (loW v)) = w6 at *
    simp only [List.set] at KZ
    have yZ := KZ.out
    have yZ_0 := yZ.c 0 _ rfl
    have yZ_1 := yZ.c 1 _ rfl
    have yZ_z := yZ.lt
    clear yZ
    refine bodyPost_ret (v := .tuple #[.agg #[.int .i64 (hiW v), .int .u64 (loW v)], .bool true]) (by simp [results, Try.results91, go_sem, yZ_0, yZ_1]) rfl ⟨rfl, HB.out⟩
set_option maxHeartbeats 16000000 in
set_option maxRecDepth 100000 in
theorem quo_nearN1gt (x d q r v : Int) (w : World) (h : QuoW x d q r) (hx : x < 0) (h0 : 0 ≤ q) (h1 : q < 85070591730234615865843651857942052864) (hr : ¬ r = 0) (hr0 : 0 ≤ r) (hr1 : r < d) (hd1 : d < 9223372036854775808) (hc : d - r < r) (hv : v = sgn true (q + 1)) :
    Calls Try.prog 91 #[wv x, .agg #[.int .i64 0, .int .u64 d], .int .i64 2] w fun e w' => e = .returned (.tuple #[wv v, .bool true]) ∧ Below w.heap.size w w' := by
  by_cases hcy : loW (q + 1) = 0
  · have hnz : ¬ hiW (q + 1) = 0 := by unfold hiW loW at *; omega
    have gx : decide (hiW x < 0) = true := by have := hi_neg x; simp; omega
    have gr : (r == 0) = false := by simpa using hr
    have gr' : (r != 0) = true := by simpa using hr
    have gd : decide (d < r) = false := by simp; omega
    have gs : IntKind.u64.wrap (d - r) = d - r := by rw [IntKind.wrap_u64]; omega
    have gc : decide (d - r < r) = true := by simp; omega
    have ge : (r == d - r) = false := by simp; omega
    have ge' : (d - r == r) = false := by simp; omega
    have qs : IntKind.u64.wrap (loW q + 1) = loW (q + 1) := by rw [IntKind.wrap_u64]; unfold loW; omega
    have qc : (loW (q + 1) == 0) = true := by simpa using hcy
    have qh : IntKind.u64.wrap (hiW q + 1) = hiW (q + 1) := by rw [IntKind.wrap_u64]; unfold hiW loW at *; omega
    have n1 : (hiW (q + 1) != 0) = true := by simpa using hnz
    have J := Lib.hid fun w => rsigned_any (q + 1) true w (by omega) (by omega)
    rw [← hv] at J
    unfold wv at J ⊢
    clear hv
    generalize loW (q + 1) = ql at *
    clear h0 h1 hr0 hr1 hd1 hx hr hcy hnz hc
    have SG := Lib.hid h.sg
    have SX := Lib.hid h.sx
    have SY := Lib.hid h.sy
    have DV := Lib.hid h.dv
    clear h
    have KX := Lib.hid (((Blk.of (vs := #[.int .i64 (hiW x), .int .u64 (loW x)]) (t := 51) (w := w) (b := w.heap.size) (by simp)).alloc (.cells #[.int .i64 0, .int .u64 d] 51)).alloc (.cells #[.int .i64 0, .int .u64 0] 51))
    have KY := Lib.hid ((Blk.of (vs := #[.int .i64 0, .int .u64 d]) (t := 51) (w := (w.alloc (.cells #[.int .i64 (hiW x), .int .u64 (loW x)] 51))) (b := w.heap.size + 1) (by simp)).alloc (.cells #[.int .i64 0, .int .u64 0] 51))
    have KZ := Lib.hid (Blk.of (vs := #[.int .i64 0, .int .u64 0]) (t := 51) (w := ((w.alloc (.cells #[.int .i64 (hiW x), .int .u64 (loW x)] 51)).alloc (.cells #[.int .i64 0, .int .u64 d] 51))) (b := w.heap.size + 1 + 1) (by simp))
    have HB := Lib.hid ((((Below.refl w.heap.size w).alloc (by simp; try omega) (.cells #[.int .i64 (hiW x), .int .u64 (loW x)] 51)).alloc (by simp; try omega) (.cells #[.int .i64 0, .int .u64 d] 51)).alloc (by simp; try omega) (.cells #[.int .i64 0, .int .u64 0] 51))
    go_enter Try.func91, Try.ntmps91
    go_wp2_with fail
    generalize ((w.alloc (.cells #[.int .i64 (hiW x), .int .u64 (loW x)] 51)).alloc (.cells #[.int .i64 0, .int .u64 d] 51)).alloc (.cells #[.int .i64 0, .int .u64 0] 51) = w0 at *
    refine (SG.out _).mono ?_
    rintro e1 w1 ⟨rfl, hb1⟩
    replace HB := Lib.hid (HB.out.trans (hb1.mono HB.out.size))
    replace KX := Lib.hid (KX.out.below hb1)
    replace KY := Lib.hid (KY.out.below hb1)
    replace KZ := Lib.hid (KZ.out.below hb1)
    clear hb1
    have yX := KX.out
    have yX_0 := yX.c 0 _ rfl
    have yX_1 := yX.c 1 _ rfl
    have yX_z := yX.lt
    clear yX
    have yY := KY.out
    have yY_0 := yY.c 0 _ rfl
    have yY_1 := yY.c 1 _ rfl
    have yY_z := yY.lt
    clear yY
    go_wp2_with fail
    refine (SX.out _).mono ?_
    rintro e2 w2 ⟨rfl, hb2⟩
    replace HB := Lib.hid (HB.out.trans (hb2.mono HB.out.size))
    replace KX := Lib.hid (KX.out.below hb2)
    replace KY := Lib.hid (KY.out.below hb2)
    replace KZ := Lib.hid (KZ.out.below hb2)
    clear yX_0 yX_1 yX_z yY_0 yY_1 yY_z
    clear hb2
    have yY := KY.out
    have yY_0 := yY.c 0 _ rfl
    have yY_1 := yY.c 1 _ rfl
    have yY_z := yY.lt
    clear yY
    go_wp2_with fail
    refine (SY.out _).mono ?_
    rintro e3 w3 ⟨rfl, hb3⟩
    replace HB := Lib.hid (HB.out.trans (hb3.mono HB.out.size))
    replace KX := Lib.hid (KX.out.below hb3)
    replace KY := Lib.hid (KY.out.below hb3)
    replace KZ := Lib.hid (KZ.out.below hb3)
    clear yY_0 yY_1 yY_z
    clear hb3
    go_wp2_with fail
    refine (DV.out _).mono ?_
    rintro e4 w4 ⟨rfl, hb4⟩
    replace HB := Lib.hid (HB.out.trans (hb4.mono HB.out.size))
    replace KX := Lib.hid (KX.out.below hb4)
    replace KY := Lib.hid (KY.out.below hb4)
    replace KZ := Lib.hid (KZ.out.below hb4)
    clear hb4
    go_wp2_with fail
    refine (J.out _).mono ?_
    rintro e5 w5 ⟨rfl, hb5⟩
    replace HB := Lib.hid (HB.out.trans (hb5.mono HB.out.size))
    replace KX := Lib.hid (KX.out.below hb5)
    replace KY := Lib.hid (KY.out.below hb5)
    replace KZ := Lib.hid (KZ.out.below hb5)
    clear hb5
    have yZ := KZ.out
    have yZ_0 := yZ.c 0 _ rfl
    have yZ_1 := yZ.c 1 _ rfl
    have yZ_z := yZ.lt
    have yZ_f0 := yZ.f 0 _ rfl
    have yZ_f1 := yZ.f 1 _ rfl
    clear yZ
    go_wp2
    replace KX := Lib.hid (blk_other (b := w.heap.size) (n := (w.heap.size + 1 + 1)) (j := 1) (blk_other (b := w.heap.size) (n := (w.heap.size + 1 + 1)) (j := 0) KX.out (by omega) (.int .i64 (hiW v))) (by omega) (.int .u64 (loW v)))
    replace KY := Lib.hid (blk_other (b := (w.heap.size + 1)) (n := (w.heap.size + 1 + 1)) (j := 1) (blk_other (b := (w.heap.size + 1)) (n := (w.heap.size + 1 + 1)) (j := 0) KY.out (by omega) (.int .i64 (hiW v))) (by omega) (.int .u64 (loW v)))
    replace KZ := Lib.hid (blk_set (blk_set KZ.out (j := 0) (by simp) (.int .i64 (hiW v))) (j := 1) (by simp) (.int .u64 (loW v)))
    replace HB := Lib.hid ((HB.out.setCell (p := ⟨(w.heap.size + 1 + 1), 0, none⟩) (show w.heap.size ≤ (w.heap.size + 1 + 1) by omega) (.int .i64 (hiW v))).setCell (p := ⟨(w.heap.size + 1 + 1), 1, none⟩) (show w.heap.size ≤ (w.heap.size + 1 + 1) by omega) (.int .u64 (loW v)))
    clear yZ_0 yZ_1 yZ_z yZ_f0 yZ_f1
    generalize (w5.setCell ⟨(w.heap.size + 1 + 1), 0, none⟩ (.int .i64 (hiW v))).setCell ⟨(w.heap.size + 1 + 1), 1, none⟩ (.int .u64 (loW v)) = w6 at *
    simp only [List.set] at KZ
    have yZ := KZ.out
    have yZ_0 := yZ.c 0 _ rfl
    have yZ_1 := yZ.c 1 _ rfl
    have yZ_z := yZ.lt
    clear yZ
    refine bodyPost_ret (v := .tuple #[.agg #[.int .i64 (hiW v), .int .u64 (loW v)], .bool true]) (by simp [results, Try.results91, go_sem, yZ_0, yZ_1]) rfl ⟨rfl, HB.out⟩
  · have hnl : ¬ loW (q + 1) = 0 := hcy
    by_cases hnz : hiW (q + 1) = 0
    · have gx : decide (hiW x < 0) = true := by have := hi_neg x; simp; omega
      have gr : (r == 0) = false := by simpa using hr
      have gr' : (r != 0) = true := by simpa using hr
      have gd : decide (d < r) = false := by simp; omega
      have gs : IntKind.u64.wrap (d - r) = d - r := by rw [IntKind.wrap_u64]; omega
      have gc : decide (d - r < r) = true := by simp; omega
      have ge : (r == d - r) = false := by simp; omega
      have ge' : (d - r == r) = false := by simp; omega
      have qs : IntKind.u64.wrap (loW q + 1) = loW (q + 1) := by rw [IntKind.wrap_u64]; unfold loW; omega
      have qc : (loW (q + 1) == 0) = false := by simpa using hcy
      have qh : hiW q = hiW (q + 1) := by unfold hiW loW at *; omega
      have n1 : (hiW (q + 1) != 0) = false := by simpa using hnz
      have n2 : (loW (q + 1) != 0) = true := by simpa using hnl
      have J := Lib.hid fun w => rsigned_any (q + 1) true w (by omega) (by omega)
      rw [← hv] at J
      unfold wv at J ⊢
      clear hv
      rw [← qh] at J n1
      clear qh
      generalize loW (q + 1) = ql at *
      clear h0 h1 hr0 hr1 hd1 hx hr hcy hnz hnl hc
      have SG := Lib.hid h.sg
      have SX := Lib.hid h.sx
      have SY := Lib.hid h.sy
      have DV := Lib.hid h.dv
      clear h
      have KX := Lib.hid (((Blk.of (vs := #[.int .i64 (hiW x), .int .u64 (loW x)]) (t := 51) (w := w) (b := w.heap.size) (by simp)).alloc (.cells #[.int .i64 0, .int .u64 d] 51)).alloc (.cells #[.int .i64 0, .int .u64 0] 51))
      have KY := Lib.hid ((Blk.of (vs := #[.int .i64 0, .int .u64 d]) (t := 51) (w := (w.alloc (.cells #[.int .i64 (hiW x), .int .u64 (loW x)] 51))) (b := w.heap.size + 1) (by simp)).alloc (.cells #[.int .i64 0, .int .u64 0] 51))
      have KZ := Lib.hid (Blk.of (vs := #[.int .i64 0, .int .u64 0]) (t := 51) (w := ((w.alloc (.cells #[.int .i64 (hiW x), .int .u64 (loW x)] 51)).alloc (.cells #[.int .i64 0, .int .u64 d] 51))) (b := w.heap.size + 1 + 1) (by simp))
      have HB := Lib.hid ((((Below.refl w.heap.size w).alloc (by simp; try omega) (.cells #[.int .i64 (hiW x), .int .u64 (loW x)] 51)).alloc (by simp; try omega) (.cells #[.int .i64 0, .int .u64 d] 51)).alloc (by simp; try omega) (.cells #[.int .i64 0, .int .u64 0] 51))
      go_enter Try.func91, Try.ntmps91
      go_wp2_with fail
      generalize ((w.alloc (.cells #[.int .i64 (hiW x), .int .u64 (loW x)] 51)).alloc (.cells #[.int .i64 0, .int .u64 d] 51)).alloc (.cells #[.int .i64 0, .int .u64 0] 51) = w0 at *
      refine (SG.out _).mono ?_
      rintro e1 w1 ⟨rfl, hb1⟩
      replace HB := Lib.hid (HB.out.trans (hb1.mono HB.out.size))
      replace KX := Lib.hid (KX.out.below hb1)
      replace KY := Lib.hid (KY.out.below hb1)
      replace KZ := Lib.hid (KZ.out.below hb1)
      clear hb1
      have yX := KX.out
      have yX_0 := yX.c 0 _ rfl
      have yX_1 := yX.c 1 _ rfl
      have yX_z := yX.lt
      clear yX
      have yY := KY.out
      have yY_0 := yY.c 0 _ rfl
      have yY_1 := yY.c 1 _ rfl
      have yY_z := yY.lt
      clear yY
      go_wp2_with fail
      refine (SX.out _).mono ?_
      rintro e2 w2 ⟨rfl, hb2⟩
      replace HB := Lib.hid (HB.out.trans (hb2.mono HB.out.size))
      replace KX := Lib.hid (KX.out.below hb2)
      replace KY := Lib.hid (KY.out.below hb2)
      replace KZ := Lib.hid (KZ.out.below hb2)
      clear yX_0 yX_1 yX_z yY_0 yY_1 yY_z
      clear hb2
      have yY := KY.out
      have yY_0 := yY.c 0 _ rfl
      have yY_1 := yY.c 1 _ rfl
      have yY_z := yY.lt
      clear yY
      go_wp2_with fail
      refine (SY.out _).mono ?_
      rintro e3 w3 ⟨rfl, hb3⟩
      replace HB := Lib.hid (HB.out.trans (hb3.mono HB.out.size))
      replace KX := Lib.hid (KX.out.below hb3)
      replace KY := Lib.hid (KY.out.below hb3)
      replace KZ := Lib.hid (KZ.out.below hb3)
      clear yY_0 yY_1 yY_z
      clear hb3
      go_wp2_with fail
      refine (DV.out _).mono ?_
      rintro e4 w4 ⟨rfl, hb4⟩
      replace HB := Lib.hid (HB.out.trans (hb4.mono HB.out.size))
      replace KX := Lib.hid (KX.out.below hb4)
      replace KY := Lib.hid (KY.out.below hb4)
      replace KZ := Lib.hid (KZ.out.below hb4)
      clear hb4
      go_wp2_with fail
      refine (J.out _).mono ?_
      rintro e5 w5 ⟨rfl, hb5⟩
      replace HB := Lib.hid (HB.out.trans (hb5.mono HB.out.size))
      replace KX := Lib.hid (KX.out.below hb5)
      replace KY := Lib.hid (KY.out.below hb5)
      replace KZ := Lib.hid (KZ.out.below hb5)
      clear hb5
      have yZ := KZ.out
      have yZ_0 := yZ.c 0 _ rfl
      have yZ_1 := yZ.c 1 _ rfl
      have yZ_z := yZ.lt
      have yZ_f0 := yZ.f 0 _ rfl
      have yZ_f1 := yZ.f 1 _ rfl
      clear yZ
      go_wp2
      replace KX := Lib.hid (blk_other (b := w.heap.size) (n := (w.heap.size + 1 + 1)) (j := 1) (blk_other (b := w.heap.size) (n := (w.heap.size + 1 + 1)) (j := 0) KX.out (by omega) (.int .i64 (hiW v))) (by omega) (.int .u64 (loW v)))
      replace KY := Lib.hid (blk_other (b := (w.heap.size + 1)) (n := (w.heap.size + 1 + 1)) (j := 1) (blk_other (b := (w.heap.size + 1)) (n := (w.heap.size + 1 + 1)) (j := 0) KY.out (by omega) (.int .i64 (hiW v))) (by omega) (.int .u64 (loW v)))
      replace KZ := Lib.hid (blk_set (blk_set KZ.out (j := 0) (by simp) (.int .i64 (hiW v))) (j := 1) (by simp) (.int .u64 (loW v)))
      replace HB := Lib.hid ((HB.out.setCell (p := ⟨(w.heap.size + 1 + 1), 0, none⟩) (show w.heap.size ≤ (w.heap.size + 1 + 1) by omega) (.int .i64 (hiW v))).setCell (p := ⟨(w.heap.size + 1 + 1), 1, none⟩) (show w.heap.size ≤ (w.heap.size + 1 + 1) by omega) (.int .u64 (loW v)))
      clear yZ_0 yZ_1 yZ_z yZ_f0 yZ_f1
      generalize (w5.setCell ⟨(w.heap.size + 1 + 1), 0, none⟩ (.int .i64 (hiW v))).setCell ⟨(w.heap.size + 1 + 1), 1, none⟩ (.int .u64 (loW v)) = w6 at *
      simp only [List.set] at KZ
      have yZ := KZ.out
      have yZ_0 := yZ.c 0 _ rfl
      have yZ_1 := yZ.c 1 _ rfl
      have yZ_z := yZ.lt
      clear yZ
      refine bodyPost_ret (v := .tuple #[.agg #[.int .i64 (hiW v), .int .u64 (loW v)], .bool true]) (by simp [results, Try.results91, go_sem, yZ_0, yZ_1]) rfl ⟨rfl, HB.out⟩
    · have gx : decide (hiW x < 0) = true := by have := hi_neg x; simp; omega
      have gr : (r == 0) = false := by simpa using hr
      have gr' : (r != 0) = true := by simpa using hr
      have gd : decide (d < r) = false := by simp; omega
      have gs : IntKind.u64.wrap (d - r) = d - r := by rw [IntKind.wrap_u64]; omega
      have gc : decide (d - r < r) = true := by simp; omega
      have ge : (r == d - r) = false := by simp; omega
      have ge' : (d - r == r) = false := by simp; omega
      have qs : IntKind.u64.wrap (loW q + 1) = loW (q + 1) := by rw [IntKind.wrap_u64]; unfold loW; omega
      have qc : (loW (q + 1) == 0) = false := by simpa using hcy
      have qh : hiW q = hiW (q + 1) := by unfold hiW loW at *; omega
      have n1 : (hiW (q + 1) != 0) = true := by simpa using hnz
      have J := Lib.hid fun w => rsigned_any (q + 1) true w (by omega) (by omega)
      rw [← hv] at J
      unfold wv at J ⊢
      clear hv
      rw [← qh] at J n1
      clear qh
      generalize loW (q + 1) = ql at *
      clear h0 h1 hr0 hr1 hd1 hx hr hcy hnz hnl hc
      have SG := Lib.hid h.sg
      have SX := Lib.hid h.sx
      have SY := Lib.hid h.sy
      have DV := Lib.hid h.dv
      clear h
      have KX := Lib.hid (((Blk.of (vs := #[.int .i64 (hiW x), .int .u64 (loW x)]) (t := 51) (w := w) (b := w.heap.size) (by simp)).alloc (.cells #[.int .i64 0, .int .u64 d] 51)).alloc (.cells #[.int .i64 0, .int .u64 0] 51))
      have KY := Lib.hid ((Blk.of (vs := #[.int .i64 0, .int .u64 d]) (t := 51) (w := (w.alloc (.cells #[.int .i64 (hiW x), .int .u64 (loW x)] 51))) (b := w.heap.size + 1) (by simp)).alloc (.cells #[.int .i64 0, .int .u64 0] 51))
      have KZ := Lib.hid (Blk.of (vs := #[.int .i64 0, .int .u64 0]) (t := 51) (w := ((w.alloc (.cells #[.int .i64 (hiW x), .int .u64 (loW x)] 51)).alloc (.cells #[.int .i64 0, .int .u64 d] 51))) (b := w.heap.size + 1 + 1) (by simp))
      have HB := Lib.hid ((((Below.refl w.heap.size w).alloc (by simp; try omega) (.cells #[.int .i64 (hiW x), .int .u64 (loW x)] 51)).alloc (by simp; try omega) (.cells #[.int .i64 0, .int .u64 d] 51)).alloc (by simp; try omega) (.cells #[.int .i64 0, .int .u64 0] 51))
      go_enter Try.func91, Try.ntmps91
      go_wp2_with fail
      generalize ((w.alloc (.cells #[.int .i64 (hiW x), .int .u64 (loW x)] 51)).alloc (.cells #[.int .i64 0, .int .u64 d] 51)).alloc (.cells #[.int .i64 0, .int .u64 0] 51) = w0 at *
      refine (SG.out _).mono ?_
      rintro e1 w1 ⟨rfl, hb1⟩
      replace HB := Lib.hid (HB.out.trans (hb1.mono HB.out.size))
      replace KX := Lib.hid (KX.out.below hb1)
      replace KY := Lib.hid (KY.out.below hb1)
      replace KZ := Lib.hid (KZ.out.below hb1)
      clear hb1
      have yX := KX.out
      have yX_0 := yX.c 0 _ rfl
      have yX_1 := yX.c 1 _ rfl
      have yX_z := yX.lt
      clear yX
      have yY := KY.out
      have yY_0 := yY.c 0 _ rfl
      have yY_1 := yY.c 1 _ rfl
      have yY_z := yY.lt
      clear yY
      go_wp2_with fail
      refine (SX.out _).mono ?_
      rintro e2 w2 ⟨rfl, hb2⟩
      replace HB := Lib.hid (HB.out.trans (hb2.mono HB.out.size))
      replace KX := Lib.hid (KX.out.below hb2)
      replace KY := Lib.hid (KY.out.below hb2)
      replace KZ := Lib.hid (KZ.out.below hb2)
      clear yX_0 yX_1 yX_z yY_0 yY_1 yY_z
      clear hb2
      have yY := KY.out
      have yY_0 := yY.c 0 _ rfl
      have yY_1 := yY.c 1 _ rfl
      have yY_z := yY.lt
      clear yY
      go_wp2_with fail
      refine (SY.out _).mono ?_
      rintro e3 w3 ⟨rfl, hb3⟩
      replace HB := Lib.hid (HB.out.trans (hb3.mono HB.out.size))
      replace KX := Lib.hid (KX.out.below hb3)
      replace KY := Lib.hid (KY.out.below hb3)
      replace KZ := Lib.hid (KZ.out.below hb3)
      clear yY_0 yY_1 yY_z
      clear hb3
      go_wp2_with fail
      refine (DV.out _).mono ?_
      rintro e4 w4 ⟨rfl, hb4⟩
      replace HB := Lib.hid (HB.out.trans (hb4.mono HB.out.size))
      replace KX := Lib.hid (KX.out.below hb4)
      replace KY := Lib.hid (KY.out.below hb4)
      replace KZ := Lib.hid (KZ.out.below hb4)
      clear hb4
      go_wp2_with fail
      refine (J.out _).mono ?_
      rintro e5 w5 ⟨rfl, hb5⟩
      replace HB := Lib.hid (HB.out.trans (hb5.mono HB.out.size))
      replace KX := Lib.hid (KX.out.below hb5)
      replace KY := Lib.hid (KY.out.below hb5)
      replace KZ := Lib.hid (KZ.out.below hb5)
      clear hb5
      have yZ := KZ.out
      have yZ_0 := yZ.c 0 _ rfl
      have yZ_1 := yZ.c 1 _ rfl
      have yZ_z := yZ.lt
      have yZ_f0 := yZ.f 0 _ rfl
      have yZ_f1 := yZ.f 1 _ rfl
      clear yZ
      go_wp2
      replace KX := Lib.hid (blk_other (b := w.heap.size) (n := (w.heap.size + 1 + 1)) (j := 1) (blk_other (b := w.heap.size) (n := (w.heap.size + 1 + 1)) (j := 0) KX.out (by omega) (.int .i64 (hiW v))) (by omega) (.int .u64 (loW v)))
      replace KY := Lib.hid (blk_other (b := (w.heap.size + 1)) (n := (w.heap.size + 1 + 1)) (j := 1) (blk_other (b := (w.heap.size + 1)) (n := (w.heap.size + 1 + 1)) (j := 0) KY.out (by omega) (.int .i64 (hiW v))) (by omega) (.int .u64 (loW v)))
      replace KZ := Lib.hid (blk_set (blk_set KZ.out (j := 0) (by simp) (.int .i64 (hiW v))) (j := 1) (by simp) (.int .u64 (loW v)))
      replace HB := Lib.hid ((HB.out.setCell (p := ⟨(w.heap.size + 1 + 1), 0, none⟩) (show w.heap.size ≤ (w.heap.size + 1 + 1) by omega) (.int .i64 (hiW v))).setCell (p := ⟨(w.heap.size + 1 + 1), 1, none⟩) (show w.heap.size ≤ (w.heap.size + 1 + 1) by omega) (.int .u64 (loW v)))
      clear yZ_0 yZ_1 yZ_z yZ_f0 yZ_f1
      generalize (w5.setCell ⟨(w.heap.size + 1 + 1), 0, none⟩ (.int .i64 (hiW v))).setCell ⟨(w.heap.size + 1 + 1), 1, none⟩ (.int .u64 (loW v)) = w6 at *
      simp only [List.set] at KZ
      have yZ := KZ.out
      have yZ_0 := yZ.c 0 _ rfl
      have yZ_1 := yZ.c 1 _ rfl
      have yZ_z := yZ.lt
      clear yZ
      refine bodyPost_ret (v := .tuple #[.agg #[.int .i64 (hiW v), .int .u64 (loW v)], .bool true]) (by simp [results, Try.results91, go_sem, yZ_0, yZ_1]) rfl ⟨rfl, HB.out⟩
end Go.Proofs.Ytplgdlooglnpmaa
