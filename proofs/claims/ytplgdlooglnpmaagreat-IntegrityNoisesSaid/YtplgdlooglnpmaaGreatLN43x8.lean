/-
  Walks and laws of the layers below, gathered from several texts.
-/
import Derived.Test.YtplgdlooglnpmaaGreatLN43x7
namespace Go.Proofs.YtplgdlooglnpmaaGreat
set_option linter.unusedVariables false
open Go.RowKit
set_option maxHeartbeats 16000000 in
set_option maxRecDepth 100000 in
theorem quo_nearP1gt (x d q r v : Int) (w : World) (h : QuoW x d q r) (hx : 0 ≤ x) (h0 : 0 ≤ q) (h1 : q < 85070591730234615865843651857942052864) (hr : ¬ r = 0) (hr0 : 0 ≤ r) (hr1 : r < d) (hd1 : d < 9223372036854775808) (hc : d - r < r) (hv : v = sgn false (q + 1)) :
    Calls Tryz.prog 122 #[wv x, .agg #[.int .i64 0, .int .u64 d], .int .i64 2] w fun e w' => e = .returned (.tuple #[wv v, .bool true]) ∧ Below w.heap.size w w' := by
  by_cases hcy : loW (q + 1) = 0
  · have gx : decide (hiW x < 0) = false := by have := hi_neg x; simp; omega
    have gr : (r == 0) = false := by simpa using hr
    have gr' : (r != 0) = true := by simpa using hr
    have gd : decide (d < r) = false := by simp; omega
    have gs : IntKind.u64.wrap (d - r) = d - r := by rw [IntKind.wrap_u64]; omega
    have gc : decide (d - r < r) = true := by simp; omega
    have ge : (r == d - r) = false := by simp; omega
    have ge' : (d - r == r) = false := by simp; omega
    have qs : IntKind.u64.wrap (loW q + 1) = loW (q + 1) := by rw [IntKind.wrap_u64]; unfold loW; omega
    have qc : (loW (q + 1) == 0) = true := by simpa using hcy
    have qh : IntKind.u64.wrap (hiW q + 1) = hiW (q + 1) := by rw [IntKind.wrap_u64]; unfold hiW loW at *; omega
    have J := Lib.hid fun w => rsigned_any (q + 1) false w (by omega) (by omega)
    rw [← hv] at J
    unfold wv at J ⊢
    clear hv
    generalize loW (q + 1) = ql at *
    clear h0 h1 hr0 hr1 hd1 hx hr hcy hc
    have SG := Lib.hid h.sg
    have SX := Lib.hid h.sx
    have SY := Lib.hid h.sy
    have DV := Lib.hid h.dv
    clear h
    have KX := Lib.hid (((Blk.of (vs := #[.int .i64 (hiW x), .int .u64 (loW x)]) (t := 49) (w := w) (b := w.heap.size) (by simp)).alloc (.cells #[.int .i64 0, .int .u64 d] 49)).alloc (.cells #[.int .i64 0, .int .u64 0] 49))
    have KY := Lib.hid ((Blk.of (vs := #[.int .i64 0, .int .u64 d]) (t := 49) (w := (w.alloc (.cells #[.int .i64 (hiW x), .int .u64 (loW x)] 49))) (b := w.heap.size + 1) (by simp)).alloc (.cells #[.int .i64 0, .int .u64 0] 49))
    have KZ := Lib.hid (Blk.of (vs := #[.int .i64 0, .int .u64 0]) (t := 49) (w := ((w.alloc (.cells #[.int .i64 (hiW x), .int .u64 (loW x)] 49)).alloc (.cells #[.int .i64 0, .int .u64 d] 49))) (b := w.heap.size + 1 + 1) (by simp))
    have HB := Lib.hid ((((Below.refl w.heap.size w).alloc (by simp; try omega) (.cells #[.int .i64 (hiW x), .int .u64 (loW x)] 49)).alloc (by simp; try omega) (.cells #[.int .i64 0, .int .u64 d] 49)).alloc (by simp; try omega) (.cells #[.int .i64 0, .int .u64 0] 49))
    go_enter Tryz.func122, Tryz.ntmps122
    go_wp2_with fail
    generalize ((w.alloc (.cells #[.int .i64 (hiW x), .int .u64 (loW x)] 49)).alloc (.cells #[.int .i64 0, .int .u64 d] 49)).alloc (.cells #[.int .i64 0, .int .u64 0] 49) = w0 at *
    refine (SG.out _).mono ?_
    rintro e1 w1 ⟨rfl, hb1⟩
    replace HB := Lib.hid (HB.out.trans (hb1.mono HB.out.size))
    replace KX := Lib.hid (KX.out.below hb1)
    replace KY := Lib.hid (KY.out.below hb1)
    replace KZ := Lib.hid (KZ.out.below hb1)
    clear hb1
    have yX := KX.out
    have yX_0 := yX.c 0 _ rfl
    have yX_1 := yX.c 1 _ rfl
    have yX_z := yX.lt
    clear yX
    have yY := KY.out
    have yY_0 := yY.c 0 _ rfl
    have yY_1 := yY.c 1 _ rfl
    have yY_z := yY.lt
    clear yY
    go_wp2_with fail
    refine (SX.out _).mono ?_
    rintro e2 w2 ⟨rfl, hb2⟩
    replace HB := Lib.hid (HB.out.trans (hb2.mono HB.out.size))
    replace KX := Lib.hid (KX.out.below hb2)
    replace KY := Lib.hid (KY.out.below hb2)
    replace KZ := Lib.hid (KZ.out.below hb2)
    clear yX_0 yX_1 yX_z yY_0 yY_1 yY_z
    clear hb2
    have yY := KY.out
    have yY_0 := yY.c 0 _ rfl
    have yY_1 := yY.c 1 _ rfl
    have yY_z := yY.lt
    clear yY
    go_wp2_with fail
    refine (SY.out _).mono ?_
    rintro e3 w3 ⟨rfl, hb3⟩
    replace HB := Lib.hid (HB.out.trans (hb3.mono HB.out.size))
    replace KX := Lib.hid (KX.out.below hb3)
    replace KY := Lib.hid (KY.out.below hb3)
    replace KZ := Lib.hid (KZ.out.below hb3)
    clear yY_0 yY_1 yY_z
    clear hb3
    go_wp2_with fail
    refine (DV.out _).mono ?_
    rintro e4 w4 ⟨rfl, hb4⟩
    replace HB := Lib.hid (HB.out.trans (hb4.mono HB.out.size))
    replace KX := Lib.hid (KX.out.below hb4)
    replace KY := Lib.hid (KY.out.below hb4)
    replace KZ := Lib.hid (KZ.out.below hb4)
    clear hb4
    go_wp2_with fail
    refine (J.out _).mono ?_
    rintro e5 w5 ⟨rfl, hb5⟩
    replace HB := Lib.hid (HB.out.trans (hb5.mono HB.out.size))
    replace KX := Lib.hid (KX.out.below hb5)
    replace KY := Lib.hid (KY.out.below hb5)
    replace KZ := Lib.hid (KZ.out.below hb5)
    clear hb5
    have yZ := KZ.out
    have yZ_0 := yZ.c 0 _ rfl
    have yZ_1 := yZ.c 1 _ rfl
    have yZ_z := yZ.lt
    have yZ_f0 := yZ.f 0 _ rfl
    have yZ_f1 := yZ.f 1 _ rfl
    clear yZ
    go_wp2
    replace KX := Lib.hid (blk_other (b := w.heap.size) (n := (w.heap.size + 1 + 1)) (j := 1) (blk_other (b := w.heap.size) (n := (w.heap.size + 1 + 1)) (j := 0) KX.out (by omega) (.int .i64 (hiW v))) (by omega) (.int .u64 (loW v)))
    replace KY := Lib.hid (blk_other (b := (w.heap.size + 1)) (n := (w.heap.size + 1 + 1)) (j := 1) (blk_other (b := (w.heap.size + 1)) (n := (w.heap.size + 1 + 1)) (j := 0) KY.out (by omega) (.int .i64 (hiW v))) (by omega) (.int .u64 (loW v)))
    replace KZ := Lib.hid (blk_set (blk_set KZ.out (j := 0) (by simp) (.int .i64 (hiW v))) (j := 1) (by simp) (.int .u64 (loW v)))
    replace HB := Lib.hid ((HB.out.setCell (p := ⟨(w.heap.size + 1 + 1), 0, none⟩) (show w.heap.size ≤ (w.heap.size + 1 + 1) by omega) (.int .i64 (hiW v))).setCell (p := ⟨(w.heap.size + 1 + 1), 1, none⟩) (show w.heap.size ≤ (w.heap.size + 1 + 1) by omega) (.int .u64 (loW v)))
    clear yZ_0 yZ_1 yZ_z yZ_f0 yZ_f1
    generalize (w5.setCell ⟨(w.heap.size + 1 + 1), 0, none⟩ (.int .i64 (hiW v))).setCell ⟨(w.heap.size + 1 + 1), 1, none⟩ (.int .u64 (loW v)) = w6 at *
    simp only [List.set] at KZ
    have yZ := KZ.out
    have yZ_0 := yZ.c 0 _ rfl
    have yZ_1 := yZ.c 1 _ rfl
    have yZ_z := yZ.lt
    clear yZ
    refine bodyPost_ret (v := .tuple #[.agg #[.int .i64 (hiW v), .int .u64 (loW v)], .bool true]) (by simp [results, Tryz.results122, go_sem, yZ_0, yZ_1]) rfl ⟨rfl, HB.out⟩
  · have gx : decide (hiW x < 0) = false := by have := hi_neg x; simp; omega
    have gr : (r == 0) = false := by simpa using hr
    have gr' : (r != 0) = true := by simpa using hr
    have gd : decide (d < r) = false := by simp; omega
    have gs : IntKind.u64.wrap (d - r) = d - r := by rw [IntKind.wrap_u64]; omega
    have gc : decide (d - r < r) = true := by simp; omega
    have ge : (r == d - r) = false := by simp; omega
    have ge' : (d - r == r) = false := by simp; omega
    have qs : IntKind.u64.wrap (loW q + 1) = loW (q + 1) := by rw [IntKind.wrap_u64]; unfold loW; omega
    have qc : (loW (q + 1) == 0) = false := by simpa using hcy
    have qh : hiW q = hiW (q + 1) := by unfold hiW loW at *; omega
    have J := Lib.hid fun w => rsigned_any (q + 1) false w (by omega) (by omega)
    rw [← hv] at J
    unfold wv at J ⊢
    clear hv
    rw [← qh] at J
    clear qh
    generalize loW (q + 1) = ql at *
    clear h0 h1 hr0 hr1 hd1 hx hr hcy hc
    have SG := Lib.hid h.sg
    have SX := Lib.hid h.sx
    have SY := Lib.hid h.sy
    have DV := Lib.hid h.dv
    clear h
    have KX := Lib.hid (((Blk.of (vs := #[.int .i64 (hiW x), .int .u64 (loW x)]) (t := 49) (w := w) (b := w.heap.size) (by simp)).alloc (.cells #[.int .i64 0, .int .u64 d] 49)).alloc (.cells #[.int .i64 0, .int .u64 0] 49))
    have KY := Lib.hid ((Blk.of (vs := #[.int .i64 0, .int .u64 d]) (t := 49) (w := (w.alloc (.cells #[.int .i64 (hiW x), .int .u64 (loW x)] 49))) (b := w.heap.size + 1) (by simp)).alloc (.cells #[.int .i64 0, .int .u64 0] 49))
    have KZ := Lib.hid (Blk.of (vs := #[.int .i64 0, .int .u64 0]) (t := 49) (w := ((w.alloc (.cells #[.int .i64 (hiW x), .int .u64 (loW x)] 49)).alloc (.cells #[.int .i64 0, .int .u64 d] 49))) (b := w.heap.size + 1 + 1) (by simp))
    have HB := Lib.hid ((((Below.refl w.heap.size w).alloc (by simp; try omega) (.cells #[.int .i64 (hiW x), .int .u64 (loW x)] 49)).alloc (by simp; try omega) (.cells #[.int .i64 0, .int .u64 d] 49)).alloc (by simp; try omega) (.cells #[.int .i64 0, .int .u64 0] 49))
    go_enter Tryz.func122, Tryz.ntmps122
    go_wp2_with fail
    generalize ((w.alloc (.cells #[.int .i64 (hiW x), .int .u64 (loW x)] 49)).alloc (.cells #[.int .i64 0, .int .u64 d] 49)).alloc (.cells #[.int .i64 0, .int .u64 0] 49) = w0 at *
    refine (SG.out _).mono ?_
    rintro e1 w1 ⟨rfl, hb1⟩
    replace HB := Lib.hid (HB.out.trans (hb1.mono HB.out.size))
    replace KX := Lib.hid (KX.out.below hb1)
    replace KY := Lib.hid (KY.out.below hb1)
    replace KZ := Lib.hid (KZ.out.below hb1)
    clear hb1
    have yX := KX.out
    have yX_0 := yX.c 0 _ rfl
    have yX_1 := yX.c 1 _ rfl
    have yX_z := yX.lt
    clear yX
    have yY := KY.out
    have yY_0 := yY.c 0 _ rfl
    have yY_1 := yY.c 1 _ rfl
    have yY_z := yY.lt
    clear yY
    go_wp2_with fail
    refine (SX.out _).mono ?_
    rintro e2 w2 ⟨rfl, hb2⟩
    replace HB := Lib.hid (HB.out.trans (hb2.mono HB.out.size))
    replace KX := Lib.hid (KX.out.below hb2)
    replace KY := Lib.hid (KY.out.below hb2)
    replace KZ := Lib.hid (KZ.out.below hb2)
    clear yX_0 yX_1 yX_z yY_0 yY_1 yY_z
    clear hb2
    have yY := KY.out
    have yY_0 := yY.c 0 _ rfl
    have yY_1 := yY.c 1 _ rfl
    have yY_z := yY.lt
    clear yY
    go_wp2_with fail
    refine (SY.out _).mono ?_
    rintro e3 w3 ⟨rfl, hb3⟩
    replace HB := Lib.hid (HB.out.trans (hb3.mono HB.out.size))
    replace KX := Lib.hid (KX.out.below hb3)
    replace KY := Lib.hid (KY.out.below hb3)
    replace KZ := Lib.hid (KZ.out.below hb3)
    clear yY_0 yY_1 yY_z
    clear hb3
    go_wp2_with fail
    refine (DV.out _).mono ?_
    rintro e4 w4 ⟨rfl, hb4⟩
    replace HB := Lib.hid (HB.out.trans (hb4.mono HB.out.size))
    replace KX := Lib.hid (KX.out.below hb4)
    replace KY := Lib.hid (KY.out.below hb4)
    replace KZ := Lib.hid (KZ.out.below hb4)
    clear hb4
    go_wp2_with fail
    refine (J.out _).mono ?_
    rintro e5 w5 ⟨rfl, hb5⟩
    replace HB := Lib.hid (HB.out.trans (hb5.mono HB.out.size))
    replace KX := Lib.hid (KX.out.below hb5)
    replace KY := Lib.hid (KY.out.below hb5)
    replace KZ := Lib.hid (KZ.out.below hb5)
    clear hb5
    have yZ := KZ.out
    have yZ_0 := yZ.c 0 _ rfl
    have yZ_1 := yZ.c 1 _ rfl
    have yZ_z := yZ.lt
    have yZ_f0 := yZ.f 0 _ rfl
    have yZ_f1 := yZ.f 1 _ rfl
    clear yZ
    go_wp2
    replace KX := Lib.hid (blk_other (b := w.heap.size) (n := (w.heap.size + 1 + 1)) (j := 1) (blk_other (b := w.heap.size) (n := (w.heap.size + 1 + 1)) (j := 0) KX.out (by omega) (.int .i64 (hiW v))) (by omega) (.int .u64 (loW v)))
    replace KY := Lib.hid (blk_other (b := (w.heap.size + 1)) (n := (w.heap.size + 1 + 1)) (j := 1) (blk_other (b := (w.heap.size + 1)) (n := (w.heap.size + 1 + 1)) (j := 0) KY.out (by omega) (.int .i64 (hiW v))) (by omega) (.int .u64 (loW v)))
    replace KZ := Lib.hid (blk_set (blk_set KZ.out (j := 0) (by simp) (.int .i64 (hiW v))) (j := 1) (by simp) (.int .u64 (loW v)))
    replace HB := Lib.hid ((HB.out.setCell (p := ⟨(w.heap.size + 1 + 1), 0, none⟩) (show w.heap.size ≤ (w.heap.size + 1 + 1) by omega) (.int .i64 (hiW v))).setCell (p := ⟨(w.heap.size + 1 + 1), 1, none⟩) (show w.heap.size ≤ (w.heap.size + 1 + 1) by omega) (.int .u64 (loW v)))
    clear yZ_0 yZ_1 yZ_z yZ_f0 yZ_f1
    generalize (w5.setCell ⟨(w.heap.size + 1 + 1), 0, none⟩ (.int .i64 (hiW v))).setCell ⟨(w.heap.size + 1 + 1), 1, none⟩ (.int .u64 (loW v)) = w6 at *
    simp only [List.set] at KZ
    have yZ := KZ.out
    have yZ_0 := yZ.c 0 _ rfl
    have yZ_1 := yZ.c 1 _ rfl
    have yZ_z := yZ.lt
    clear yZ
    refine bodyPost_ret (v := .tuple #[.agg #[.int .i64 (hiW v), .int .u64 (loW v)], .bool true]) (by simp [results, Tryz.results122, go_sem, yZ_0, yZ_1]) rfl ⟨rfl, HB.out⟩
set_option maxHeartbeats 16000000 in
set_option maxRecDepth 100000 in
theorem quo_nearN0lt (x d q r v : Int) (w : World) (h : QuoW x d q r) (hx : x < 0) (h0 : 0 ≤ q) (h1 : q < 85070591730234615865843651857942052864) (hr : r = 0) (hr0 : 0 ≤ r) (hr1 : r < d) (hd1 : d < 9223372036854775808) (hc : r < d - r) (hv : v = sgn true q) :
    Calls Tryz.prog 122 #[wv x, .agg #[.int .i64 0, .int .u64 d], .int .i64 2] w fun e w' => e = .returned (.tuple #[wv v, .bool true]) ∧ Below w.heap.size w w' := by
  by_cases hnz : hiW q = 0
  · by_cases hnl : loW q = 0
    · have gx : decide (hiW x < 0) = true := by have := hi_neg x; simp; omega
      have gr : (r == 0) = true := by simpa using hr
      have gr' : (r != 0) = false := by simpa using hr
      have gd : decide (d < r) = false := by simp; omega
      have gs : IntKind.u64.wrap (d - r) = d - r := by rw [IntKind.wrap_u64]; omega
      have gc : decide (d - r < r) = false := by simp; omega
      have ge : (r == d - r) = false := by simp; omega
      have ge' : (d - r == r) = false := by simp; omega
      have n1 : (hiW q != 0) = false := by simpa using hnz
      have n2 : (loW q != 0) = false := by simpa using hnl
      have J := Lib.hid fun w => rsigned_any q false w (by omega) (by omega)
      have e0 : sgn false q = v := by rw [hv]; unfold sgn; simp; unfold hiW loW at *; omega
      rw [e0] at J
      unfold wv at J ⊢
      clear hv
      clear h0 h1 hr0 hr1 hd1 hx hr hnz hnl hc
      have SG := Lib.hid h.sg
      have SX := Lib.hid h.sx
      have SY := Lib.hid h.sy
      have DV := Lib.hid h.dv
      clear h
      have KX := Lib.hid (((Blk.of (vs := #[.int .i64 (hiW x), .int .u64 (loW x)]) (t := 49) (w := w) (b := w.heap.size) (by simp)).alloc (.cells #[.int .i64 0, .int .u64 d] 49)).alloc (.cells #[.int .i64 0, .int .u64 0] 49))
      have KY := Lib.hid ((Blk.of (vs := #[.int .i64 0, .int .u64 d]) (t := 49) (w := (w.alloc (.cells #[.int .i64 (hiW x), .int .u64 (loW x)] 49))) (b := w.heap.size + 1) (by simp)).alloc (.cells #[.int .i64 0, .int .u64 0] 49))
      have KZ := Lib.hid (Blk.of (vs := #[.int .i64 0, .int .u64 0]) (t := 49) (w := ((w.alloc (.cells #[.int .i64 (hiW x), .int .u64 (loW x)] 49)).alloc (.cells #[.int .i64 0, .int .u64 d] 49))) (b := w.heap.size + 1 + 1) (by simp))
      have HB := Lib.hid ((((Below.refl w.heap.size w).alloc (by simp; try omega) (.cells #[.int .i64 (hiW x), .int .u64 (loW x)] 49)).alloc (by simp; try omega) (.cells #[.int .i64 0, .int .u64 d] 49)).alloc (by simp; try omega) (.cells #[.int .i64 0, .int .u64 0] 49))
      go_enter Tryz.func122, Tryz.ntmps122
      go_wp2_with fail
      generalize ((w.alloc (.cells #[.int .i64 (hiW x), .int .u64 (loW x)] 49)).alloc (.cells #[.int .i64 0, .int .u64 d] 49)).alloc (.cells #[.int .i64 0, .int .u64 0] 49) = w0 at *
      refine (SG.out _).mono ?_
      rintro e1 w1 ⟨rfl, hb1⟩
      replace HB := Lib.hid (HB.out.trans (hb1.mono HB.out.size))
      replace KX := Lib.hid (KX.out.below hb1)
      replace KY := Lib.hid (KY.out.below hb1)
      replace KZ := Lib.hid (KZ.out.below hb1)
      clear hb1
      have yX := KX.out
      have yX_0 := yX.c 0 _ rfl
      have yX_1 := yX.c 1 _ rfl
      have yX_z := yX.lt
      clear yX
      have yY := KY.out
      have yY_0 := yY.c 0 _ rfl
      have yY_1 := yY.c 1 _ rfl
      have yY_z := yY.lt
      clear yY
      go_wp2_with fail
      refine (SX.out _).mono ?_
      rintro e2 w2 ⟨rfl, hb2⟩
      replace HB := Lib.hid (HB.out.trans (hb2.mono HB.out.size))
      replace KX := Lib.hid (KX.out.below hb2)
      replace KY := Lib.hid (KY.out.below hb2)
      replace KZ := Lib.hid (KZ.out.below hb2)
      clear yX_0 yX_1 yX_z yY_0 yY_1 yY_z
      clear hb2
      have yY := KY.out
      have yY_0 := yY.c 0 _ rfl
      have yY_1 := yY.c 1 _ rfl
      have yY_z := yY.lt
      clear yY
      go_wp2_with fail
      refine (SY.out _).mono ?_
      rintro e3 w3 ⟨rfl, hb3⟩
      replace HB := Lib.hid (HB.out.trans (hb3.mono HB.out.size))
      replace KX := Lib.hid (KX.out.below hb3)
      replace KY := Lib.hid (KY.out.below hb3)
      replace KZ := Lib.hid (KZ.out.below hb3)
      clear yY_0 yY_1 yY_z
      clear hb3
      go_wp2_with fail
      refine (DV.out _).mono ?_
      rintro e4 w4 ⟨rfl, hb4⟩
      replace HB := Lib.hid (HB.out.trans (hb4.mono HB.out.size))
      replace KX := Lib.hid (KX.out.below hb4)
      replace KY := Lib.hid (KY.out.below hb4)
      replace KZ := Lib.hid (KZ.out.below hb4)
      clear hb4
      go_wp2_with fail
      refine (J.out _).mono ?_
      rintro e5 w5 ⟨rfl, hb5⟩
      replace HB := Lib.hid (HB.out.trans (hb5.mono HB.out.size))
      replace KX := Lib.hid (KX.out.below hb5)
      replace KY := Lib.hid (KY.out.below hb5)
      replace KZ := Lib.hid (KZ.out.below hb5)
      clear hb5
      have yZ := KZ.out
      have yZ_0 := yZ.c 0 _ rfl
      have yZ_1 := yZ.c 1 _ rfl
      have yZ_z := yZ.lt
      have yZ_f0 := yZ.f 0 _ rfl
      have yZ_f1 := yZ.f 1 _ rfl
      clear yZ
      go_wp2
      replace KX := Lib.hid (blk_other (b := w.heap.size) (n := (w.heap.size + 1 + 1)) (j := 1) (blk_other (b := w.heap.size) (n := (w.heap.size + 1 + 1)) (j := 0) KX.out (by omega) (.int .i64 (hiW v))) (by omega) (.int .u64 (loW v)))
      replace KY := Lib.hid (blk_other (b := (w.heap.size + 1)) (n := (w.heap.size + 1 + 1)) (j := 1) (blk_other (b := (w.heap.size + 1)) (n := (w.heap.size + 1 + 1)) (j := 0) KY.out (by omega) (.int .i64 (hiW v))) (by omega) (.int .u64 (loW v)))
      replace KZ := Lib.hid (blk_set (blk_set KZ.out (j := 0) (by simp) (.int .i64 (hiW v))) (j := 1) (by simp) (.int .u64 (loW v)))
      replace HB := Lib.hid ((HB.out.setCell (p := ⟨(w.heap.size + 1 + 1), 0, none⟩) (show w.heap.size ≤ (w.heap.size + 1 + 1) by omega) (.int .i64 (hiW v))).setCell (p := ⟨(w.heap.size + 1 + 1), 1, none⟩) (show w.heap.size ≤ (w.heap.size + 1 + 1) by omega) (.int .u64 (loW v)))
      clear yZ_0 yZ_1 yZ_z yZ_f0 yZ_f1
      generalize (w5.setCell ⟨(w.heap.size + 1 + 1), 0, none⟩ (.int .i64 (hiW v))).setCell ⟨(w.heap.size + 1 + 1), 1, none⟩ (.int .u64 (loW v)) = w6 at *
      simp only [List.set] at KZ
      have yZ := KZ.out
      have yZ_0 := yZ.c 0 _ rfl
      have yZ_1 := yZ.c 1 _ rfl
      have yZ_z := yZ.lt
      clear yZ
      refine bodyPost_ret (v := .tuple #[.agg #[.int .i64 (hiW v), .int .u64 (loW v)], .bool true]) (by simp [results, Tryz.results122, go_sem, yZ_0, yZ_1]) rfl ⟨rfl, HB.out⟩
    · have gx : decide (hiW x < 0) = true := by have := hi_neg x; simp; omega
      have gr : (r == 0) = true := by simpa using hr
      have gr' : (r != 0) = false := by simpa using hr
      have gd : decide (d < r) = false := by simp; omega
      have gs : IntKind.u64.wrap (d - r) = d - r := by rw [IntKind.wrap_u64]; omega
      have gc : decide (d - r < r) = false := by simp; omega
      have ge : (r == d - r) = false := by simp; omega
      have ge' : (d - r == r) = false := by simp; omega
      have n1 : (hiW q != 0) = false := by simpa using hnz
      have n2 : (loW q != 0) = true := by simpa using hnl
      have J := Lib.hid fun w => rsigned_any q true w (by omega) (by omega)
      rw [← hv] at J
      unfold wv at J ⊢
      clear hv
      clear h0 h1 hr0 hr1 hd1 hx hr hnz hnl hc
      have SG := Lib.hid h.sg
      have SX := Lib.hid h.sx
      have SY := Lib.hid h.sy
      have DV := Lib.hid h.dv
      clear h
      have KX := Lib.hid (((Blk.of (vs := #[.int .i64 (hiW x), .int .u64 (loW x)]) (t := 49) (w := w) (b := w.heap.size) (by simp)).alloc (.cells #[.int .i64 0, .int .u64 d] 49)).alloc (.cells #[.int .i64 0, .int .u64 0] 49))
      have KY := Lib.hid ((Blk.of (vs := #[.int .i64 0, .int .u64 d]) (t := 49) (w := (w.alloc (.cells #[.int .i64 (hiW x), .int .u64 (loW x)] 49))) (b := w.heap.size + 1) (by simp)).alloc (.cells #[.int .i64 0, .int .u64 0] 49))
      have KZ := Lib.hid (Blk.of (vs := #[.int .i64 0, .int .u64 0]) (t := 49) (w := ((w.alloc (.cells #[.int .i64 (hiW x), .int .u64 (loW x)] 49)).alloc (.cells #[.int .i64 0, .int .u64 d] 49))) (b := w.heap.size + 1 + 1) (by simp))
      have HB := Lib.hid ((((Below.refl w.heap.size w).alloc (by simp; try omega) (.cells #[.int .i64 (hiW x), .int .u64 (loW x)] 49)).alloc (by simp; try omega) (.cells #[.int .i64 0, .int .u64 d] 49)).alloc (by simp; try omega) (.cells #[.int .i64 0, .int .u64 0] 49))
      go_enter Tryz.func122, Tryz.ntmps122
      go_wp2_with fail
      generalize ((w.alloc (.cells #[.int .i64 (hiW x), .int .u64 (loW x)] 49)).alloc (.cells #[.int .i64 0, .int .u64 d] 49)).alloc (.cells #[.int .i64 0, .int .u64 0] 49) = w0 at *
      refine (SG.out _).mono ?_
      rintro e1 w1 ⟨rfl, hb1⟩
      replace HB := Lib.hid (HB.out.trans (hb1.mono HB.out.size))
      replace KX := Lib.hid (KX.out.below hb1)
      replace KY := Lib.hid (KY.out.below hb1)
      replace KZ := Lib.hid (KZ.out.below hb1)
      clear hb1
      have yX := KX.out
      have yX_0 := yX.c 0 _ rfl
      have yX_1 := yX.c 1 _ rfl
      have yX_z := yX.lt
      clear yX
      have yY := KY.out
      have yY_0 := yY.c 0 _ rfl
      have yY_1 := yY.c 1 _ rfl
      have yY_z := yY.lt
      clear yY
      go_wp2_with fail
      refine (SX.out _).mono ?_
      rintro e2 w2 ⟨rfl, hb2⟩
      replace HB := Lib.hid (HB.out.trans (hb2.mono HB.out.size))
      replace KX := Lib.hid (KX.out.below hb2)
      replace KY := Lib.hid (KY.out.below hb2)
      replace KZ := Lib.hid (KZ.out.below hb2)
      clear yX_0 yX_1 yX_z yY_0 yY_1 yY_z
      clear hb2
      have yY := KY.out
      have yY_0 := yY.c 0 _ rfl
      have yY_1 := yY.c 1 _ rfl
      have yY_z := yY.lt
      clear yY
      go_wp2_with fail
      refine (SY.out _).mono ?_
      rintro e3 w3 ⟨rfl, hb3⟩
      replace HB := Lib.hid (HB.out.trans (hb3.mono HB.out.size))
      replace KX := Lib.hid (KX.out.below hb3)
      replace KY := Lib.hid (KY.out.below hb3)
      replace KZ := Lib.hid (KZ.out.below hb3)
      clear yY_0 yY_1 yY_z
      clear hb3
      go_wp2_with fail
      refine (DV.out _).mono ?_
      rintro e4 w4 ⟨rfl, hb4⟩
      replace HB := Lib.hid (HB.out.trans (hb4.mono HB.out.size))
      replace KX := Lib.hid (KX.out.below hb4)
      replace KY := Lib.hid (KY.out.below hb4)
      replace KZ := Lib.hid (KZ.out.below hb4)
      clear hb4
      go_wp2_with fail
      refine (J.out _).mono ?_
      rintro e5 w5 ⟨rfl, hb5⟩
      replace HB := Lib.hid (HB.out.trans (hb5.mono HB.out.size))
      replace KX := Lib.hid (KX.out.below hb5)
      replace KY := Lib.hid (KY.out.below hb5)
      replace KZ := Lib.hid (KZ.out.below hb5)
      clear hb5
      have yZ := KZ.out
      have yZ_0 := yZ.c 0 _ rfl
      have yZ_1 := yZ.c 1 _ rfl
      have yZ_z := yZ.lt
      have yZ_f0 := yZ.f 0 _ rfl
      have yZ_f1 := yZ.f 1 _ rfl
      clear yZ
      go_wp2
      replace KX := Lib.hid (blk_other (b := w.heap.size) (n := (w.heap.size + 1 + 1)) (j := 1) (blk_other (b := w.heap.size) (n := (w.heap.size + 1 + 1)) (j := 0) KX.out (by omega) (.int .i64 (hiW v))) (by omega) (.int .u64 (loW v)))
      replace KY := Lib.hid (blk_other (b := (w.heap.size + 1)) (n := (w.heap.size + 1 + 1)) (j := 1) (blk_other (b := (w.heap.size + 1)) (n := (w.heap.size + 1 + 1)) (j := 0) KY.out (by omega) (.int .i64 (hiW v))) (by omega) (.int .u64 (loW v)))
      replace KZ := Lib.hid (blk_set (blk_set KZ.out (j := 0) (by simp) (.int .i64 (hiW v))) (j := 1) (by simp) (.int .u64 (loW v)))
      replace HB := Lib.hid ((HB.out.setCell (p := ⟨(w.heap.size + 1 + 1), 0, none⟩) (show w.heap.size ≤ (w.heap.size + 1 + 1) by omega) (.int .i64 (hiW v))).setCell (p := ⟨(w.heap.size + 1 + 1), 1, none⟩) (show w.heap.size ≤ (w.heap.size + 1 + 1) by omega) (.int .u64 (loW v)))
      clear yZ_0 yZ_1 yZ_z yZ_f0 yZ_f1
      generalize (w5.setCell ⟨(w.heap.size + 1 + 1), 0, none⟩ (.int .i64 (hiW v))).setCell ⟨(w.heap.size + 1 + 1), 1, none⟩ (.int .u64 (loW v)) = w6 at *
      simp only [List.set] at KZ
      have yZ := KZ.out
      have yZ_0 := yZ.c 0 _ rfl
      have yZ_1 := yZ.c 1 _ rfl
      have yZ_z := yZ.lt
      clear yZ
      refine bodyPost_ret (v := .tuple #[.agg #[.int .i64 (hiW v), .int .u64 (loW v)], .bool true]) (by simp [results, Tryz.results122, go_sem, yZ_0, yZ_1]) rfl ⟨rfl, HB.out⟩
  · have gx : decide (hiW x < 0) = true := by have := hi_neg x; simp; omega
    have gr : (r == 0) = true := by simpa using hr
    have gr' : (r != 0) = false := by simpa using hr
    have gd : decide (d < r) = false := by simp; omega
    have gs : IntKind.u64.wrap (d - r) = d - r := by rw [IntKind.wrap_u64]; omega
    have gc : decide (d - r < r) = false := by simp; omega
    have ge : (r == d - r) = false := by simp; omega
    have ge' : (d - r == r) = false := by simp; omega
    have n1 : (hiW q != 0) = true := by simpa using hnz
    have J := Lib.hid fun w => rsigned_any q true w (by omega) (by omega)
    rw [← hv] at J
    unfold wv at J ⊢
    clear hv
    clear h0 h1 hr0 hr1 hd1 hx hr hnz hc
    have SG := Lib.hid h.sg
    have SX := Lib.hid h.sx
    have SY := Lib.hid h.sy
    have DV := Lib.hid h.dv
    clear h
    have KX := Lib.hid (((Blk.of (vs := #[.int .i64 (hiW x), .int .u64 (loW x)]) (t := 49) (w := w) (b := w.heap.size) (by simp)).alloc (.cells #[.int .i64 0, .int .u64 d] 49)).alloc (.cells #[.int .i64 0, .int .u64 0] 49))
    have KY := Lib.hid ((Blk.of (vs := #[.int .i64 0, .int .u64 d]) (t := 49) (w := (w.alloc (.cells #[.int .i64 (hiW x), .int .u64 (loW x)] 49))) (b := w.heap.size + 1) (by simp)).alloc (.cells #[.int .i64 0, .int .u64 0] 49))
    have KZ := Lib.hid (Blk.of (vs := #[.int .i64 0, .int .u64 0]) (t := 49) (w := ((w.alloc (.cells #[.int .i64 (hiW x), .int .u64 (loW x)] 49)).alloc (.cells #[.int .i64 0, .int .u64 d] 49))) (b := w.heap.size + 1 + 1) (by simp))
    have HB := Lib.hid ((((Below.refl w.heap.size w).alloc (by simp; try omega) (.cells #[.int .i64 (hiW x), .int .u64 (loW x)] 49)).alloc (by simp; try omega) (.cells #[.int .i64 0, .int .u64 d] 49)).alloc (by simp; try omega) (.cells #[.int .i64 0, .int .u64 0] 49))
    go_enter Tryz.func122, Tryz.ntmps122
    go_wp2_with fail
    generalize ((w.alloc (.cells #[.int .i64 (hiW x), .int .u64 (loW x)] 49)).alloc (.cells #[.int .i64 0, .int .u64 d] 49)).alloc (.cells #[.int .i64 0, .int .u64 0] 49) = w0 at *
    refine (SG.out _).mono ?_
    rintro e1 w1 ⟨rfl, hb1⟩
    replace HB := Lib.hid (HB.out.trans (hb1.mono HB.out.size))
    replace KX := Lib.hid (KX.out.below hb1)
    replace KY := Lib.hid (KY.out.below hb1)
    replace KZ := Lib.hid (KZ.out.below hb1)
    clear hb1
    have yX := KX.out
    have yX_0 := yX.c 0 _ rfl
    have yX_1 := yX.c 1 _ rfl
    have yX_z := yX.lt
    clear yX
    have yY := KY.out
    have yY_0 := yY.c 0 _ rfl
    have yY_1 := yY.c 1 _ rfl
    have yY_z := yY.lt
    clear yY
    go_wp2_with fail
    refine (SX.out _).mono ?_
    rintro e2 w2 ⟨rfl, hb2⟩
    replace HB := Lib.hid (HB.out.trans (hb2.mono HB.out.size))
    replace KX := Lib.hid (KX.out.below hb2)
    replace KY := Lib.hid (KY.out.below hb2)
    replace KZ := Lib.hid (KZ.out.below hb2)
    clear yX_0 yX_1 yX_z yY_0 yY_1 yY_z
    clear hb2
    have yY := KY.out
    have yY_0 := yY.c 0 _ rfl
    have yY_1 := yY.c 1 _ rfl
    have yY_z := yY.lt
    clear yY
    go_wp2_with fail
    refine (SY.out _).mono ?_
    rintro e3 w3 ⟨rfl, hb3⟩
    replace HB := Lib.hid (HB.out.trans (hb3.mono HB.out.size))
    replace KX := Lib.hid (KX.out.below hb3)
    replace KY := Lib.hid (KY.out.below hb3)
    replace KZ := Lib.hid (KZ.out.below hb3)
    clear yY_0 yY_1 yY_z
    clear hb3
    go_wp2_with fail
    refine (DV.out _).mono ?_
    rintro e4 w4 ⟨rfl, hb4⟩
    replace HB := Lib.hid (HB.out.trans (hb4.mono HB.out.size))
    replace KX := Lib.hid (KX.out.below hb4)
    replace KY := Lib.hid (KY.out.below hb4)
    replace KZ := Lib.hid (KZ.out.below hb4)
    clear hb4
    go_wp2_with fail
    refine (J.out _).mono ?_
    rintro e5 w5 ⟨rfl, hb5⟩
    replace HB := Lib.hid (HB.out.trans (hb5.mono HB.out.size))
    replace KX := Lib.hid (KX.out.below hb5)
    replace KY := Lib.hid (KY.out.below hb5)
    replace KZ := Lib.hid (KZ.out.below hb5)
    clear hb5
    have yZ := KZ.out
    have yZ_0 := yZ.c 0 _ rfl
    have yZ_1 := yZ.c 1 _ rfl
    have yZ_z := yZ.lt
    have yZ_f0 := yZ.f 0 _ rfl
    have yZ_f1 := yZ.f 1 _ rfl
    clear yZ
    go_wp2
    replace KX := Lib.hid (blk_other (b := w.heap.size) (n := (w.heap.size + 1 + 1)) (j := 1) (blk_other (b := w.heap.size) (n := (w.heap.size + 1 + 1)) (j := 0) KX.out (by omega) (.int .i64 (hiW v))) (by omega) (.int .u64 (loW v)))
    replace KY := Lib.hid (blk_other (b := (w.heap.size + 1)) (n := (w.heap.size + 1 + 1)) (j := 1) (blk_other (b := (w.heap.size + 1)) (n := (w.heap.size + 1 + 1)) (j := 0) KY.out (by omega) (.int .i64 (hiW v))) (by omega) (.int .u64 (loW v)))
    replace KZ := Lib.hid (blk_set (blk_set KZ.out (j := 0) (by simp) (.int .i64 (hiW v))) (j := 1) (by simp) (.int .u64 (loW v)))
    replace HB := Lib.hid ((HB.out.setCell (p := ⟨(w.heap.size + 1 + 1), 0, none⟩) (show w.heap.size ≤ (w.heap.size + 1 + 1) by omega) (.int .i64 (hiW v))).setCell (p := ⟨(w.heap.size + 1 + 1), 1, none⟩) (show w.heap.size ≤ (w.heap.size + 1 + 1) by omega) (.int .u64 (loW v)))
    clear yZ_0 yZ_1 yZ_z yZ_f0 yZ_f1
    generalize (w5.setCell ⟨(w.heap.size + 1 + 1), 0, none⟩ (.int .i64 (hiW v))).setCell ⟨(w.heap.size + 1 + 1), 1, none⟩ (.int .u64 (loW v)) = w6 at *
    simp only [List.set] at KZ
    have yZ := KZ.out
    have yZ_0 := yZ.c 0 _ rfl
    have yZ_1 := yZ.c 1 _ rfl
    have yZ_z := yZ.lt
    clear yZ
    refine bodyPost_ret (v := .tuple #[.agg #[.int .i64 (hiW v), .int .u64 (loW v)], .bool true]) (by simp [results, Tryz.results122, go_sem, yZ_0, yZ_1]) rfl ⟨rfl, HB.out⟩
set_option maxHeartbeats 16000000 in
set_option maxRecDepth 100000 in
theorem quo_nearN1lt (x d q r v : Int) (w : World) (h : QuoW x d q r) (hx : x < 0) (h0 : 0 ≤ q) (h1 : q < 85070591730234615865843651857942052864) (hr : ¬ r = 0) (hr0 : 0 ≤ r) (hr1 : r < d) (hd1 : d < 9223372036854775808) (hc : r < d - r) (hv : v = sgn true q) :
    Calls Tryz.prog 122 #[wv x, .agg #[.int .i64 0, .int .u64 d], .int .i64 2] w fun e w' => e = .returned (.tuple #[wv v, .bool true]) ∧ Below w.heap.size w w' := by
  by_cases hnz : hiW q = 0
  · by_cases hnl : loW q = 0
    · have gx : decide (hiW x < 0) = true := by have := hi_neg x; simp; omega
      have gr : (r == 0) = false := by simpa using hr
      have gr' : (r != 0) = true := by simpa using hr
      have gd : decide (d < r) = false := by simp; omega
      have gs : IntKind.u64.wrap (d - r) = d - r := by rw [IntKind.wrap_u64]; omega
      have gc : decide (d - r < r) = false := by simp; omega
      have ge : (r == d - r) = false := by simp; omega
      have ge' : (d - r == r) = false := by simp; omega
      have n1 : (hiW q != 0) = false := by simpa using hnz
      have n2 : (loW q != 0) = false := by simpa using hnl
      have J := Lib.hid fun w => rsigned_any q false w (by omega) (by omega)
      have e0 : sgn false q = v := by rw [hv]; unfold sgn; simp; unfold hiW loW at *; omega
      rw [e0] at J
      unfold wv at J ⊢
      clear hv
      clear h0 h1 hr0 hr1 hd1 hx hr hnz hnl hc
      have SG := Lib.hid h.sg
      have SX := Lib.hid h.sx
      have SY := Lib.hid h.sy
      have DV := Lib.hid h.dv
      clear h
      have KX := Lib.hid (((Blk.of (vs := #[.int .i64 (hiW x), .int .u64 (loW x)]) (t := 49) (w := w) (b := w.heap.size) (by simp)).alloc (.cells #[.int .i64 0, .int .u64 d] 49)).alloc (.cells #[.int .i64 0, .int .u64 0] 49))
      have KY := Lib.hid ((Blk.of (vs := #[.int .i64 0, .int .u64 d]) (t := 49) (w := (w.alloc (.cells #[.int .i64 (hiW x), .int .u64 (loW x)] 49))) (b := w.heap.size + 1) (by simp)).alloc (.cells #[.int .i64 0, .int .u64 0] 49))
      have KZ := Lib.hid (Blk.of (vs := #[.int .i64 0, .int .u64 0]) (t := 49) (w := ((w.alloc (.cells #[.int .i64 (hiW x), .int .u64 (loW x)] 49)).alloc (.cells #[.int .i64 0, .int .u64 d] 49))) (b := w.heap.size + 1 + 1) (by simp))
      have HB := Lib.hid ((((Below.refl w.heap.size w).alloc (by simp; try omega) (.cells #[.int .i64 (hiW x), .int .u64 (loW x)] 49)).alloc (by simp; try omega) (.cells #[.int .i64 0, .int .u64 d] 49)).alloc (by simp; try omega) (.cells #[.int .i64 0, .int .u64 0] 49))
      go_enter Tryz.func122, Tryz.ntmps122
      go_wp2_with fail
      generalize ((w.alloc (.cells #[.int .i64 (hiW x), .int .u64 (loW x)] 49)).alloc (.cells #[.int .i64 0, .int .u64 d] 49)).alloc (.cells #[.int .i64 0, .int .u64 0] 49) = w0 at *
      refine (SG.out _).mono ?_
      rintro e1 w1 ⟨rfl, hb1⟩
      replace HB := Lib.hid (HB.out.trans (hb1.mono HB.out.size))
      replace KX := Lib.hid (KX.out.below hb1)
      replace KY := Lib.hid (KY.out.below hb1)
      replace KZ := Lib.hid (KZ.out.below hb1)
      clear hb1
      have yX := KX.out
      have yX_0 := yX.c 0 _ rfl
      have yX_1 := yX.c 1 _ rfl
      have yX_z := yX.lt
      clear yX
      have yY := KY.out
      have yY_0 := yY.c 0 _ rfl
      have yY_1 := yY.c 1 _ rfl
      have yY_z := yY.lt
      clear yY
      go_wp2_with fail
      refine (SX.out _).mono ?_
      rintro e2 w2 ⟨rfl, hb2⟩
      replace HB := Lib.hid (HB.out.trans (hb2.mono HB.out.size))
      replace KX := Lib.hid (KX.out.below hb2)
      replace KY := Lib.hid (KY.out.below hb2)
      replace KZ := Lib.hid (KZ.out.below hb2)
      clear yX_0 yX_1 yX_z yY_0 yY_1 yY_z
      clear hb2
      have yY := KY.out
      have yY_0 := yY.c 0 _ rfl
      have yY_1 := yY.c 1 _ rfl
      have yY_z := yY.lt
      clear yY
      go_wp2_with fail
      refine (SY.out _).mono ?_
      rintro e3 w3 ⟨rfl, hb3⟩
      replace HB := Lib.hid (HB.out.trans (hb3.mono HB.out.size))
      replace KX := Lib.hid (KX.out.below hb3)
      replace KY := Lib.hid (KY.out.below hb3)
      replace KZ := Lib.hid (KZ.out.below hb3)
      clear yY_0 yY_1 yY_z
      clear hb3
      go_wp2_with fail
      refine (DV.out _).mono ?_
      rintro e4 w4 ⟨rfl, hb4⟩
      replace HB := Lib.hid (HB.out.trans (hb4.mono HB.out.size))
      replace KX := Lib.hid (KX.out.below hb4)
      replace KY := Lib.hid (KY.out.below hb4)
      replace KZ := Lib.hid (KZ.out.below hb4)
      clear hb4
      go_wp2_with fail
      refine (J.out _).mono ?_
      rintro e5 w5 ⟨rfl, hb5⟩
      replace HB := Lib.hid (HB.out.trans (hb5.mono HB.out.size))
      replace KX := Lib.hid (KX.out.below hb5)
      replace KY := Lib.hid (KY.out.below hb5)
      replace KZ := Lib.hid (KZ.out.below hb5)
      clear hb5
      have yZ := KZ.out
      have yZ_0 := yZ.c 0 _ rfl
      have yZ_1 := yZ.c 1 _ rfl
      have yZ_z := yZ.lt
      have yZ_f0 := yZ.f 0 _ rfl
      have yZ_f1 := yZ.f 1 _ rfl
      clear yZ
      go_wp2
      replace KX := Lib.hid (blk_other (b := w.heap.size) (n := (w.heap.size + 1 + 1)) (j := 1) (blk_other (b := w.heap.size) (n := (w.heap.size + 1 + 1)) (j := 0) KX.out (by omega) (.int .i64 (hiW v))) (by omega) (.int .u64 (loW v)))
      replace KY := Lib.hid (blk_other (b := (w.heap.size + 1)) (n := (w.heap.size + 1 + 1)) (j := 1) (blk_other (b := (w.heap.size + 1)) (n := (w.heap.size + 1 + 1)) (j := 0) KY.out (by omega) (.int .i64 (hiW v))) (by omega) (.int .u64 (loW v)))
      replace KZ := Lib.hid (blk_set (blk_set KZ.out (j := 0) (by simp) (.int .i64 (hiW v))) (j := 1) (by simp) (.int .u64 (loW v)))
      replace HB := Lib.hid ((HB.out.setCell (p := ⟨(w.heap.size + 1 + 1), 0, none⟩) (show w.heap.size ≤ (w.heap.size + 1 + 1) by omega) (.int .i64 (hiW v))).setCell (p := ⟨(w.heap.size + 1 + 1), 1, none⟩) (show w.heap.size ≤ (w.heap.size + 1 + 1) by omega) (.int .u64 (loW v)))
      clear yZ_0 yZ_1 yZ_z yZ_f0 yZ_f1
      generalize (w5.setCell ⟨(w.heap.size + 1 + 1), 0, none⟩ (.int .i64 (hiW v))).setCell ⟨(w.heap.size + 1 + 1), 1, none⟩ (.int .u64 (loW v)) = w6 at *
      simp only [List.set] at KZ
      have yZ := KZ.out
      have yZ_0 := yZ.c 0 _ rfl
      have yZ_1 := yZ.c 1 _ rfl
      have yZ_z := yZ.lt
      clear yZ
      refine bodyPost_ret (v := .tuple #[.agg #[.int .i64 (hiW v), .int .u64 (loW v)], .bool true]) (by simp [results, Tryz.results122, go_sem, yZ_0, yZ_1]) rfl ⟨rfl, HB.out⟩
    · have gx : decide (hiW x < 0) = true := by have := hi_neg x; simp; omega
      have gr : (r == 0) = false := by simpa using hr
      have gr' : (r != 0) = true := by simpa using hr
      have gd : decide (d < r) = false := by simp; omega
      have gs : IntKind.u64.wrap (d - r) = d - r := by rw [IntKind.wrap_u64]; omega
      have gc : decide (d - r < r) = false := by simp; omega
      have ge : (r == d - r) = false := by simp; omega
      have ge' : (d - r == r) = false := by simp; omega
      have n1 : (hiW q != 0) = false := by simpa using hnz
      have n2 : (loW q != 0) = true := by simpa using hnl
      have J := Lib.hid fun w => rsigned_any q true w (by omega) (by omega)
      rw [← hv] at J
      unfold wv at J ⊢
      clear hv
      clear h0 h1 hr0 hr1 hd1 hx hr hnz hnl hc
      have SG := Lib.hid h.sg
      have SX := Lib.hid h.sx
      have SY := Lib.hid h.sy
      have DV := Lib.hid h.dv
      clear h
      have KX := Lib.hid (((Blk.of (vs := #[.int .i64 (hiW x), .int .u64 (loW x)]) (t := 49) (w := w) (b := w.heap.size) (by simp)).alloc (.cells #[.int .i64 0, .int .u64 d] 49)).alloc (.cells #[.int .i64 0, .int .u64 0] 49))
      have KY := Lib.hid ((Blk.of (vs := #[.int .i64 0, .int .u64 d]) (t := 49) (w := (w.alloc (.cells #[.int .i64 (hiW x), .int .u64 (loW x)] 49))) (b := w.heap.size + 1) (by simp)).alloc (.cells #[.int .i64 0, .int .u64 0] 49))
      have KZ := Lib.hid (Blk.of (vs := #[.int .i64 0, .int .u64 0]) (t := 49) (w := ((w.alloc (.cells #[.int .i64 (hiW x), .int .u64 (loW x)] 49)).alloc (.cells #[.int .i64 0, .int .u64 d] 49))) (b := w.heap.size + 1 + 1) (by simp))
      have HB := Lib.hid ((((Below.refl w.heap.size w).alloc (by simp; try omega) (.cells #[.int .i64 (hiW x), .int .u64 (loW x)] 49)).alloc (by simp; try omega) (.cells #[.int .i64 0, .int .u64 d] 49)).alloc (by simp; try omega) (.cells #[.int .i64 0, .int .u64 0] 49))
      go_enter Tryz.func122, Tryz.ntmps122
      go_wp2_with fail
      generalize ((w.alloc (.cells #[.int .i64 (hiW x), .int .u64 (loW x)] 49)).alloc (.cells #[.int .i64 0, .int .u64 d] 49)).alloc (.cells #[.int .i64 0, .int .u64 0] 49) = w0 at *
      refine (SG.out _).mono ?_
      rintro e1 w1 ⟨rfl, hb1⟩
      replace HB := Lib.hid (HB.out.trans (hb1.mono HB.out.size))
      replace KX := Lib.hid (KX.out.below hb1)
      replace KY := Lib.hid (KY.out.below hb1)
      replace KZ := Lib.hid (KZ.out.below hb1)
      clear hb1
      have yX := KX.out
      have yX_0 := yX.c 0 _ rfl
      have yX_1 := yX.c 1 _ rfl
      have yX_z := yX.lt
      clear yX
      have yY := KY.out
      have yY_0 := yY.c 0 _ rfl
      have yY_1 := yY.c 1 _ rfl
      have yY_z := yY.lt
      clear yY
      go_wp2_with fail
      refine (SX.out _).mono ?_
      rintro e2 w2 ⟨rfl, hb2⟩
      replace HB := Lib.hid (HB.out.trans (hb2.mono HB.out.size))
      replace KX := Lib.hid (KX.out.below hb2)
      replace KY := Lib.hid (KY.out.below hb2)
      replace KZ := Lib.hid (KZ.out.below hb2)
      clear yX_0 yX_1 yX_z yY_0 yY_1 yY_z
      clear hb2
      have yY := KY.out
      have yY_0 := yY.c 0 _ rfl
      have yY_1 := yY.c 1 _ rfl
      have yY_z := yY.lt
      clear yY
      go_wp2_with fail
      refine (SY.out _).mono ?_
      rintro e3 w3 ⟨rfl, hb3⟩
      replace HB := Lib.hid (HB.out.trans (hb3.mono HB.out.size))
      replace KX := Lib.hid (KX.out.below hb3)
      replace KY := Lib.hid (KY.out.below hb3)
      replace KZ := Lib.hid (KZ.out.below hb3)
      clear yY_0 yY_1 yY_z
      clear hb3
      go_wp2_with fail
      refine (DV.out _).mono ?_
      rintro e4 w4 ⟨rfl, hb4⟩
      replace HB := Lib.hid (HB.out.trans (hb4.mono HB.out.size))
      replace KX := Lib.hid (KX.out.below hb4)
      replace KY := Lib.hid (KY.out.below hb4)
      replace KZ := Lib.hid (KZ.out.below hb4)
      clear hb4
      go_wp2_with fail
      refine (J.out _).mono ?_
      rintro e5 w5 ⟨rfl, hb5⟩
      replace HB := Lib.hid (HB.out.trans (hb5.mono HB.out.size))
      replace KX := Lib.hid (KX.out.below hb5)
      replace KY := Lib.hid (KY.out.below hb5)
      replace KZ := Lib.hid (KZ.out.below hb5)
      clear hb5
      have yZ := KZ.out
      have yZ_0 := yZ.c 0 _ rfl
      have yZ_1 := yZ.c 1 _ rfl
      have yZ_z := yZ.lt
      have yZ_f0 := yZ.f 0 _ rfl
      have yZ_f1 := yZ.f 1 _ rfl
      clear yZ
      go_wp2
      replace KX := Lib.hid (blk_other (b := w.heap.size) (n := (w.heap.size + 1 + 1)) (j := 1) (blk_other (b := w.heap.size) (n := (w.heap.size + 1 + 1)) (j := 0) KX.out (by omega) (.int .i64 (hiW v))) (by omega) (.int .u64 (loW v)))
      replace KY := Lib.hid (blk_other (b := (w.heap.size + 1)) (n := (w.heap.size + 1 + 1)) (j := 1) (blk_other (b := (w.heap.size + 1)) (n := (w.heap.size + 1 + 1)) (j := 0) KY.out (by omega) (.int .i64 (hiW v))) (by omega) (.int .u64 (loW v)))
      replace KZ := Lib.hid (blk_set (blk_set KZ.out (j := 0) (by simp) (.int .i64 (hiW v))) (j := 1) (by simp) (.int .u64 (loW v)))
      replace HB := Lib.hid ((HB.out.setCell (p := ⟨(w.heap.size + 1 + 1), 0, none⟩) (show w.heap.size ≤ (w.heap.size + 1 + 1) by omega) (.int .i64 (hiW v))).setCell (p := ⟨(w.heap.size + 1 + 1), 1, none⟩) (show w.heap.size ≤ (w.heap.size + 1 + 1) by omega) (.int .u64 (loW v)))
      clear yZ_0 yZ_1 yZ_z yZ_f0 yZ_f1
      generalize (w5.setCell ⟨(w.heap.size + 1 + 1), 0, none⟩ (.int .i64 (hiW v))).setCell ⟨(w.heap.size + 1 + 1), 1, none⟩ (.int .u64 (loW v)) = w6 at *
      simp only [List.set] at KZ
      have yZ := KZ.out
      have yZ_0 := yZ.c 0 _ rfl
      have yZ_1 := yZ.c 1 _ rfl
      have yZ_z := yZ.lt
      clear yZ
      refine bodyPost_ret (v := .tuple #[.agg #[.int .i64 (hiW v), .int .u64 (loW v)], .bool true]) (by simp [results, Tryz.results122, go_sem, yZ_0, yZ_1]) rfl ⟨rfl, HB.out⟩
  · have gx : decide (hiW x < 0) = true := by have := hi_neg x; simp; omega
    have gr : (r == 0) = false := by simpa using hr
    have gr' : (r != 0) = true := by simpa using hr
    have gd : decide (d < r) = false := by simp; omega
    have gs : IntKind.u64.wrap (d - r) = d - r := by rw [IntKind.wrap_u64]; omega
    have gc : decide (d - r < r) = false := by simp; omega
    have ge : (r == d - r) = false := by simp; omega
    have ge' : (d - r == r) = false := by simp; omega
    have n1 : (hiW q != 0) = true := by simpa using hnz
    have J := Lib.hid fun w => rsigned_any q true w (by omega) (by omega)
    rw [← hv] at J
    unfold wv at J ⊢
    clear hv
    clear h0 h1 hr0 hr1 hd1 hx hr hnz hc
    have SG := Lib.hid h.sg
    have SX := Lib.hid h.sx
    have SY := Lib.hid h.sy
    have DV := Lib.hid h.dv
    clear h
    have KX := Lib.hid (((Blk.of (vs := #[.int .i64 (hiW x), .int .u64 (loW x)]) (t := 49) (w := w) (b := w.heap.size) (by simp)).alloc (.cells #[.int .i64 0, .int .u64 d] 49)).alloc (.cells #[.int .i64 0, .int .u64 0] 49))
    have KY := Lib.hid ((Blk.of (vs := #[.int .i64 0, .int .u64 d]) (t := 49) (w := (w.alloc (.cells #[.int .i64 (hiW x), .int .u64 (loW x)] 49))) (b := w.heap.size + 1) (by simp)).alloc (.cells #[.int .i64 0, .int .u64 0] 49))
    have KZ := Lib.hid (Blk.of (vs := #[.int .i64 0, .int .u64 0]) (t := 49) (w := ((w.alloc (.cells #[.int .i64 (hiW x), .int .u64 (loW x)] 49)).alloc (.cells #[.int .i64 0, .int .u64 d] 49))) (b := w.heap.size + 1 + 1) (by simp))
    have HB := Lib.hid ((((Below.refl w.heap.size w).alloc (by simp; try omega) (.cells #[.int .i64 (hiW x), .int .u64 (loW x)] 49)).alloc (by simp; try omega) (.cells #[.int .i64 0, .int .u64 d] 49)).alloc (by simp; try omega) (.cells #[.int .i64 0, .int .u64 0] 49))
    go_enter Tryz.func122, Tryz.ntmps122
    go_wp2_with fail
    generalize ((w.alloc (.cells #[.int .i64 (hiW x), .int .u64 (loW x)] 49)).alloc (.cells #[.int .i64 0, .int .u64 d] 49)).alloc (.cells #[.int .i64 0, .int .u64 0] 49) = w0 at *
    refine (SG.out _).mono ?_
    rintro e1 w1 ⟨rfl, hb1⟩
    replace HB := Lib.hid (HB.out.trans (hb1.mono HB.out.size))
    replace KX := Lib.hid (KX.out.below hb1)
    replace KY := Lib.hid (KY.out.below hb1)
    replace KZ := Lib.hid (KZ.out.below hb1)
    clear hb1
    have yX := KX.out
    have yX_0 := yX.c 0 _ rfl
    have yX_1 := yX.c 1 _ rfl
    have yX_z := yX.lt
    clear yX
    have yY := KY.out
    have yY_0 := yY.c 0 _ rfl
    have yY_1 := yY.c 1 _ rfl
    have yY_z := yY.lt
    clear yY
    go_wp2_with fail
    refine (SX.out _).mono ?_
    rintro e2 w2 ⟨rfl, hb2⟩
    replace HB := Lib.hid (HB.out.trans (hb2.mono HB.out.size))
    replace KX := Lib.hid (KX.out.below hb2)
    replace KY := Lib.hid (KY.out.below hb2)
    replace KZ := Lib.hid (KZ.out.below hb2)
    clear yX_0 yX_1 yX_z yY_0 yY_1 yY_z
    clear hb2
    have yY := KY.out
    have yY_0 := yY.c 0 _ rfl
    have yY_1 := yY.c 1 _ rfl
    have yY_z := yY.lt
    clear yY
    go_wp2_with fail
    refine (SY.out _).mono ?_
    rintro e3 w3 ⟨rfl, hb3⟩
    replace HB := Lib.hid (HB.out.trans (hb3.mono HB.out.size))
    replace KX := Lib.hid (KX.out.below hb3)
    replace KY := Lib.hid (KY.out.below hb3)
    replace KZ := Lib.hid (KZ.out.below hb3)
    clear yY_0 yY_1 yY_z
    clear hb3
    go_wp2_with fail
    refine (DV.out _).mono ?_
    rintro e4 w4 ⟨rfl, hb4⟩
    replace HB := Lib.hid (HB.out.trans (hb4.mono HB.out.size))
    replace KX := Lib.hid (KX.out.below hb4)
    replace KY := Lib.hid (KY.out.below hb4)
    replace KZ := Lib.hid (KZ.out.below hb4)
    clear hb4
    go_wp2_with fail
    refine (J.out _).mono ?_
    rintro e5 w5 ⟨rfl, hb5⟩
    replace HB := Lib.hid (HB.out.trans (hb5.mono HB.out.size))
    replace KX := Lib.hid (KX.out.below hb5)
    replace KY := Lib.hid (KY.out.below hb5)
    replace KZ := Lib.hid (KZ.out.below hb5)
    clear hb5
    have yZ := KZ.out
    have yZ_0 := yZ.c 0 _ rfl
    have yZ_1 := yZ.c 1 _ rfl
    have yZ_z := yZ.lt
    have yZ_f0 := yZ.f 0 _ rfl
    have yZ_f1 := yZ.f 1 _ rfl
    clear yZ
    go_wp2
    replace KX := Lib.hid (blk_other (b := w.heap.size) (n := (w.heap.size + 1 + 1)) (j := 1) (blk_other (b := w.heap.size) (n := (w.heap.size + 1 + 1)) (j := 0) KX.out (by omega) (.int .i64 (hiW v))) (by omega) (.int .u64 (loW v)))
    replace KY := Lib.hid (blk_other (b := (w.heap.size + 1)) (n := (w.heap.size + 1 + 1)) (j := 1) (blk_other (b := (w.heap.size + 1)) (n := (w.heap.size + 1 + 1)) (j := 0) KY.out (by omega) (.int .i64 (hiW v))) (by omega) (.int .u64 (loW v)))
    replace KZ := Lib.hid (blk_set (blk_set KZ.out (j := 0) (by simp) (.int .i64 (hiW v))) (j := 1) (by simp) (.int .u64 (loW v)))
    replace HB := Lib.hid ((HB.out.setCell (p := ⟨(w.heap.size + 1 + 1), 0, none⟩) (show w.heap.size ≤ (w.heap.size + 1 + 1) by omega) (.int .i64 (hiW v))).setCell (p := ⟨(w.heap.size + 1 + 1), 1, none⟩) (show w.heap.size ≤ (w.heap.size + 1 + 1) by omega) (.int .u64 (loW v)))
    clear yZ_0 yZ_1 yZ_z yZ_f0 yZ_f1
    generalize (w5.setCell ⟨(w.heap.size + 1 + 1), 0, none⟩ (.int .i64 (hiW v))).setCell ⟨(w.heap.size + 1 + 1), 1, none⟩ (.int .u64 (loW v)) = w6 at *
    simp only [List.set] at KZ
    have yZ := KZ.out
    have yZ_0 := yZ.c 0 _ rfl
    have yZ_1 := yZ.c 1 _ rfl
    have yZ_z := yZ.lt
    clear yZ
    refine bodyPost_ret (v := .tuple #[.agg #[.int .i64 (hiW v), .int .u64 (loW v)], .bool true]) (by simp [results, Tryz.results122, go_sem, yZ_0, yZ_1]) rfl ⟨rfl, HB.out⟩
set_option maxHeartbeats 16000000 in
set_option maxRecDepth 100000 in
theorem quo_nearN1eq (x d q r v : Int) (w : World) (h : QuoW x d q r) (hx : x < 0) (h0 : 0 ≤ q) (h1 : q < 85070591730234615865843651857942052864) (hr : ¬ r = 0) (hr0 : 0 ≤ r) (hr1 : r < d) (hd1 : d < 9223372036854775808) (hc : r = d - r) (hv : v = sgn true q) :
    Calls Tryz.prog 122 #[wv x, .agg #[.int .i64 0, .int .u64 d], .int .i64 2] w fun e w' => e = .returned (.tuple #[wv v, .bool true]) ∧ Below w.heap.size w w' := by
  by_cases hnz : hiW q = 0
  · by_cases hnl : loW q = 0
    · have gx : decide (hiW x < 0) = true := by have := hi_neg x; simp; omega
      have gr : (r == 0) = false := by simpa using hr
      have gr' : (r != 0) = true := by simpa using hr
      have gd : decide (d < r) = false := by simp; omega
      have gs : IntKind.u64.wrap (d - r) = d - r := by rw [IntKind.wrap_u64]; omega
      have gc : decide (d - r < r) = false := by simp; omega
      have ge : (r == d - r) = true := by simp; omega
      have ge' : (d - r == r) = true := by simp; omega
      have n1 : (hiW q != 0) = false := by simpa using hnz
      have n2 : (loW q != 0) = false := by simpa using hnl
      have J := Lib.hid fun w => rsigned_any q false w (by omega) (by omega)
      have e0 : sgn false q = v := by rw [hv]; unfold sgn; simp; unfold hiW loW at *; omega
      rw [e0] at J
      unfold wv at J ⊢
      clear hv
      clear h0 h1 hr0 hr1 hd1 hx hr hnz hnl hc
      have SG := Lib.hid h.sg
      have SX := Lib.hid h.sx
      have SY := Lib.hid h.sy
      have DV := Lib.hid h.dv
      clear h
      have KX := Lib.hid (((Blk.of (vs := #[.int .i64 (hiW x), .int .u64 (loW x)]) (t := 49) (w := w) (b := w.heap.size) (by simp)).alloc (.cells #[.int .i64 0, .int .u64 d] 49)).alloc (.cells #[.int .i64 0, .int .u64 0] 49))
      have KY := Lib.hid ((Blk.of (vs := #[.int .i64 0, .int .u64 d]) (t := 49) (w := (w.alloc (.cells #[.int .i64 (hiW x), .int .u64 (loW x)] 49))) (b := w.heap.size + 1) (by simp)).alloc (.cells #[.int .i64 0, .int .u64 0] 49))
      have KZ := Lib.hid (Blk.of (vs := #[.int .i64 0, .int .u64 0]) (t := 49) (w := ((w.alloc (.cells #[.int .i64 (hiW x), .int .u64 (loW x)] 49)).alloc (.cells #[.int .i64 0, .int .u64 d] 49))) (b := w.heap.size + 1 + 1) (by simp))
      have HB := Lib.hid ((((Below.refl w.heap.size w).alloc (by simp; try omega) (.cells #[.int .i64 (hiW x), .int .u64 (loW x)] 49)).alloc (by simp; try omega) (.cells #[.int .i64 0, .int .u64 d] 49)).alloc (by simp; try omega) (.cells #[.int .i64 0, .int .u64 0] 49))
      go_enter Tryz.func122, Tryz.ntmps122
      go_wp2_with fail
      generalize ((w.alloc (.cells #[.int .i64 (hiW x), .int .u64 (loW x)] 49)).alloc (.cells #[.int .i64 0, .int .u64 d] 49)).alloc (.cells #[.int .i64 0, .int .u64 0] 49) = w0 at *
      refine (SG.out _).mono ?_
      rintro e1 w1 ⟨rfl, hb1⟩
      replace HB := Lib.hid (HB.out.trans (hb1.mono HB.out.size))
      replace KX := Lib.hid (KX.out.below hb1)
      replace KY := Lib.hid (KY.out.below hb1)
      replace KZ := Lib.hid (KZ.out.below hb1)
      clear hb1
      have yX := KX.out
      have yX_0 := yX.c 0 _ rfl
      have yX_1 := yX.c 1 _ rfl
      have yX_z := yX.lt
      clear yX
      have yY := KY.out
      have yY_0 := yY.c 0 _ rfl
      have yY_1 := yY.c 1 _ rfl
      have yY_z := yY.lt
      clear yY
      go_wp2_with fail
      refine (SX.out _).mono ?_
      rintro e2 w2 ⟨rfl, hb2⟩
      replace HB := Lib.hid (HB.out.trans (hb2.mono HB.out.size))
      replace KX := Lib.hid (KX.out.below hb2)
      replace KY := Lib.hid (KY.out.below hb2)
      replace KZ := Lib.hid (KZ.out.below hb2)
      clear yX_0 yX_1 yX_z yY_0 yY_1 yY_z
      clear hb2
      have yY := KY.out
      have yY_0 := yY.c 0 _ rfl
      have yY_1 := yY.c 1 _ rfl
      have yY_z := yY.lt
      clear yY
      go_wp2_with fail
      refine (SY.out _).mono ?_
      rintro e3 w3 ⟨rfl, hb3⟩
      replace HB := Lib.hid (HB.out.trans (hb3.mono HB.out.size))
      replace KX := Lib.hid (KX.out.below hb3)
      replace KY := Lib.hid (KY.out.below hb3)
      replace KZ := Lib.hid (KZ.out.below hb3)
      clear yY_0 yY_1 yY_z
      clear hb3
      go_wp2_with fail
      refine (DV.out _).mono ?_
      rintro e4 w4 ⟨rfl, hb4⟩
      replace HB := Lib.hid (HB.out.trans (hb4.mono HB.out.size))
      replace KX := Lib.hid (KX.out.below hb4)
      replace KY := Lib.hid (KY.out.below hb4)
      replace KZ := Lib.hid (KZ.out.below hb4)
      clear hb4
      go_wp2_with fail
      refine (J.out _).mono ?_
      rintro e5 w5 ⟨rfl, hb5⟩
      replace HB := Lib.hid (HB.out.trans (hb5.mono HB.out.size))
      replace KX := Lib.hid (KX.out.below hb5)
      replace KY := Lib.hid (KY.out.below hb5)
      replace KZ := Lib.hid (KZ.out.below hb5)
      clear hb5
      have yZ := KZ.out
      have yZ_0 := yZ.c 0 _ rfl
      have yZ_1 := yZ.c 1 _ rfl
      have yZ_z := yZ.lt
      have yZ_f0 := yZ.f 0 _ rfl
      have yZ_f1 := yZ.f 1 _ rfl
      clear yZ
      go_wp2
      replace KX := Lib.hid (blk_other (b := w.heap.size) (n := (w.heap.size + 1 + 1)) (j := 1) (blk_other (b := w.heap.size) (n := (w.heap.size + 1 + 1)) (j := 0) KX.out (by omega) (.int .i64 (hiW v))) (by omega) (.int .u64 (loW v)))
      replace KY := Lib.hid (blk_other (b := (w.heap.size + 1)) (n := (w.heap.size + 1 + 1)) (j := 1) (blk_other (b := (w.heap.size + 1)) (n := (w.heap.size + 1 + 1)) (j := 0) KY.out (by omega) (.int .i64 (hiW v))) (by omega) (.int .u64 (loW v)))
      replace KZ := Lib.hid (blk_set (blk_set KZ.out (j := 0) (by simp) (.int .i64 (hiW v))) (j := 1) (by simp) (.int .u64 (loW v)))
      replace HB := Lib.hid ((HB.out.setCell (p := ⟨(w.heap.size + 1 + 1), 0, none⟩) (show w.heap.size ≤ (w.heap.size + 1 + 1) by omega) (.int .i64 (hiW v))).setCell (p := ⟨(w.heap.size + 1 + 1), 1, none⟩) (show w.heap.size ≤ (w.heap.size + 1 + 1) by omega) (.int .u64 (loW v)))
      clear yZ_0 yZ_1 yZ_z yZ_f0 yZ_f1
      generalize (w5.setCell ⟨(w.heap.size + 1 + 1), 0, none⟩ (.int .i64 (hiW v))).setCell ⟨(w.heap.size + 1 + 1), 1, none⟩ (.int .u64 (loW v)) = w6 at *
      simp only [List.set] at KZ
      have yZ := KZ.out
      have yZ_0 := yZ.c 0 _ rfl
      have yZ_1 := yZ.c 1 _ rfl
      have yZ_z := yZ.lt
      clear yZ
      refine bodyPost_ret (v := .tuple #[.agg #[.int .i64 (hiW v), .int .u64 (loW v)], .bool true]) (by simp [results, Tryz.results122, go_sem, yZ_0, yZ_1]) rfl ⟨rfl, HB.out⟩
    · have gx : decide (hiW x < 0) = true := by have := hi_neg x; simp; omega
      have gr : (r == 0) = false := by simpa using hr
      have gr' : (r != 0) = true := by simpa using hr
      have gd : decide (d < r) = false := by simp; omega
      have gs : IntKind.u64.wrap (d - r) = d - r := by rw [IntKind.wrap_u64]; omega
      have gc : decide (d - r < r) = false := by simp; omega
      have ge : (r == d - r) = true := by simp; omega
      have ge' : (d - r == r) = true := by simp; omega
      have n1 : (hiW q != 0) = false := by simpa using hnz
      have n2 : (loW q != 0) = true := by simpa using hnl
      have J := Lib.hid fun w => rsigned_any q true w (by omega) (by omega)
      rw [← hv] at J
      unfold wv at J ⊢
      clear hv
      clear h0 h1 hr0 hr1 hd1 hx hr hnz hnl hc
      have SG := Lib.hid h.sg
      have SX := Lib.hid h.sx
      have SY := Lib.hid h.sy
      have DV := Lib.hid h.dv
      clear h
      have KX := Lib.hid (((Blk.of (vs := #[.int .i64 (hiW x), .int .u64 (loW x)]) (t := 49) (w := w) (b := w.heap.size) (by simp)).alloc (.cells #[.int .i64 0, .int .u64 d] 49)).alloc (.cells #[.int .i64 0, .int .u64 0] 49))
      have KY := Lib.hid ((Blk.of (vs := #[.int .i64 0, .int .u64 d]) (t := 49) (w := (w.alloc (.cells #[.int .i64 (hiW x), .int .u64 (loW x)] 49))) (b := w.heap.size + 1) (by simp)).alloc (.cells #[.int .i64 0, .int .u64 0] 49))
      have KZ := Lib.hid (Blk.of (vs := #[.int .i64 0, .int .u64 0]) (t := 49) (w := ((w.alloc (.cells #[.int .i64 (hiW x), .int .u64 (loW x)] 49)).alloc (.cells #[.int .i64 0, .int .u64 d] 49))) (b := w.heap.size + 1 + 1) (by simp))
      have HB := Lib.hid ((((Below.refl w.heap.size w).alloc (by simp; try omega) (.cells #[.int .i64 (hiW x), .int .u64 (loW x)] 49)).alloc (by simp; try omega) (.cells #[.int .i64 0, .int .u64 d] 49)).alloc (by simp; try omega) (.cells #[.int .i64 0, .int .u64 0] 49))
      go_enter Tryz.func122, Tryz.ntmps122
      go_wp2_with fail
      generalize ((w.alloc (.cells #[.int .i64 (hiW x), .int .u64 (loW x)] 49)).alloc (.cells #[.int .i64 0, .int .u64 d] 49)).alloc (.cells #[.int .i64 0, .int .u64 0] 49) = w0 at *
      refine (SG.out _).mono ?_
      rintro e1 w1 ⟨rfl, hb1⟩
      replace HB := Lib.hid (HB.out.trans (hb1.mono HB.out.size))
      replace KX := Lib.hid (KX.out.below hb1)
      replace KY := Lib.hid (KY.out.below hb1)
      replace KZ := Lib.hid (KZ.out.below hb1)
      clear hb1
      have yX := KX.out
      have yX_0 := yX.c 0 _ rfl
      have yX_1 := yX.c 1 _ rfl
      have yX_z := yX.lt
      clear yX
      have yY := KY.out
      have yY_0 := yY.c 0 _ rfl
      have yY_1 := yY.c 1 _ rfl
      have yY_z := yY.lt
      clear yY
      go_wp2_with fail
      refine (SX.out _).mono ?_
      rintro e2 w2 ⟨rfl, hb2⟩
      replace HB := Lib.hid (HB.out.trans (hb2.mono HB.out.size))
      replace KX := Lib.hid (KX.out.below hb2)
      replace KY := Lib.hid (KY.out.below hb2)
      replace KZ := Lib.hid (KZ.out.below hb2)
      clear yX_0 yX_1 yX_z yY_0 yY_1 yY_z
      clear hb2
      have yY := KY.out
      have yY_0 := yY.c 0 _ rfl
      have yY_1 := yY.c 1 _ rfl
      have yY_z := yY.lt
      clear yY
      go_wp2_with fail
      refine (SY.out _).mono ?_
      rintro e3 w3 ⟨rfl, hb3⟩
      replace HB := Lib.hid (HB.out.trans (hb3.mono HB.out.size))
      replace KX := Lib.hid (KX.out.below hb3)
      replace KY := Lib.hid (KY.out.below hb3)
      replace KZ := Lib.hid (KZ.out.below hb3)
      clear yY_0 yY_1 yY_z
      clear hb3
      go_wp2_with fail
      refine (DV.out _).mono ?_
      rintro e4 w4 ⟨rfl, hb4⟩
      replace HB := Lib.hid (HB.out.trans (hb4.mono HB.out.size))
      replace KX := Lib.hid (KX.out.below hb4)
      replace KY := Lib.hid (KY.out.below hb4)
      replace KZ := Lib.hid (KZ.out.below hb4)
      clear hb4
      go_wp2_with fail
      refine (J.out _).mono ?_
      rintro e5 w5 ⟨rfl, hb5⟩
      replace HB := Lib.hid (HB.out.trans (hb5.mono HB.out.size))
      replace KX := Lib.hid (KX.out.below hb5)
      replace KY := Lib.hid (KY.out.below hb5)
      replace KZ := Lib.hid (KZ.out.below hb5)
      clear hb5
      have yZ := KZ.out
      have yZ_0 := yZ.c 0 _ rfl
      have yZ_1 := yZ.c 1 _ rfl
      have yZ_z := yZ.lt
      have yZ_f0 := yZ.f 0 _ rfl
      have yZ_f1 := yZ.f 1 _ rfl
      clear yZ
      go_wp2
      replace KX := Lib.hid (blk_other (b := w.heap.size) (n := (w.heap.size + 1 + 1)) (j := 1) (blk_other (b := w.heap.size) (n := (w.heap.size + 1 + 1)) (j := 0) KX.out (by omega) (.int .i64 (hiW v))) (by omega) (.int .u64 (loW v)))
      replace KY := Lib.hid (blk_other (b := (w.heap.size + 1)) (n := (w.heap.size + 1 + 1)) (j := 1) (blk_other (b := (w.heap.size + 1)) (n := (w.heap.size + 1 + 1)) (j := 0) KY.out (by omega) (.int .i64 (hiW v))) (by omega) (.int .u64 (loW v)))
      replace KZ := Lib.hid (blk_set (blk_set KZ.out (j := 0) (by simp) (.int .i64 (hiW v))) (j := 1) (by simp) (.int .u64 (loW v)))
      replace HB := Lib.hid ((HB.out.setCell (p := ⟨(w.heap.size + 1 + 1), 0, none⟩) (show w.heap.size ≤ (w.heap.size + 1 + 1) by omega) (.int .i64 (hiW v))).setCell (p := ⟨(w.heap.size + 1 + 1), 1, none⟩) (show w.heap.size ≤ (w.heap.size + 1 + 1) by omega) (.int .u64 (loW v)))
      clear yZ_0 yZ_1 yZ_z yZ_f0 yZ_f1
      generalize (w5.setCell ⟨(w.heap.size + 1 + 1), 0, none⟩ (.int .i64 (hiW v))).setCell ⟨(w.heap.size + 1 + 1), 1, none⟩ (.int .u64 (loW v)) = w6 at *
      simp only [List.set] at KZ
      have yZ := KZ.out
      have yZ_0 := yZ.c 0 _ rfl
      have yZ_1 := yZ.c 1 _ rfl
      have yZ_z := yZ.lt
      clear yZ
      refine bodyPost_ret (v := .tuple #[.agg #[.int .i64 (hiW v), .int .u64 (loW v)], .bool true]) (by simp [results, Tryz.results122, go_sem, yZ_0, yZ_1]) rfl ⟨rfl, HB.out⟩
  · have gx : decide (hiW x < 0) = true := by have := hi_neg x; simp; omega
    have gr : (r == 0) = false := by simpa using hr
    have gr' : (r != 0) = true := by simpa using hr
    have gd : decide (d < r) = false := by simp; omega
    have gs : IntKind.u64.wrap (d - r) = d - r := by rw [IntKind.wrap_u64]; omega
    have gc : decide (d - r < r) = false := by simp; omega
    have ge : (r == d - r) = true := by simp; omega
    have ge' : (d - r == r) = true := by simp; omega
    have n1 : (hiW q != 0) = true := by simpa using hnz
    have J := Lib.hid fun w => rsigned_any q true w (by omega) (by omega)
    rw [← hv] at J
    unfold wv at J ⊢
    clear hv
    clear h0 h1 hr0 hr1 hd1 hx hr hnz hc
    have SG := Lib.hid h.sg
    have SX := Lib.hid h.sx
    have SY := Lib.hid h.sy
    have DV := Lib.hid h.dv
    clear h
    have KX := Lib.hid (((Blk.of (vs := #[.int .i64 (hiW x), .int .u64 (loW x)]) (t := 49) (w := w) (b := w.heap.size) (by simp)).alloc (.cells #[.int .i64 0, .int .u64 d] 49)).alloc (.cells #[.int .i64 0, .int .u64 0] 49))
    have KY := Lib.hid ((Blk.of (vs := #[.int .i64 0, .int .u64 d]) (t := 49) (w := (w.alloc (.cells #[.int .i64 (hiW x), .int .u64 (loW x)] 49))) (b := w.heap.size + 1) (by simp)).alloc (.cells #[.int .i64 0, .int .u64 0] 49))
    have KZ := Lib.hid (Blk.of (vs := #[.int .i64 0, .int .u64 0]) (t := 49) (w := ((w.alloc (.cells #[.int .i64 (hiW x), .int .u64 (loW x)] 49)).alloc (.cells #[.int .i64 0, .int .u64 d] 49))) (b := w.heap.size + 1 + 1) (by simp))
    have HB := Lib.hid ((((Below.refl w.heap.size w).alloc (by simp; try omega) (.cells #[.int .i64 (hiW x), .int .u64 (loW x)] 49)).alloc (by simp; try omega) (.cells #[.int .i64 0, .int .u64 d] 49)).alloc (by simp; try omega) (.cells #[.int .i64 0, .int .u64 0] 49))
    go_enter Tryz.func122, Tryz.ntmps122
    go_wp2_with fail
    generalize ((w.alloc (.cells #[.int .i64 (hiW x), .int .u64 (loW x)] 49)).alloc (.cells #[.int .i64 0, .int .u64 d] 49)).alloc (.cells #[.int .i64 0, .int .u64 0] 49) = w0 at *
    refine (SG.out _).mono ?_
    rintro e1 w1 ⟨rfl, hb1⟩
    replace HB := Lib.hid (HB.out.trans (hb1.mono HB.out.size))
    replace KX := Lib.hid (KX.out.below hb1)
    replace KY := Lib.hid (KY.out.below hb1)
    replace KZ := Lib.hid (KZ.out.below hb1)
    clear hb1
    have yX := KX.out
    have yX_0 := yX.c 0 _ rfl
    have yX_1 := yX.c 1 _ rfl
    have yX_z := yX.lt
    clear yX
    have yY := KY.out
    have yY_0 := yY.c 0 _ rfl
    have yY_1 := yY.c 1 _ rfl
    have yY_z := yY.lt
    clear yY
    go_wp2_with fail
    refine (SX.out _).mono ?_
    rintro e2 w2 ⟨rfl, hb2⟩
    replace HB := Lib.hid (HB.out.trans (hb2.mono HB.out.size))
    replace KX := Lib.hid (KX.out.below hb2)
    replace KY := Lib.hid (KY.out.below hb2)
    replace KZ := Lib.hid (KZ.out.below hb2)
    clear yX_0 yX_1 yX_z yY_0 yY_1 yY_z
    clear hb2
    have yY := KY.out
    have yY_0 := yY.c 0 _ rfl
    have yY_1 := yY.c 1 _ rfl
    have yY_z := yY.lt
    clear yY
    go_wp2_with fail
    refine (SY.out _).mono ?_
    rintro e3 w3 ⟨rfl, hb3⟩
    replace HB := Lib.hid (HB.out.trans (hb3.mono HB.out.size))
    replace KX := Lib.hid (KX.out.below hb3)
    replace KY := Lib.hid (KY.out.below hb3)
    replace KZ := Lib.hid (KZ.out.below hb3)
    clear yY_0 yY_1 yY_z
    clear hb3
    go_wp2_with fail
    refine (DV.out _).mono ?_
    rintro e4 w4 ⟨rfl, hb4⟩
    replace HB := Lib.hid (HB.out.trans (hb4.mono HB.out.size))
    replace KX := Lib.hid (KX.out.below hb4)
    replace KY := Lib.hid (KY.out.below hb4)
    replace KZ := Lib.hid (KZ.out.below hb4)
    clear hb4
    go_wp2_with fail
    refine (J.out _).mono ?_
    rintro e5 w5 ⟨rfl, hb5⟩
    replace HB := Lib.hid (HB.out.trans (hb5.mono HB.out.size))
    replace KX := Lib.hid (KX.out.below hb5)
    replace KY := Lib.hid (KY.out.below hb5)
    replace KZ := Lib.hid (KZ.out.below hb5)
    clear hb5
    have yZ := KZ.out
    have yZ_0 := yZ.c 0 _ rfl
    have yZ_1 := yZ.c 1 _ rfl
    have yZ_z := yZ.lt
    have yZ_f0 := yZ.f 0 _ rfl
    have yZ_f1 := yZ.f 1 _ rfl
    clear yZ
    go_wp2
    replace KX := Lib.hid (blk_other (b := w.heap.size) (n := (w.heap.size + 1 + 1)) (j := 1) (blk_other (b := w.heap.size) (n := (w.heap.size + 1 + 1)) (j := 0) KX.out (by omega) (.int .i64 (hiW v))) (by omega) (.int .u64 (loW v)))
    replace KY := Lib.hid (blk_other (b := (w.heap.size + 1)) (n := (w.heap.size + 1 + 1)) (j := 1) (blk_other (b := (w.heap.size + 1)) (n := (w.heap.size + 1 + 1)) (j := 0) KY.out (by omega) (.int .i64 (hiW v))) (by omega) (.int .u64 (loW v)))
    replace KZ := Lib.hid (blk_set (blk_set KZ.out (j := 0) (by simp) (.int .i64 (hiW v))) (j := 1) (by simp) (.int .u64 (loW v)))
    replace HB := Lib.hid ((HB.out.setCell (p := ⟨(w.heap.size + 1 + 1), 0, none⟩) (show w.heap.size ≤ (w.heap.size + 1 + 1) by omega) (.int .i64 (hiW v))).setCell (p := ⟨(w.heap.size + 1 + 1), 1, none⟩) (show w.heap.size ≤ (w.heap.size + 1 + 1) by omega) (.int .u64 (loW v)))
    clear yZ_0 yZ_1 yZ_z yZ_f0 yZ_f1
    generalize (w5.setCell ⟨(w.heap.size + 1 + 1), 0, none⟩ (.int .i64 (hiW v))).setCell ⟨(w.heap.size + 1 + 1), 1, none⟩ (.int .u64 (loW v)) = w6 at *
    simp only [List.set] at KZ
    have yZ := KZ.out
    have yZ_0 := yZ.c 0 _ rfl
    have yZ_1 := yZ.c 1 _ rfl
    have yZ_z := yZ.lt
    clear yZ
    refine bodyPost_ret (v := .tuple #[.agg #[.int .i64 (hiW v), .int .u64 (loW v)], .bool true]) (by simp [results, Tryz.results122, go_sem, yZ_0, yZ_1]) rfl ⟨rfl, HB.out⟩
set_option maxHeartbeats 16000000 in
set_option maxRecDepth 100000 in
theorem quo_nearN1gt (x d q r v : Int) (w : World) (h : QuoW x d q r) (hx : x < 0) (h0 : 0 ≤ q) (h1 : q < 85070591730234615865843651857942052864) (hr : ¬ r = 0) (hr0 : 0 ≤ r) (hr1 : r < d) (hd1 : d < 9223372036854775808) (hc : d - r < r) (hv : v = sgn true (q + 1)) :
    Calls Tryz.prog 122 #[wv x, .agg #[.int .i64 0, .int .u64 d], .int .i64 2] w fun e w' => e = .returned (.tuple #[wv v, .bool true]) ∧ Below w.heap.size w w' := by
  by_cases hcy : loW (q + 1) = 0
  · have hnz : ¬ hiW (q + 1) = 0 := by unfold hiW loW at *; omega
    have gx : decide (hiW x < 0) = true := by have := hi_neg x; simp; omega
    have gr : (r == 0) = false := by simpa using hr
    have gr' : (r != 0) = true := by simpa using hr
    have gd : decide (d < r) = false := by simp; omega
    have gs : IntKind.u64.wrap (d - r) = d - r := by rw [IntKind.wrap_u64]; omega
    have gc : decide (d - r < r) = true := by simp; omega
    have ge : (r == d - r) = false := by simp; omega
    have ge' : (d - r == r) = false := by simp; omega
    have qs : IntKind.u64.wrap (loW q + 1) = loW (q + 1) := by rw [IntKind.wrap_u64]; unfold loW; omega
    have qc : (loW (q + 1) == 0) = true := by simpa using hcy
    have qh : IntKind.u64.wrap (hiW q + 1) = hiW (q + 1) := by rw [IntKind.wrap_u64]; unfold hiW loW at *; omega
    have n1 : (hiW (q + 1) != 0) = true := by simpa using hnz
    have J := Lib.hid fun w => rsigned_any (q + 1) true w (by omega) (by omega)
    rw [← hv] at J
    unfold wv at J ⊢
    clear hv
    generalize loW (q + 1) = ql at *
    clear h0 h1 hr0 hr1 hd1 hx hr hcy hnz hc
    have SG := Lib.hid h.sg
    have SX := Lib.hid h.sx
    have SY := Lib.hid h.sy
    have DV := Lib.hid h.dv
    clear h
    have KX := Lib.hid (((Blk.of (vs := #[.int .i64 (hiW x), .int .u64 (loW x)]) (t := 49) (w := w) (b := w.heap.size) (by simp)).alloc (.cells #[.int .i64 0, .int .u64 d] 49)).alloc (.cells #[.int .i64 0, .int .u64 0] 49))
    have KY := Lib.hid ((Blk.of (vs := #[.int .i64 0, .int .u64 d]) (t := 49) (w := (w.alloc (.cells #[.int .i64 (hiW x), .int .u64 (loW x)] 49))) (b := w.heap.size + 1) (by simp)).alloc (.cells #[.int .i64 0, .int .u64 0] 49))
    have KZ := Lib.hid (Blk.of (vs := #[.int .i64 0, .int .u64 0]) (t := 49) (w := ((w.alloc (.cells #[.int .i64 (hiW x), .int .u64 (loW x)] 49)).alloc (.cells #[.int .i64 0, .int .u64 d] 49))) (b := w.heap.size + 1 + 1) (by simp))
    have HB := Lib.hid ((((Below.refl w.heap.size w).alloc (by simp; try omega) (.cells #[.int .i64 (hiW x), .int .u64 (loW x)] 49)).alloc (by simp; try omega) (.cells #[.int .i64 0, .int .u64 d] 49)).alloc (by simp; try omega) (.cells #[.int .i64 0, .int .u64 0] 49))
    go_enter Tryz.func122, Tryz.ntmps122
    go_wp2_with fail
    generalize ((w.alloc (.cells #[.int .i64 (hiW x), .int .u64 (loW x)] 49)).alloc (.cells #[.int .i64 0, .int .u64 d] 49)).alloc (.cells #[.int .i64 0, .int .u64 0] 49) = w0 at *
    refine (SG.out _).mono ?_
    rintro e1 w1 ⟨rfl, hb1⟩
    replace HB := Lib.hid (HB.out.trans (hb1.mono HB.out.size))
    replace KX := Lib.hid (KX.out.below hb1)
    replace KY := Lib.hid (KY.out.below hb1)
    replace KZ := Lib.hid (KZ.out.below hb1)
    clear hb1
    have yX := KX.out
    have yX_0 := yX.c 0 _ rfl
    have yX_1 := yX.c 1 _ rfl
    have yX_z := yX.lt
    clear yX
    have yY := KY.out
    have yY_0 := yY.c 0 _ rfl
    have yY_1 := yY.c 1 _ rfl
    have yY_z := yY.lt
    clear yY
    go_wp2_with fail
    refine (SX.out _).mono ?_
    rintro e2 w2 ⟨rfl, hb2⟩
    replace HB := Lib.hid (HB.out.trans (hb2.mono HB.out.size))
    replace KX := Lib.hid (KX.out.below hb2)
    replace KY := Lib.hid (KY.out.below hb2)
    replace KZ := Lib.hid (KZ.out.below hb2)
    clear yX_0 yX_1 yX_z yY_0 yY_1 yY_z
    clear hb2
    have yY := KY.out
    have yY_0 := yY.c 0 _ rfl
    have yY_1 := yY.c 1 _ rfl
    have yY_z := yY.lt
    clear yY
    go_wp2_with fail
    refine (SY.out _).mono ?_
    rintro e3 w3 ⟨rfl, hb3⟩
    replace HB := Lib.hid (HB.out.trans (hb3.mono HB.out.size))
    replace KX := Lib.hid (KX.out.below hb3)
    replace KY := Lib.hid (KY.out.below hb3)
    replace KZ := Lib.hid (KZ.out.below hb3)
    clear yY_0 yY_1 yY_z
    clear hb3
    go_wp2_with fail
    refine (DV.out _).mono ?_
    rintro e4 w4 ⟨rfl, hb4⟩
    replace HB := Lib.hid (HB.out.trans (hb4.mono HB.out.size))
    replace KX := Lib.hid (KX.out.below hb4)
    replace KY := Lib.hid (KY.out.below hb4)
    replace KZ := Lib.hid (KZ.out.below hb4)
    clear hb4
    go_wp2_with fail
    refine (J.out _).mono ?_
    rintro e5 w5 ⟨rfl, hb5⟩
    replace HB := Lib.hid (HB.out.trans (hb5.mono HB.out.size))
    replace KX := Lib.hid (KX.out.below hb5)
    replace KY := Lib.hid (KY.out.below hb5)
    replace KZ := Lib.hid (KZ.out.below hb5)
    clear hb5
    have yZ := KZ.out
    have yZ_0 := yZ.c 0 _ rfl
    have yZ_1 := yZ.c 1 _ rfl
    have yZ_z := yZ.lt
    have yZ_f0 := yZ.f 0 _ rfl
    have yZ_f1 := yZ.f 1 _ rfl
    clear yZ
    go_wp2
    replace KX := Lib.hid (blk_other (b := w.heap.size) (n := (w.heap.size + 1 + 1)) (j := 1) (blk_other (b := w.heap.size) (n := (w.heap.size + 1 + 1)) (j := 0) KX.out (by omega) (.int .i64 (hiW v))) (by omega) (.int .u64 (loW v)))
    replace KY := Lib.hid (blk_other (b := (w.heap.size + 1)) (n := (w.heap.size + 1 + 1)) (j := 1) (blk_other (b := (w.heap.size + 1)) (n := (w.heap.size + 1 + 1)) (j := 0) KY.out (by omega) (.int .i64 (hiW v))) (by omega) (.int .u64 (loW v)))
    replace KZ := Lib.hid (blk_set (blk_set KZ.out (j := 0) (by simp) (.int .i64 (hiW v))) (j := 1) (by simp) (.int .u64 (loW v)))
    replace HB := Lib.hid ((HB.out.setCell (p := ⟨(w.heap.size + 1 + 1), 0, none⟩) (show w.heap.size ≤ (w.heap.size + 1 + 1) by omega) (.int .i64 (hiW v))).setCell (p := ⟨(w.heap.size + 1 + 1), 1, none⟩) (show w.heap.size ≤ (w.heap.size + 1 + 1) by omega) (.int .u64 (loW v)))
    clear yZ_0 yZ_1 yZ_z yZ_f0 yZ_f1
    generalize (w5.setCell ⟨(w.heap.size + 1 + 1), 0, none⟩ (.int .i64 (hiW v))).setCell ⟨(w.heap.size + 1 + 1), 1, none⟩ (.int .u64 (loW v)) = w6 at *
    simp only [List.set] at KZ
    have yZ := KZ.out
    have yZ_0 := yZ.c 0 _ rfl
    have yZ_1 := yZ.c 1 _ rfl
    have yZ_z := yZ.lt
    clear yZ
    refine bodyPost_ret (v := .tuple #[.agg #[.int .i64 (hiW v), .int .u64 (loW v)], .bool true]) (by simp [results, Tryz.results122, go_sem, yZ_0, yZ_1]) rfl ⟨rfl, HB.out⟩
  · have hnl : ¬ loW (q + 1) = 0 := hcy
    by_cases hnz : hiW (q + 1) = 0
    · have gx : decide (hiW x < 0) = true := by have := hi_neg x; simp; omega
      have gr : (r == 0) = false := by simpa using hr
      have gr' : (r != 0) = true := by simpa using hr
      have gd : decide (d < r) = false := by simp; omega
      have gs : IntKind.u64.wrap (d - r) = d - r := by rw [IntKind.wrap_u64]; omega
      have gc : decide (d - r < r) = true := by simp; omega
      have ge : (r == d - r) = false := by simp; omega
      have ge' : (d - r == r) = false := by simp; omega
      have qs : IntKind.u64.wrap (loW q + 1) = loW (q + 1) := by rw [IntKind.wrap_u64]; unfold loW; omega
      have qc : (loW (q + 1) == 0) = false := by simpa using hcy
      have qh : hiW q = hiW (q + 1) := by unfold hiW loW at *; omega
      have n1 : (hiW (q + 1) != 0) = false := by simpa using hnz
      have n2 : (loW (q + 1) != 0) = true := by simpa using hnl
      have J := Lib.hid fun w => rsigned_any (q + 1) true w (by omega) (by omega)
      rw [← hv] at J
      unfold wv at J ⊢
      clear hv
      rw [← qh] at J n1
      clear qh
      generalize loW (q + 1) = ql at *
      clear h0 h1 hr0 hr1 hd1 hx hr hcy hnz hnl hc
      have SG := Lib.hid h.sg
      have SX := Lib.hid h.sx
      have SY := Lib.hid h.sy
      have DV := Lib.hid h.dv
      clear h
      have KX := Lib.hid (((Blk.of (vs := #[.int .i64 (hiW x), .int .u64 (loW x)]) (t := 49) (w := w) (b := w.heap.size) (by simp)).alloc (.cells #[.int .i64 0, .int .u64 d] 49)).alloc (.cells #[.int .i64 0, .int .u64 0] 49))
      have KY := Lib.hid ((Blk.of (vs := #[.int .i64 0, .int .u64 d]) (t := 49) (w := (w.alloc (.cells #[.int .i64 (hiW x), .int .u64 (loW x)] 49))) (b := w.heap.size + 1) (by simp)).alloc (.cells #[.int .i64 0, .int .u64 0] 49))
      have KZ := Lib.hid (Blk.of (vs := #[.int .i64 0, .int .u64 0]) (t := 49) (w := ((w.alloc (.cells #[.int .i64 (hiW x), .int .u64 (loW x)] 49)).alloc (.cells #[.int .i64 0, .int .u64 d] 49))) (b := w.heap.size + 1 + 1) (by simp))
      have HB := Lib.hid ((((Below.refl w.heap.size w).alloc (by simp; try omega) (.cells #[.int .i64 (hiW x), .int .u64 (loW x)] 49)).alloc (by simp; try omega) (.cells #[.int .i64 0, .int .u64 d] 49)).alloc (by simp; try omega) (.cells #[.int .i64 0, .int .u64 0] 49))
      go_enter Tryz.func122, Tryz.ntmps122
      go_wp2_with fail
      generalize ((w.alloc (.cells #[.int .i64 (hiW x), .int .u64 (loW x)] 49)).alloc (.cells #[.int .i64 0, .int .u64 d] 49)).alloc (.cells #[.int .i64 0, .int .u64 0] 49) = w0 at *
      refine (SG.out _).mono ?_
      rintro e1 w1 ⟨rfl, hb1⟩
      replace HB := Lib.hid (HB.out.trans (hb1.mono HB.out.size))
      replace KX := Lib.hid (KX.out.below hb1)
      replace KY := Lib.hid (KY.out.below hb1)
      replace KZ := Lib.hid (KZ.out.below hb1)
      clear hb1
      have yX := KX.out
      have yX_0 := yX.c 0 _ rfl
      have yX_1 := yX.c 1 _ rfl
      have yX_z := yX.lt
      clear yX
      have yY := KY.out
      have yY_0 := yY.c 0 _ rfl
      have yY_1 := yY.c 1 _ rfl
      have yY_z := yY.lt
      clear yY
      go_wp2_with fail
      refine (SX.out _).mono ?_
      rintro e2 w2 ⟨rfl, hb2⟩
      replace HB := Lib.hid (HB.out.trans (hb2.mono HB.out.size))
      replace KX := Lib.hid (KX.out.below hb2)
      replace KY := Lib.hid (KY.out.below hb2)
      replace KZ := Lib.hid (KZ.out.below hb2)
      clear yX_0 yX_1 yX_z yY_0 yY_1 yY_z
      clear hb2
      have yY := KY.out
      have yY_0 := yY.c 0 _ rfl
      have yY_1 := yY.c 1 _ rfl
      have yY_z := yY.lt
      clear yY
      go_wp2_with fail
      refine (SY.out _).mono ?_
      rintro e3 w3 ⟨rfl, hb3⟩
      replace HB := Lib.hid (HB.out.trans (hb3.mono HB.out.size))
      replace KX := Lib.hid (KX.out.below hb3)
      replace KY := Lib.hid (KY.out.below hb3)
      replace KZ := Lib.hid (KZ.out.below hb3)
      clear yY_0 yY_1 yY_z
      clear hb3
      go_wp2_with fail
      refine (DV.out _).mono ?_
      rintro e4 w4 ⟨rfl, hb4⟩
      replace HB := Lib.hid (HB.out.trans (hb4.mono HB.out.size))
      replace KX := Lib.hid (KX.out.below hb4)
      replace KY := Lib.hid (KY.out.below hb4)
      replace KZ := Lib.hid (KZ.out.below hb4)
      clear hb4
      go_wp2_with fail
      refine (J.out _).mono ?_
      rintro e5 w5 ⟨rfl, hb5⟩
      replace HB := Lib.hid (HB.out.trans (hb5.mono HB.out.size))
      replace KX := Lib.hid (KX.out.below hb5)
      replace KY := Lib.hid (KY.out.below hb5)
      replace KZ := Lib.hid (KZ.out.below hb5)
      clear hb5
      have yZ := KZ.out
      have yZ_0 := yZ.c 0 _ rfl
      have yZ_1 := yZ.c 1 _ rfl
      have yZ_z := yZ.lt
      have yZ_f0 := yZ.f 0 _ rfl
      have yZ_f1 := yZ.f 1 _ rfl
      clear yZ
      go_wp2
      replace KX := Lib.hid (blk_other (b := w.heap.size) (n := (w.heap.size + 1 + 1)) (j := 1) (blk_other (b := w.heap.size) (n := (w.heap.size + 1 + 1)) (j := 0) KX.out (by omega) (.int .i64 (hiW v))) (by omega) (.int .u64 (loW v)))
      replace KY := Lib.hid (blk_other (b := (w.heap.size + 1)) (n := (w.heap.size + 1 + 1)) (j := 1) (blk_other (b := (w.heap.size + 1)) (n := (w.heap.size + 1 + 1)) (j := 0) KY.out (by omega) (.int .i64 (hiW v))) (by omega) (.int .u64 (loW v)))
      replace KZ := Lib.hid (blk_set (blk_set KZ.out (j := 0) (by simp) (.int .i64 (hiW v))) (j := 1) (by simp) (.int .u64 (loW v)))
      replace HB := Lib.hid ((HB.out.setCell (p := ⟨(w.heap.size + 1 + 1), 0, none⟩) (show w.heap.size ≤ (w.heap.size + 1 + 1) by omega) (.int .i64 (hiW v))).setCell (p := ⟨(w.heap.size + 1 + 1), 1, none⟩) (show w.heap.size ≤ (w.heap.size + 1 + 1) by omega) (.int .u64 (loW v)))
      clear yZ_0 yZ_1 yZ_z yZ_f0 yZ_f1
      generalize (w5.setCell ⟨(w.heap.size + 1 + 1), 0, none⟩ (.int .i64 (hiW v))).setCell ⟨(w.heap.size + 1 + 1), 1, none⟩ (.int .u64 (loW v)) = w6 at *
      simp only [List.set] at KZ
      have yZ := KZ.out
      have yZ_0 := yZ.c 0 _ rfl
      have yZ_1 := yZ.c 1 _ rfl
      have yZ_z := yZ.lt
      clear yZ
      refine bodyPost_ret (v := .tuple #[.agg #[.int .i64 (hiW v), .int .u64 (loW v)], .bool true]) (by simp [results, Tryz.results122, go_sem, yZ_0, yZ_1]) rfl ⟨rfl, HB.out⟩
    · have gx : decide (hiW x < 0) = true := by have := hi_neg x; simp; omega
      have gr : (r == 0) = false := by simpa using hr
      have gr' : (r != 0) = true := by simpa using hr
      have gd : decide (d < r) = false := by simp; omega
      have gs : IntKind.u64.wrap (d - r) = d - r := by rw [IntKind.wrap_u64]; omega
      have gc : decide (d - r < r) = true := by simp; omega
      have ge : (r == d - r) = false := by simp; omega
      have ge' : (d - r == r) = false := by simp; omega
      have qs : IntKind.u64.wrap (loW q + 1) = loW (q + 1) := by rw [IntKind.wrap_u64]; unfold loW; omega
      have qc : (loW (q + 1) == 0) = false := by simpa using hcy
      have qh : hiW q = hiW (q + 1) := by unfold hiW loW at *; omega
      have n1 : (hiW (q + 1) != 0) = true := by simpa using hnz
      have J := Lib.hid fun w => rsigned_any (q + 1) true w (by omega) (by omega)
      rw [← hv] at J
      unfold wv at J ⊢
      clear hv
      rw [← qh] at J n1
      clear qh
      generalize loW (q + 1) = ql at *
      clear h0 h1 hr0 hr1 hd1 hx hr hcy hnz hnl hc
      have SG := Lib.hid h.sg
      have SX := Lib.hid h.sx
      have SY := Lib.hid h.sy
      have DV := Lib.hid h.dv
      clear h
      have KX := Lib.hid (((Blk.of (vs := #[.int .i64 (hiW x), .int .u64 (loW x)]) (t := 49) (w := w) (b := w.heap.size) (by simp)).alloc (.cells #[.int .i64 0, .int .u64 d] 49)).alloc (.cells #[.int .i64 0, .int .u64 0] 49))
      have KY := Lib.hid ((Blk.of (vs := #[.int .i64 0, .int .u64 d]) (t := 49) (w := (w.alloc (.cells #[.int .i64 (hiW x), .int .u64 (loW x)] 49))) (b := w.heap.size + 1) (by simp)).alloc (.cells #[.int .i64 0, .int .u64 0] 49))
      have KZ := Lib.hid (Blk.of (vs := #[.int .i64 0, .int .u64 0]) (t := 49) (w := ((w.alloc (.cells #[.int .i64 (hiW x), .int .u64 (loW x)] 49)).alloc (.cells #[.int .i64 0, .int .u64 d] 49))) (b := w.heap.size + 1 + 1) (by simp))
      have HB := Lib.hid ((((Below.refl w.heap.size w).alloc (by simp; try omega) (.cells #[.int .i64 (hiW x), .int .u64 (loW x)] 49)).alloc (by simp; try omega) (.cells #[.int .i64 0, .int .u64 d] 49)).alloc (by simp; try omega) (.cells #[.int .i64 0, .int .u64 0] 49))
      go_enter Tryz.func122, Tryz.ntmps122
      go_wp2_with fail
      generalize ((w.alloc (.cells #[.int .i64 (hiW x), .int .u64 (loW x)] 49)).alloc (.cells #[.int .i64 0, .int .u64 d] 49)).alloc (.cells #[.int .i64 0, .int .u64 0] 49) = w0 at *
      refine (SG.out _).mono ?_
      rintro e1 w1 ⟨rfl, hb1⟩
      replace HB := Lib.hid (HB.out.trans (hb1.mono HB.out.size))
      replace KX := Lib.hid (KX.out.below hb1)
      replace KY := Lib.hid (KY.out.below hb1)
      replace KZ := Lib.hid (KZ.out.below hb1)
      clear hb1
      have yX := KX.out
      have yX_0 := yX.c 0 _ rfl
      have yX_1 := yX.c 1 _ rfl
      have yX_z := yX.lt
      clear yX
      have yY := KY.out
      have yY_0 := yY.c 0 _ rfl
      have yY_1 := yY.c 1 _ rfl
      have yY_z := yY.lt
      clear yY
      go_wp2_with fail
      refine (SX.out _).mono ?_
      rintro e2 w2 ⟨rfl, hb2⟩
      replace HB := Lib.hid (HB.out.trans (hb2.mono HB.out.size))
      replace KX := Lib.hid (KX.out.below hb2)
      replace KY := Lib.hid (KY.out.below hb2)
      replace KZ := Lib.hid (KZ.out.below hb2)
      clear yX_0 yX_1 yX_z yY_0 yY_1 yY_z
      clear hb2
      have yY := KY.out
      have yY_0 := yY.c 0 _ rfl
      have yY_1 := yY.c 1 _ rfl
      have yY_z := yY.lt
      clear yY
      go_wp2_with fail
      refine (SY.out _).mono ?_
      rintro e3 w3 ⟨rfl, hb3⟩
      replace HB := Lib.hid (HB.out.trans (hb3.mono HB.out.size))
      replace KX := Lib.hid (KX.out.below hb3)
      replace KY := Lib.hid (KY.out.below hb3)
      replace KZ := Lib.hid (KZ.out.below hb3)
      clear yY_0 yY_1 yY_z
      clear hb3
      go_wp2_with fail
      refine (DV.out _).mono ?_
      rintro e4 w4 ⟨rfl, hb4⟩
      replace HB := Lib.hid (HB.out.trans (hb4.mono HB.out.size))
      replace KX := Lib.hid (KX.out.below hb4)
      replace KY := Lib.hid (KY.out.below hb4)
      replace KZ := Lib.hid (KZ.out.below hb4)
      clear hb4
      go_wp2_with fail
      refine (J.out _).mono ?_
      rintro e5 w5 ⟨rfl, hb5⟩
      replace HB := Lib.hid (HB.out.trans (hb5.mono HB.out.size))
      replace KX := Lib.hid (KX.out.below hb5)
      replace KY := Lib.hid (KY.out.below hb5)
      replace KZ := Lib.hid (KZ.out.below hb5)
      clear hb5
      have yZ := KZ.out
      have yZ_0 := yZ.c 0 _ rfl
      have yZ_1 := yZ.c 1 _ rfl
      have yZ_z := yZ.lt
      have yZ_f0 := yZ.f 0 _ rfl
      have yZ_f1 := yZ.f 1 _ rfl
      clear yZ
      go_wp2
      replace KX := Lib.hid (blk_other (b := w.heap.size) (n := (w.heap.size + 1 + 1)) (j := 1) (blk_other (b := w.heap.size) (n := (w.heap.size + 1 + 1)) (j := 0) KX.out (by omega) (.int .i64 (hiW v))) (by omega) (.int .u64 (loW v)))
      replace KY := Lib.hid (blk_other (b := (w.heap.size + 1)) (n := (w.heap.size + 1 + 1)) (j := 1) (blk_other (b := (w.heap.size + 1)) (n := (w.heap.size + 1 + 1)) (j := 0) KY.out (by omega) (.int .i64 (hiW v))) (by omega) (.int .u64 (loW v)))
      replace KZ := Lib.hid (blk_set (blk_set KZ.out (j := 0) (by simp) (.int .i64 (hiW v))) (j := 1) (by simp) (.int .u64 (loW v)))
      replace HB := Lib.hid ((HB.out.setCell (p := ⟨(w.heap.size + 1 + 1), 0, none⟩) (show w.heap.size ≤ (w.heap.size + 1 + 1) by omega) (.int .i64 (hiW v))).setCell (p := ⟨(w.heap.size + 1 + 1), 1, none⟩) (show w.heap.size ≤ (w.heap.size + 1 + 1) by omega) (.int .u64 (loW v)))
      clear yZ_0 yZ_1 yZ_z yZ_f0 yZ_f1
      generalize (w5.setCell ⟨(w.heap.size + 1 + 1), 0, none⟩ (.int .i64 (hiW v))).setCell ⟨(w.heap.size + 1 + 1), 1, none⟩ (.int .u64 (loW v)) = w6 at *
      simp only [List.set] at KZ
      have yZ := KZ.out
      have yZ_0 := yZ.c 0 _ rfl
      have yZ_1 := yZ.c 1 _ rfl
      have yZ_z := yZ.lt
      clear yZ
      refine bodyPost_ret (v := .tuple #[.agg #[.int .i64 (hiW v), .int .u64 (loW v)], .bool true]) (by simp [results, Tryz.results122, go_sem, yZ_0, yZ_1]) rfl ⟨rfl, HB.out⟩
end Go.Proofs.YtplgdlooglnpmaaGreat
namespace Go.Proofs.YtplgdlooglnpmaaGreat
set_option linter.unusedVariables false
open Go.RowKit
theorem quo_parts {x d : Int} (hx0 : -85070591730234615865843651857942052864 < x) (hx : x < 85070591730234615865843651857942052864) (hd : 0 < d) :
    0 ≤ absW x / d ∧ absW x / d < 85070591730234615865843651857942052864 ∧ 0 ≤ absW x % d ∧ absW x % d < d := by
  have ax0 := absW_nonneg x
  have ax1 : absW x < 85070591730234615865843651857942052864 := by unfold absW; split <;> omega
  refine ⟨Int.ediv_nonneg ax0 (by omega), ?_, Int.emod_nonneg _ (by omega), Int.emod_lt_of_pos _ hd⟩
  exact Int.lt_of_le_of_lt (Int.ediv_le_self _ ax0) ax1
/-- rounded up -/
theorem rquo_up (x d : Int) (w : World) (hx0 : 0 ≤ x) (hx : x < 85070591730234615865843651857942052864) (hd : 0 < d) (hd1 : d < 9223372036854775808) :
    Calls Tryz.prog 122 #[wv x, .agg #[.int .i64 0, .int .u64 d], .int .i64 1] w fun e w' => e = .returned (.tuple #[wv (ceilI x d), .bool true]) ∧ Below w.heap.size w w' := by
  have W := quo_world (x := x) (d := d) (q := absW x / d) (r := absW x % d) (by omega) hx hd hd1 rfl rfl
  obtain ⟨p0, p1, p2, p3⟩ := quo_parts (x := x) (by omega) hx hd
  have ea : absW x = x := by unfold absW; rw [if_neg (by omega)]
  have U := up_pos (x := x) hd
  rw [ea] at W p0 p1 p2 p3
  by_cases hr : x % d = 0
  · exact quo_upP0lt x d _ _ _ w W hx0 p0 p1 hr p2 p3 hd1 (by rw [U, if_neg (by omega)]; unfold sgn; simp)
  · exact quo_upP1lt x d _ _ _ w W hx0 p0 p1 hr p2 p3 hd1 (by rw [U, if_pos hr]; unfold sgn; simp)
/-- rounded to the nearest -/
theorem rquo_near (x d : Int) (w : World) (hx0 : -85070591730234615865843651857942052864 < x) (hx : x < 85070591730234615865843651857942052864) (hd : 0 < d) (hd1 : d < 9223372036854775808) :
    Calls Tryz.prog 122 #[wv x, .agg #[.int .i64 0, .int .u64 d], .int .i64 2] w fun e w' => e = .returned (.tuple #[wv (nearI2 x d), .bool true]) ∧ Below w.heap.size w w' := by
  have W := quo_world (x := x) (d := d) (q := absW x / d) (r := absW x % d) hx0 hx hd hd1 rfl rfl
  obtain ⟨p0, p1, p2, p3⟩ := quo_parts (x := x) hx0 hx hd
  by_cases hn : x < 0
  · have U := near_negW (x := x) hd
    have ea : absW x = -x := by unfold absW; rw [if_pos hn]
    rw [ea] at W p0 p1 p2 p3
    generalize (-x) / d = q at *
    generalize (-x) % d = r at *
    by_cases hr : r = 0
    · exact quo_nearN0lt x d _ _ _ w W hn p0 p1 hr p2 p3 hd1 (by omega) (by rw [U, if_neg (by omega)]; unfold sgn; simp)
    · rcases Int.lt_trichotomy r (d - r) with h | h | h
      · exact quo_nearN1lt x d _ _ _ w W hn p0 p1 hr p2 p3 hd1 h (by rw [U, if_neg (by omega)]; unfold sgn; simp)
      · exact quo_nearN1eq x d _ _ _ w W hn p0 p1 hr p2 p3 hd1 h (by rw [U, if_neg (by omega)]; unfold sgn; simp)
      · exact quo_nearN1gt x d _ _ _ w W hn p0 p1 hr p2 p3 hd1 h (by rw [U, if_pos (by omega)]; unfold sgn; simp)
  · have U := near_posW (x := x) hd
    have ea : absW x = x := by unfold absW; rw [if_neg hn]
    have hp : 0 ≤ x := by omega
    rw [ea] at W p0 p1 p2 p3
    generalize x / d = q at *
    generalize x % d = r at *
    by_cases hr : r = 0
    · exact quo_nearP0lt x d _ _ _ w W hp p0 p1 hr p2 p3 hd1 (by omega) (by rw [U, if_neg (by omega)]; unfold sgn; simp)
    · rcases Int.lt_trichotomy r (d - r) with h | h | h
      · exact quo_nearP1lt x d _ _ _ w W hp p0 p1 hr p2 p3 hd1 h (by rw [U, if_neg (by omega)]; unfold sgn; simp)
      · exact quo_nearP1eq x d _ _ _ w W hp p0 p1 hr p2 p3 hd1 h (by rw [U, if_pos (by omega)]; unfold sgn; simp)
      · exact quo_nearP1gt x d _ _ _ w W hp p0 p1 hr p2 p3 hd1 h (by rw [U, if_pos (by omega)]; unfold sgn; simp)
set_option maxHeartbeats 8000000 in
set_option maxRecDepth 100000 in
theorem rdivup_any (x d : Int) (w : World) (hx0 : 0 ≤ x) (hx : x < 85070591730234615865843651857942052864) (hd : 0 < d) (hd1 : d < 9223372036854775808) :
    Calls Tryz.prog 96 #[wv x, wv d] w fun e w' => e = .returned (.tuple #[wv (ceilI x d), .bool true]) ∧ Below w.heap.size w w' := by
  have DV := Lib.hid fun w => rquo_up x d w hx0 hx hd hd1
  have ed : wv d = .agg #[.int .i64 0, .int .u64 d] := by unfold wv; rw [(small_words (d := d) (by omega) hd1).1, (small_words (d := d) (by omega) hd1).2]
  rw [ed]
  generalize ceilI x d = v at *
  clear hx0 hx hd hd1 ed
  unfold wv at DV ⊢
  have KX := Lib.hid (((Blk.of (vs := #[.int .i64 (hiW x), .int .u64 (loW x)]) (t := 49) (w := w) (b := w.heap.size) (by simp)).alloc (.cells #[.int .i64 0, .int .u64 d] 49)).alloc (.cells #[.int .i64 0, .int .u64 0] 49))
  have KY := Lib.hid ((Blk.of (vs := #[.int .i64 0, .int .u64 d]) (t := 49) (w := (w.alloc (.cells #[.int .i64 (hiW x), .int .u64 (loW x)] 49))) (b := w.heap.size + 1) (by simp)).alloc (.cells #[.int .i64 0, .int .u64 0] 49))
  have KZ := Lib.hid (Blk.of (vs := #[.int .i64 0, .int .u64 0]) (t := 49) (w := ((w.alloc (.cells #[.int .i64 (hiW x), .int .u64 (loW x)] 49)).alloc (.cells #[.int .i64 0, .int .u64 d] 49))) (b := w.heap.size + 1 + 1) (by simp))
  have HB := Lib.hid ((((Below.refl w.heap.size w).alloc (by simp; try omega) (.cells #[.int .i64 (hiW x), .int .u64 (loW x)] 49)).alloc (by simp; try omega) (.cells #[.int .i64 0, .int .u64 d] 49)).alloc (by simp; try omega) (.cells #[.int .i64 0, .int .u64 0] 49))
  go_enter Tryz.func96, Tryz.ntmps96
  go_wp2_with fail
  generalize ((w.alloc (.cells #[.int .i64 (hiW x), .int .u64 (loW x)] 49)).alloc (.cells #[.int .i64 0, .int .u64 d] 49)).alloc (.cells #[.int .i64 0, .int .u64 0] 49) = w0 at *
  refine (DV.out _).mono ?_
  rintro e1 w1 ⟨rfl, hb1⟩
  replace HB := Lib.hid (HB.out.trans (hb1.mono HB.out.size))
  replace KX := Lib.hid (KX.out.below hb1)
  replace KY := Lib.hid (KY.out.below hb1)
  replace KZ := Lib.hid (KZ.out.below hb1)
  clear hb1
  have yZ := KZ.out
  have yZ_0 := yZ.c 0 _ rfl
  have yZ_1 := yZ.c 1 _ rfl
  have yZ_z := yZ.lt
  have yZ_f0 := yZ.f 0 _ rfl
  have yZ_f1 := yZ.f 1 _ rfl
  clear yZ
  go_wp2
  replace KX := Lib.hid (blk_other (b := w.heap.size) (n := (w.heap.size + 1 + 1)) (j := 1) (blk_other (b := w.heap.size) (n := (w.heap.size + 1 + 1)) (j := 0) KX.out (by omega) (.int .i64 (hiW v))) (by omega) (.int .u64 (loW v)))
  replace KY := Lib.hid (blk_other (b := (w.heap.size + 1)) (n := (w.heap.size + 1 + 1)) (j := 1) (blk_other (b := (w.heap.size + 1)) (n := (w.heap.size + 1 + 1)) (j := 0) KY.out (by omega) (.int .i64 (hiW v))) (by omega) (.int .u64 (loW v)))
  replace KZ := Lib.hid (blk_set (blk_set KZ.out (j := 0) (by simp) (.int .i64 (hiW v))) (j := 1) (by simp) (.int .u64 (loW v)))
  replace HB := Lib.hid ((HB.out.setCell (p := ⟨(w.heap.size + 1 + 1), 0, none⟩) (show w.heap.size ≤ (w.heap.size + 1 + 1) by omega) (.int .i64 (hiW v))).setCell (p := ⟨(w.heap.size + 1 + 1), 1, none⟩) (show w.heap.size ≤ (w.heap.size + 1 + 1) by omega) (.int .u64 (loW v)))
  clear yZ_0 yZ_1 yZ_z yZ_f0 yZ_f1
  generalize (w1.setCell ⟨(w.heap.size + 1 + 1), 0, none⟩ (.int .i64 (hiW v))).setCell ⟨(w.heap.size + 1 + 1), 1, none⟩ (.int .u64 (loW v)) = w2 at *
  simp only [List.set] at KZ
  have yZ := KZ.out
  have yZ_0 := yZ.c 0 _ rfl
  have yZ_1 := yZ.c 1 _ rfl
  have yZ_z := yZ.lt
  clear yZ
  refine bodyPost_ret (v := .tuple #[.agg #[.int .i64 (hiW v), .int .u64 (loW v)], .bool true]) (by simp [results, Tryz.results96, go_sem, yZ_0, yZ_1]) rfl ⟨rfl, HB.out⟩
set_option maxHeartbeats 8000000 in
set_option maxRecDepth 100000 in
theorem rnear_any (x d : Int) (w : World) (hx0 : -85070591730234615865843651857942052864 < x) (hx : x < 85070591730234615865843651857942052864) (hd : 0 < d) (hd1 : d < 9223372036854775808) :
    Calls Tryz.prog 88 #[wv x, wv d] w fun e w' => e = .returned (.tuple #[wv (nearI2 x d), .bool true]) ∧ Below w.heap.size w w' := by
  have DV := Lib.hid fun w => rquo_near x d w hx0 hx hd hd1
  have ed : wv d = .agg #[.int .i64 0, .int .u64 d] := by unfold wv; rw [(small_words (d := d) (by omega) hd1).1, (small_words (d := d) (by omega) hd1).2]
  rw [ed]
  generalize nearI2 x d = v at *
  clear hx0 hx hd hd1 ed
  unfold wv at DV ⊢
  have KX := Lib.hid (((Blk.of (vs := #[.int .i64 (hiW x), .int .u64 (loW x)]) (t := 49) (w := w) (b := w.heap.size) (by simp)).alloc (.cells #[.int .i64 0, .int .u64 d] 49)).alloc (.cells #[.int .i64 0, .int .u64 0] 49))
  have KY := Lib.hid ((Blk.of (vs := #[.int .i64 0, .int .u64 d]) (t := 49) (w := (w.alloc (.cells #[.int .i64 (hiW x), .int .u64 (loW x)] 49))) (b := w.heap.size + 1) (by simp)).alloc (.cells #[.int .i64 0, .int .u64 0] 49))
  have KZ := Lib.hid (Blk.of (vs := #[.int .i64 0, .int .u64 0]) (t := 49) (w := ((w.alloc (.cells #[.int .i64 (hiW x), .int .u64 (loW x)] 49)).alloc (.cells #[.int .i64 0, .int .u64 d] 49))) (b := w.heap.size + 1 + 1) (by simp))
  have HB := Lib.hid ((((Below.refl w.heap.size w).alloc (by simp; try omega) (.cells #[.int .i64 (hiW x), .int .u64 (loW x)] 49)).alloc (by simp; try omega) (.cells #[.int .i64 0, .int .u64 d] 49)).alloc (by simp; try omega) (.cells #[.int .i64 0, .int .u64 0] 49))
  go_enter Tryz.func88, Tryz.ntmps88
  go_wp2_with fail
  generalize ((w.alloc (.cells #[.int .i64 (hiW x), .int .u64 (loW x)] 49)).alloc (.cells #[.int .i64 0, .int .u64 d] 49)).alloc (.cells #[.int .i64 0, .int .u64 0] 49) = w0 at *
  refine (DV.out _).mono ?_
  rintro e1 w1 ⟨rfl, hb1⟩
  replace HB := Lib.hid (HB.out.trans (hb1.mono HB.out.size))
  replace KX := Lib.hid (KX.out.below hb1)
  replace KY := Lib.hid (KY.out.below hb1)
  replace KZ := Lib.hid (KZ.out.below hb1)
  clear hb1
  have yZ := KZ.out
  have yZ_0 := yZ.c 0 _ rfl
  have yZ_1 := yZ.c 1 _ rfl
  have yZ_z := yZ.lt
  have yZ_f0 := yZ.f 0 _ rfl
  have yZ_f1 := yZ.f 1 _ rfl
  clear yZ
  go_wp2
  replace KX := Lib.hid (blk_other (b := w.heap.size) (n := (w.heap.size + 1 + 1)) (j := 1) (blk_other (b := w.heap.size) (n := (w.heap.size + 1 + 1)) (j := 0) KX.out (by omega) (.int .i64 (hiW v))) (by omega) (.int .u64 (loW v)))
  replace KY := Lib.hid (blk_other (b := (w.heap.size + 1)) (n := (w.heap.size + 1 + 1)) (j := 1) (blk_other (b := (w.heap.size + 1)) (n := (w.heap.size + 1 + 1)) (j := 0) KY.out (by omega) (.int .i64 (hiW v))) (by omega) (.int .u64 (loW v)))
  replace KZ := Lib.hid (blk_set (blk_set KZ.out (j := 0) (by simp) (.int .i64 (hiW v))) (j := 1) (by simp) (.int .u64 (loW v)))
  replace HB := Lib.hid ((HB.out.setCell (p := ⟨(w.heap.size + 1 + 1), 0, none⟩) (show w.heap.size ≤ (w.heap.size + 1 + 1) by omega) (.int .i64 (hiW v))).setCell (p := ⟨(w.heap.size + 1 + 1), 1, none⟩) (show w.heap.size ≤ (w.heap.size + 1 + 1) by omega) (.int .u64 (loW v)))
  clear yZ_0 yZ_1 yZ_z yZ_f0 yZ_f1
  generalize (w1.setCell ⟨(w.heap.size + 1 + 1), 0, none⟩ (.int .i64 (hiW v))).setCell ⟨(w.heap.size + 1 + 1), 1, none⟩ (.int .u64 (loW v)) = w2 at *
  simp only [List.set] at KZ
  have yZ := KZ.out
  have yZ_0 := yZ.c 0 _ rfl
  have yZ_1 := yZ.c 1 _ rfl
  have yZ_z := yZ.lt
  clear yZ
  refine bodyPost_ret (v := .tuple #[.agg #[.int .i64 (hiW v), .int .u64 (loW v)], .bool true]) (by simp [results, Tryz.results88, go_sem, yZ_0, yZ_1]) rfl ⟨rfl, HB.out⟩
end Go.Proofs.YtplgdlooglnpmaaGreat
namespace Go.Proofs.YtplgdlooglnpmaaGreat
set_option linter.unusedVariables false
open Go.RowKit
set_option maxHeartbeats 4000000 in
set_option maxRecDepth 100000 in
theorem rnear_int {x : Int} (w : World) (hf : FitW x) : Calls Tryz.prog 90 #[wv x] w fun e w' => e = .returned (.tuple #[.int .i64 (if I64 x then x else 0), .bool (decide (I64 x))]) ∧ Below w.heap.size w w' := by
  obtain ⟨t, ht⟩ : ∃ t, IntKind.i64.wrap (loW x) = t := ⟨_, rfl⟩
  have tb : -9223372036854775808 ≤ t ∧ t ≤ 9223372036854775807 := by rw [← ht]; unfold loW; simp [IntKind.wrap, IntKind.bits, IntKind.signed]; omega
  have OF := Lib.hid fun w => rof_any t w tb.1 tb.2
  by_cases h : I64 x
  · have e : t = x := by obtain ⟨a, b⟩ := h; rw [← ht]; unfold loW; simp [IntKind.wrap, IntKind.bits, IntKind.signed]; omega
    rw [if_pos h, decide_eq_true h]
    rw [e] at OF ht
    unfold wv at *
    clear h hf tb e t
    have KX := Lib.hid (Blk.of (vs := #[.int .i64 (hiW x), .int .u64 (loW x)]) (t := 49) (w := w) (b := w.heap.size) (by simp))
    have HB := Lib.hid ((Below.refl w.heap.size w).alloc (by simp; try omega) (.cells #[.int .i64 (hiW x), .int .u64 (loW x)] 49))
    go_enter Tryz.func90, Tryz.ntmps90
    go_wp2_with fail
    generalize w.alloc (.cells #[.int .i64 (hiW x), .int .u64 (loW x)] 49) = w0 at *
    have gX_0 := fun d os => cell_regrown (KX.out.c 0 _ rfl) d os
    have gX_1 := fun d os => cell_regrown (KX.out.c 1 _ rfl) d os
    have rv0 := Lib.hid (fun d os => Calls.regrown_of (OF.out (Go.Sort.grow (redrawn w0 d) os)))
    refine wp_region_quiet_below (by kernel_rfl) (by kernel_rfl) ?_
    repeat (quiet_step (first | with_reducible exact rv0.out _ _))
    refine wpQuiet_nil ?_
    intro w1 hw1
    have hb1 : Below w0.heap.size w0 w1 := by
      obtain ⟨⟨dq, osq⟩, hw2⟩ := hw1
      rw [hw2]; exact below_regrown _ dq osq
    clear gX_0 gX_1 rv0 hw1
    replace HB := Lib.hid (HB.out.trans (hb1.mono HB.out.size))
    replace KX := Lib.hid (KX.out.below hb1)
    clear hb1
    have yX := KX.out
    have yX_0 := yX.c 0 _ rfl
    have yX_1 := yX.c 1 _ rfl
    have yX_z := yX.lt
    clear yX
    go_wp2
    go_ret2
    exact ⟨rfl, HB.out⟩
  · have g : (hiW t == hiW x) = false := by
      obtain ⟨f0, f1⟩ := hf
      have : x < -9223372036854775808 ∨ 9223372036854775807 < x := by
        rcases Int.lt_or_le x (-9223372036854775808) with a | a
        · exact .inl a
        · rcases Int.lt_or_le 9223372036854775807 x with b | b
          · exact .inr b
          · exact absurd ⟨a, b⟩ h
      have tt : (loW x < 9223372036854775808 ∧ t = loW x) ∨ (9223372036854775808 ≤ loW x ∧ t = loW x - 18446744073709551616) := by
        obtain ⟨l0, l1⟩ := lo_rng x
        rw [← ht]
        simp [IntKind.wrap, IntKind.bits, IntKind.signed]
        omega
      simp
      unfold hiW loW at *
      omega
    have g' : ¬ hiW t = hiW x := by simpa using g
    rw [if_neg h, decide_eq_false h]
    unfold wv at *
    clear h hf tb
    have KX := Lib.hid (Blk.of (vs := #[.int .i64 (hiW x), .int .u64 (loW x)]) (t := 49) (w := w) (b := w.heap.size) (by simp))
    have HB := Lib.hid ((Below.refl w.heap.size w).alloc (by simp; try omega) (.cells #[.int .i64 (hiW x), .int .u64 (loW x)] 49))
    go_enter Tryz.func90, Tryz.ntmps90
    go_wp2_with fail
    generalize w.alloc (.cells #[.int .i64 (hiW x), .int .u64 (loW x)] 49) = w0 at *
    have gX_0 := fun d os => cell_regrown (KX.out.c 0 _ rfl) d os
    have gX_1 := fun d os => cell_regrown (KX.out.c 1 _ rfl) d os
    have rv0 := Lib.hid (fun d os => Calls.regrown_of (OF.out (Go.Sort.grow (redrawn w0 d) os)))
    refine wp_region_quiet_below (by kernel_rfl) (by kernel_rfl) ?_
    repeat (quiet_step (first | with_reducible exact rv0.out _ _))
    refine wpQuiet_nil ?_
    intro w1 hw1
    have hb1 : Below w0.heap.size w0 w1 := by
      obtain ⟨⟨dq, osq⟩, hw2⟩ := hw1
      rw [hw2]; exact below_regrown _ dq osq
    clear gX_0 gX_1 rv0 hw1
    replace HB := Lib.hid (HB.out.trans (hb1.mono HB.out.size))
    replace KX := Lib.hid (KX.out.below hb1)
    clear hb1
    have yX := KX.out
    have yX_0 := yX.c 0 _ rfl
    have yX_1 := yX.c 1 _ rfl
    have yX_z := yX.lt
    clear yX
    go_wp2
    go_ret2
    exact ⟨rfl, HB.out⟩
end Go.Proofs.YtplgdlooglnpmaaGreat
namespace Go.Proofs.YtplgdlooglnpmaaGreat
set_option linter.unusedVariables false
open Go.RowKit
set_option maxHeartbeats 8000000 in
set_option maxRecDepth 100000 in
theorem rnearest_any (x d : Int) (w : World) (hx0 : -85070591730234615865843651857942052864 < x) (hx : x < 85070591730234615865843651857942052864) (hd : 0 < d) (hd1 : d ≤ 9223372036854775807) :
    Calls Tryz.prog 56 #[wv x, .int .i64 d] w fun e w' => e = .returned (.tuple #[.int .i64 (if I64 (nearI2 x d) then nearI2 x d else 0), .bool (decide (I64 (nearI2 x d)))]) ∧ Below w.heap.size w w' := by
  have OF := Lib.hid fun w => rof_any d w (by omega) hd1
  have DV := Lib.hid fun w => rnear_any x d w hx0 hx hd (by omega)
  have IN := Lib.hid fun w => rnear_int (x := nearI2 x d) w (near_bd hd hx0 hx hd1)
  generalize decide (I64 (nearI2 x d)) = ok at *
  generalize (if I64 (nearI2 x d) then nearI2 x d else 0) = u at *
  generalize nearI2 x d = v at *
  unfold wv at *
  clear hx0 hx hd hd1
  have KX := Lib.hid (Blk.of (vs := #[.int .i64 (hiW x), .int .u64 (loW x)]) (t := 49) (w := w) (b := w.heap.size) (by simp))
  have HB := Lib.hid ((Below.refl w.heap.size w).alloc (by simp; try omega) (.cells #[.int .i64 (hiW x), .int .u64 (loW x)] 49))
  go_enter Tryz.func56, Tryz.ntmps56
  go_wp2_with fail
  generalize w.alloc (.cells #[.int .i64 (hiW x), .int .u64 (loW x)] 49) = w0 at *
  have BD := Lib.hid (show Below w0.heap.size w0 w0.drew from ⟨rfl, rfl, rfl, Nat.le_refl _, fun _ _ => rfl⟩)
  have BD2 := Lib.hid (below_drew_alloc w0 (.cells #[.int .i64 0, .int .u64 0] 49))
  have DOF := Lib.hid fun W (h : Below w0.heap.size w0 W) => (OF.out W).mono fun e w' ⟨h1, h2⟩ => show _ ∧ Below w0.heap.size w0 w' ∧ Below W.heap.size W w' from ⟨h1, h.trans (h2.mono h.size), h2⟩
  have DDV := Lib.hid fun W (h : Below w0.heap.size w0 W) => (DV.out W).mono fun e w' ⟨h1, h2⟩ => show _ ∧ Below w0.heap.size w0 w' ∧ Below W.heap.size W w' from ⟨h1, h.trans (h2.mono h.size), h2⟩
  have yX := KX.out
  have yX_0 := yX.c 0 _ rfl
  have yX_1 := yX.c 1 _ rfl
  have yX_z := yX.lt
  clear yX
  go_region_held3 (fun w' => w'.cell? ⟨w.heap.size, 0, none⟩ = some (.int .i64 (hiW x)) ∧ w'.cell? ⟨w.heap.size, 1, none⟩ = some (.int .u64 (loW x))) (first | (refine ⟨?_, ?_⟩ <;> first | assumption | (rw [far2 KV.out.1 yX_z]; assumption)) | go_keep)
    (first
      | (go_at_call 89; with_reducible refine Calls.mono (DOF.out _ (by first | exact BD.out | exact BD2.out | exact HX.out | exact HX.out.alloc HX.out.size _)) ?_; rintro e9 w9 ⟨rfl, hb9, hc9⟩; have pX := KX.out.below hb9; have qX0 := pX.c 0 _ rfl; have qX1 := pX.c 1 _ rfl; clear pX; (first | (with_reducible have KV := Lib.hid (kv_drew (vs := #[.int .i64 0, .int .u64 0]) (t := 49) hc9); have pV := KV.out.2; have v0 := pV.c 0 _ rfl; have vf0 := pV.f 0 _ rfl; have v1 := pV.c 1 _ rfl; have vf1 := pV.f 1 _ rfl; have v9 := pV.lt; clear pV) | (with_reducible have KV := Lib.hid (kv_new (vs := #[.int .i64 0, .int .u64 0]) (t := 49) HX.out hc9); have pV := KV.out.2; have v0 := pV.c 0 _ rfl; have vf0 := pV.f 0 _ rfl; have v1 := pV.c 1 _ rfl; have vf1 := pV.f 1 _ rfl; have v9 := pV.lt; clear pV) | (with_reducible have KV := Lib.hid (kv_old KV.out hc9); have pV := KV.out.2; have v0 := pV.c 0 _ rfl; have vf0 := pV.f 0 _ rfl; have v1 := pV.c 1 _ rfl; have vf1 := pV.f 1 _ rfl; have v9 := pV.lt; clear pV) | skip); have HX := Lib.hid hb9; clear hb9 hc9)
      | (go_at_call 88; with_reducible refine Calls.mono (DDV.out _ (by first | exact BD.out | exact BD2.out | exact HX.out | exact HX.out.alloc HX.out.size _)) ?_; rintro e9 w9 ⟨rfl, hb9, hc9⟩; have pX := KX.out.below hb9; have qX0 := pX.c 0 _ rfl; have qX1 := pX.c 1 _ rfl; clear pX; (first | (with_reducible have KV := Lib.hid (kv_drew (vs := #[.int .i64 0, .int .u64 0]) (t := 49) hc9); have pV := KV.out.2; have v0 := pV.c 0 _ rfl; have vf0 := pV.f 0 _ rfl; have v1 := pV.c 1 _ rfl; have vf1 := pV.f 1 _ rfl; have v9 := pV.lt; clear pV) | (with_reducible have KV := Lib.hid (kv_new (vs := #[.int .i64 0, .int .u64 0]) (t := 49) HX.out hc9); have pV := KV.out.2; have v0 := pV.c 0 _ rfl; have vf0 := pV.f 0 _ rfl; have v1 := pV.c 1 _ rfl; have vf1 := pV.f 1 _ rfl; have v9 := pV.lt; clear pV) | (with_reducible have KV := Lib.hid (kv_old KV.out hc9); have pV := KV.out.2; have v0 := pV.c 0 _ rfl; have vf0 := pV.f 0 _ rfl; have v1 := pV.c 1 _ rfl; have vf1 := pV.f 1 _ rfl; have v9 := pV.lt; clear pV) | skip); have HX := Lib.hid hb9; clear hb9 hc9))
  all_goals
    first
      | (have FN := kv_set2n (.int .i64 (hiW v)) (.int .u64 (loW v)) KV.out HX.out; have FB := Lib.hid FN.1; have KN := Lib.hid FN.2.1; have n0N := FN.2.2; clear FN; generalize World.setCell (World.setCell _ _ (.int .i64 (hiW v))) _ (.int .u64 (loW v)) = w1 at *)
      | (have FN := kv_putn (vs := #[.int .i64 (hiW v), .int .u64 (loW v)]) (t := 49) HX.out; have FB := Lib.hid FN.1; have KN := Lib.hid FN.2.1; have n0N := FN.2.2; clear FN; generalize (World.alloc _ (.cells #[.int .i64 (hiW v), .int .u64 (loW v)] 49)) = w1 at *)
    have nN := Nat.le_trans HB.out.size n0N
    have neN_X := Nat.ne_of_gt (Nat.lt_of_lt_of_le KX.out.lt n0N)
    replace HB := Lib.hid (HB.out.trans (FB.out.mono HB.out.size))
    replace KX := Lib.hid (KX.out.below FB.out)
    have yN := KN.out
    have yN_0 := yN.c 0 _ rfl
    have yN_1 := yN.c 1 _ rfl
    have yN_z := yN.lt
    clear yN
    go_wp2_with fail
    refine (IN.out _).mono ?_
    rintro e2 w2 ⟨rfl, hb2⟩
    replace HB := Lib.hid (HB.out.trans (hb2.mono HB.out.size))
    replace KX := Lib.hid (KX.out.below hb2)
    replace KN := Lib.hid (KN.out.below hb2)
    clear yN_0 yN_1 yN_z
    clear hb2
    go_wp2
    all_goals go_ret2
    all_goals exact ⟨rfl, HB.out⟩
set_option maxHeartbeats 8000000 in
set_option maxRecDepth 100000 in
theorem rapart_any (p x d : Int) (w : World) (hp : I64 p) (hd : I64 d) (hx : FitW x) (h1 : FitW (p * d - x)) (h2 : FitW (-(p * d - x))) :
    Calls Tryz.prog 32 #[.int .i64 p, wv x, .int .i64 d] w fun e w' => e = .returned (wv (absZ (p * d - x))) ∧ Below w.heap.size w w' := by
  have MU := Lib.hid fun w => rmul_any p d w hp.lo hp.hi hd.lo hd.hi
  have SB := Lib.hid fun w => rsub_any (p * d) x w (mul_fit hp.lo hp.hi hd.lo hd.hi) hx h1
  have AB := Lib.hid fun w => rabs_any (p * d - x) w h1 h2
  unfold wv1 at AB
  clear hp hd hx h1 h2
  generalize absZ (p * d - x) = r at *
  generalize p * d - x = v at *
  generalize p * d = q at *
  unfold wv at *
  have KX := Lib.hid ((Blk.of (vs := #[.int .i64 (hiW x), .int .u64 (loW x)]) (t := 49) (w := w) (b := w.heap.size) (by simp)).alloc (.cells #[.int .i64 0, .int .u64 0] 49))
  have KZ := Lib.hid (Blk.of (vs := #[.int .i64 0, .int .u64 0]) (t := 49) (w := (w.alloc (.cells #[.int .i64 (hiW x), .int .u64 (loW x)] 49))) (b := w.heap.size + 1) (by simp))
  have HB := Lib.hid (((Below.refl w.heap.size w).alloc (by simp; try omega) (.cells #[.int .i64 (hiW x), .int .u64 (loW x)] 49)).alloc (by simp; try omega) (.cells #[.int .i64 0, .int .u64 0] 49))
  go_enter Tryz.func32, Tryz.ntmps32
  go_wp2_with fail
  generalize (w.alloc (.cells #[.int .i64 (hiW x), .int .u64 (loW x)] 49)).alloc (.cells #[.int .i64 0, .int .u64 0] 49) = w0 at *
  have BD := Lib.hid (show Below w0.heap.size w0 w0.drew from ⟨rfl, rfl, rfl, Nat.le_refl _, fun _ _ => rfl⟩)
  have BD2 := Lib.hid (below_drew_alloc w0 (.cells #[.int .i64 0, .int .u64 0] 49))
  have DMU := Lib.hid fun W (h : Below w0.heap.size w0 W) => (MU.out W).mono fun e w' ⟨h1, h2⟩ => show _ ∧ Below w0.heap.size w0 w' ∧ Below W.heap.size W w' from ⟨h1, h.trans (h2.mono h.size), h2⟩
  have DSB := Lib.hid fun W (h : Below w0.heap.size w0 W) => (SB.out W).mono fun e w' ⟨h1, h2⟩ => show _ ∧ Below w0.heap.size w0 w' ∧ Below W.heap.size W w' from ⟨h1, h.trans (h2.mono h.size), h2⟩
  have yX := KX.out
  have yX_0 := yX.c 0 _ rfl
  have yX_1 := yX.c 1 _ rfl
  have yX_z := yX.lt
  clear yX
  go_region_held3 (fun w' => w'.cell? ⟨w.heap.size, 0, none⟩ = some (.int .i64 (hiW x)) ∧ w'.cell? ⟨w.heap.size, 1, none⟩ = some (.int .u64 (loW x))) (first | (refine ⟨?_, ?_⟩ <;> first | assumption | (rw [far2 KV.out.1 yX_z]; assumption)) | go_keep)
    (first
      | (go_at_call 61; with_reducible refine Calls.mono (DMU.out _ (by first | exact BD.out | exact BD2.out | exact HX.out | exact HX.out.alloc HX.out.size _)) ?_; rintro e9 w9 ⟨rfl, hb9, hc9⟩; have pX := KX.out.below hb9; have qX0 := pX.c 0 _ rfl; have qX1 := pX.c 1 _ rfl; clear pX; (first | (with_reducible have KV := Lib.hid (kv_drew (vs := #[.int .i64 0, .int .u64 0]) (t := 49) hc9); have pV := KV.out.2; have v0 := pV.c 0 _ rfl; have vf0 := pV.f 0 _ rfl; have v1 := pV.c 1 _ rfl; have vf1 := pV.f 1 _ rfl; have v9 := pV.lt; clear pV) | (with_reducible have KV := Lib.hid (kv_new (vs := #[.int .i64 0, .int .u64 0]) (t := 49) HX.out hc9); have pV := KV.out.2; have v0 := pV.c 0 _ rfl; have vf0 := pV.f 0 _ rfl; have v1 := pV.c 1 _ rfl; have vf1 := pV.f 1 _ rfl; have v9 := pV.lt; clear pV) | (with_reducible have KV := Lib.hid (kv_old KV.out hc9); have pV := KV.out.2; have v0 := pV.c 0 _ rfl; have vf0 := pV.f 0 _ rfl; have v1 := pV.c 1 _ rfl; have vf1 := pV.f 1 _ rfl; have v9 := pV.lt; clear pV) | skip); have HX := Lib.hid hb9; clear hb9 hc9)
      | (go_at_call 64; with_reducible refine Calls.mono (DSB.out _ (by first | exact BD.out | exact BD2.out | exact HX.out | exact HX.out.alloc HX.out.size _)) ?_; rintro e9 w9 ⟨rfl, hb9, hc9⟩; have pX := KX.out.below hb9; have qX0 := pX.c 0 _ rfl; have qX1 := pX.c 1 _ rfl; clear pX; (first | (with_reducible have KV := Lib.hid (kv_drew (vs := #[.int .i64 0, .int .u64 0]) (t := 49) hc9); have pV := KV.out.2; have v0 := pV.c 0 _ rfl; have vf0 := pV.f 0 _ rfl; have v1 := pV.c 1 _ rfl; have vf1 := pV.f 1 _ rfl; have v9 := pV.lt; clear pV) | (with_reducible have KV := Lib.hid (kv_new (vs := #[.int .i64 0, .int .u64 0]) (t := 49) HX.out hc9); have pV := KV.out.2; have v0 := pV.c 0 _ rfl; have vf0 := pV.f 0 _ rfl; have v1 := pV.c 1 _ rfl; have vf1 := pV.f 1 _ rfl; have v9 := pV.lt; clear pV) | (with_reducible have KV := Lib.hid (kv_old KV.out hc9); have pV := KV.out.2; have v0 := pV.c 0 _ rfl; have vf0 := pV.f 0 _ rfl; have v1 := pV.c 1 _ rfl; have vf1 := pV.f 1 _ rfl; have v9 := pV.lt; clear pV) | skip); have HX := Lib.hid hb9; clear hb9 hc9))
  all_goals
    first
      | (have FN := kv_set2n (.int .i64 (hiW v)) (.int .u64 (loW v)) KV.out HX.out; have FB := Lib.hid FN.1; have KN := Lib.hid FN.2.1; have n0N := FN.2.2; clear FN; generalize World.setCell (World.setCell _ _ (.int .i64 (hiW v))) _ (.int .u64 (loW v)) = w1 at *)
      | (have FN := kv_putn (vs := #[.int .i64 (hiW v), .int .u64 (loW v)]) (t := 49) HX.out; have FB := Lib.hid FN.1; have KN := Lib.hid FN.2.1; have n0N := FN.2.2; clear FN; generalize (World.alloc _ (.cells #[.int .i64 (hiW v), .int .u64 (loW v)] 49)) = w1 at *)
    have nN := Nat.le_trans HB.out.size n0N
    have neN_X := Nat.ne_of_gt (Nat.lt_of_lt_of_le KX.out.lt n0N)
    have neN_Z := Nat.ne_of_gt (Nat.lt_of_lt_of_le KZ.out.lt n0N)
    replace HB := Lib.hid (HB.out.trans (FB.out.mono HB.out.size))
    replace KX := Lib.hid (KX.out.below FB.out)
    replace KZ := Lib.hid (KZ.out.below FB.out)
    have yN := KN.out
    have yN_0 := yN.c 0 _ rfl
    have yN_1 := yN.c 1 _ rfl
    have yN_z := yN.lt
    clear yN
    go_wp2_with fail
    refine (AB.out _).mono ?_
    rintro e2 w2 ⟨rfl, hb2⟩
    replace HB := Lib.hid (HB.out.trans (hb2.mono HB.out.size))
    replace KX := Lib.hid (KX.out.below hb2)
    replace KZ := Lib.hid (KZ.out.below hb2)
    replace KN := Lib.hid (KN.out.below hb2)
    clear yN_0 yN_1 yN_z
    clear hb2
    have yZ := KZ.out
    have yZ_0 := yZ.c 0 _ rfl
    have yZ_1 := yZ.c 1 _ rfl
    have yZ_z := yZ.lt
    have yZ_f0 := yZ.f 0 _ rfl
    have yZ_f1 := yZ.f 1 _ rfl
    clear yZ
    have yN := KN.out
    have yN_0 := yN.c 0 _ rfl
    have yN_1 := yN.c 1 _ rfl
    have yN_z := yN.lt
    have yN_f0 := yN.f 0 _ rfl
    have yN_f1 := yN.f 1 _ rfl
    clear yN
    go_wp2
    replace KX := Lib.hid (blk_other (j := 1) (blk_other (j := 0) KX.out neN_X (.int .i64 (hiW r))) neN_X (.int .u64 (loW r)))
    replace KZ := Lib.hid (blk_other (j := 1) (blk_other (j := 0) KZ.out neN_Z (.int .i64 (hiW r))) neN_Z (.int .u64 (loW r)))
    replace KN := Lib.hid (blk_set (blk_set KN.out (j := 0) (by simp) (.int .i64 (hiW r))) (j := 1) (by simp) (.int .u64 (loW r)))
    replace HB := Lib.hid ((HB.out.setCell (p := ⟨_, 0, none⟩) nN (.int .i64 (hiW r))).setCell (p := ⟨_, 1, none⟩) nN (.int .u64 (loW r)))
    clear yZ_0 yZ_1 yZ_z yZ_f0 yZ_f1 yN_0 yN_1 yN_z yN_f0 yN_f1
    generalize World.setCell (World.setCell _ _ (.int .i64 (hiW r))) _ (.int .u64 (loW r)) = w3 at *
    simp only [List.set] at KN
    replace KX := Lib.hid (blk_other (b := w.heap.size) (n := (w.heap.size + 1)) (j := 1) (blk_other (b := w.heap.size) (n := (w.heap.size + 1)) (j := 0) KX.out (by omega) (.int .i64 (hiW r))) (by omega) (.int .u64 (loW r)))
    replace KZ := Lib.hid (blk_set (blk_set KZ.out (j := 0) (by simp) (.int .i64 (hiW r))) (j := 1) (by simp) (.int .u64 (loW r)))
    replace KN := Lib.hid (blk_other (j := 1) (blk_other (j := 0) KN.out (Ne.symm neN_Z) (.int .i64 (hiW r))) (Ne.symm neN_Z) (.int .u64 (loW r)))
    replace HB := Lib.hid ((HB.out.setCell (p := ⟨(w.heap.size + 1), 0, none⟩) (show w.heap.size ≤ (w.heap.size + 1) by omega) (.int .i64 (hiW r))).setCell (p := ⟨(w.heap.size + 1), 1, none⟩) (show w.heap.size ≤ (w.heap.size + 1) by omega) (.int .u64 (loW r)))
    generalize (w3.setCell ⟨(w.heap.size + 1), 0, none⟩ (.int .i64 (hiW r))).setCell ⟨(w.heap.size + 1), 1, none⟩ (.int .u64 (loW r)) = w4 at *
    simp only [List.set] at KZ
    have yZ := KZ.out
    have yZ_0 := yZ.c 0 _ rfl
    have yZ_1 := yZ.c 1 _ rfl
    have yZ_z := yZ.lt
    clear yZ
    refine bodyPost_ret (v := .agg #[.int .i64 (hiW r), .int .u64 (loW r)]) (by simp [results, Tryz.results32, go_sem, yZ_0, yZ_1]) rfl ⟨rfl, HB.out⟩
set_option maxHeartbeats 8000000 in
set_option maxRecDepth 100000 in
theorem rminor_any (a b c d : Int) (w : World) (ha : I64 a) (hb : I64 b) (hc : I64 c) (hd : I64 d) (hf : FitW (a * b - c * d)) :
    Calls Tryz.prog 59 #[.int .i64 a, .int .i64 b, .int .i64 c, .int .i64 d] w fun e w' => e = .returned (wv (a * b - c * d)) ∧ Below w.heap.size w w' := by
  have MA := Lib.hid fun w => rmul_any a b w ha.lo ha.hi hb.lo hb.hi
  have MC := Lib.hid fun w => rmul_any c d w hc.lo hc.hi hd.lo hd.hi
  have SB := Lib.hid fun w => rsub_any (a * b) (c * d) w (mul_fit ha.lo ha.hi hb.lo hb.hi) (mul_fit hc.lo hc.hi hd.lo hd.hi) hf
  unfold wv at *
  generalize a * b - c * d = r at *
  generalize a * b = p at *
  generalize c * d = q at *
  clear ha hb hc hd hf
  have KZ := Lib.hid (Blk.of (vs := #[.int .i64 0, .int .u64 0]) (t := 49) (w := w) (b := w.heap.size) (by simp))
  have HB := Lib.hid ((Below.refl w.heap.size w).alloc (by simp; try omega) (.cells #[.int .i64 0, .int .u64 0] 49))
  go_enter Tryz.func59, Tryz.ntmps59
  go_wp2_with fail
  generalize w.alloc (.cells #[.int .i64 0, .int .u64 0] 49) = w0 at *
  refine (MA.out _).mono ?_
  rintro e1 w1 ⟨rfl, hb1⟩
  replace HB := Lib.hid (HB.out.trans (hb1.mono HB.out.size))
  replace KZ := Lib.hid (KZ.out.below hb1)
  clear hb1
  go_wp2_with fail
  refine (MC.out _).mono ?_
  rintro e2 w2 ⟨rfl, hb2⟩
  replace HB := Lib.hid (HB.out.trans (hb2.mono HB.out.size))
  replace KZ := Lib.hid (KZ.out.below hb2)
  clear hb2
  go_wp2_with fail
  refine (SB.out _).mono ?_
  rintro e3 w3 ⟨rfl, hb3⟩
  replace HB := Lib.hid (HB.out.trans (hb3.mono HB.out.size))
  replace KZ := Lib.hid (KZ.out.below hb3)
  clear hb3
  have yZ := KZ.out
  have yZ_0 := yZ.c 0 _ rfl
  have yZ_1 := yZ.c 1 _ rfl
  have yZ_z := yZ.lt
  have yZ_f0 := yZ.f 0 _ rfl
  have yZ_f1 := yZ.f 1 _ rfl
  clear yZ
  go_wp2
  replace KZ := Lib.hid (blk_set (blk_set KZ.out (j := 0) (by simp) (.int .i64 (hiW r))) (j := 1) (by simp) (.int .u64 (loW r)))
  replace HB := Lib.hid ((HB.out.setCell (p := ⟨w.heap.size, 0, none⟩) (show w.heap.size ≤ w.heap.size by omega) (.int .i64 (hiW r))).setCell (p := ⟨w.heap.size, 1, none⟩) (show w.heap.size ≤ w.heap.size by omega) (.int .u64 (loW r)))
  clear yZ_0 yZ_1 yZ_z yZ_f0 yZ_f1
  generalize (w3.setCell ⟨w.heap.size, 0, none⟩ (.int .i64 (hiW r))).setCell ⟨w.heap.size, 1, none⟩ (.int .u64 (loW r)) = w4 at *
  simp only [List.set] at KZ
  have KV := Lib.hid (Blk.of (vs := #[.int .i64 (hiW r), .int .u64 (loW r)]) (t := 49) (w := w4) (b := w4.heap.size) rfl)
  have hb5 : Below w4.heap.size w4 (w4.alloc (.cells #[.int .i64 (hiW r), .int .u64 (loW r)] 49)) := (Below.refl _ _).alloc (Nat.le_refl _) _
  have hnV := HB.out.size
  have nzV_Z := KZ.out.lt
  replace HB := Lib.hid (HB.out.trans (hb5.mono HB.out.size))
  replace KZ := Lib.hid (KZ.out.below hb5)
  clear hb5
  generalize w4.alloc (.cells #[.int .i64 (hiW r), .int .u64 (loW r)] 49) = w5 at *
  generalize w4.heap.size = bV at *
  have neV_Z : bV ≠ w.heap.size := by omega
  clear nzV_Z
  have yZ := KZ.out
  have yZ_0 := yZ.c 0 _ rfl
  have yZ_1 := yZ.c 1 _ rfl
  have yZ_z := yZ.lt
  clear yZ
  refine bodyPost_ret (v := .agg #[.int .i64 (hiW r), .int .u64 (loW r)]) (by simp [results, Tryz.results59, go_sem, yZ_0, yZ_1]) rfl ⟨rfl, HB.out⟩
set_option maxHeartbeats 4000000 in
theorem rvldP_any (x y : Int) (w : World) : Calls Tryz.prog 57 #[.agg #[.int .i64 x, .int .i64 y]] w fun e w' => e = .returned (.bool (vldP x y)) ∧ Below w.heap.size w w' := by
  have key : (decide (-2000000 ≤ x) = false ∧ vldP x y = false) ∨ (decide (-2000000 ≤ x) = true ∧ decide (x ≤ 2000000) = false ∧ vldP x y = false) ∨ (decide (-2000000 ≤ x) = true ∧ decide (x ≤ 2000000) = true ∧ decide (-2000000 ≤ y) = false ∧ vldP x y = false) ∨ (decide (-2000000 ≤ x) = true ∧ decide (x ≤ 2000000) = true ∧ decide (-2000000 ≤ y) = true ∧ decide (y ≤ 2000000) = false ∧ vldP x y = false) ∨ (decide (-2000000 ≤ x) = true ∧ decide (x ≤ 2000000) = true ∧ decide (-2000000 ≤ y) = true ∧ decide (y ≤ 2000000) = true ∧ vldP x y = true) := by
    unfold vldP
    simp only [decide_eq_true_eq, decide_eq_false_iff_not]
    omega
  rcases key with ⟨g0, E⟩ | ⟨g0, g1, E⟩ | ⟨g0, g1, g2, E⟩ | ⟨g0, g1, g2, g3, E⟩ | ⟨g0, g1, g2, g3, E⟩
  all_goals
    rw [E]
    clear E
    go_enter Tryz.func57, Tryz.ntmps57
    go_wp2
    go_ret
    exact ⟨rfl, (Below.refl _ _).alloc (Nat.le_refl _) _⟩
end Go.Proofs.YtplgdlooglnpmaaGreat
