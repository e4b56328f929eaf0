/-
  Walks and laws of the layers below, gathered from several texts.
-/
import Derived.Lib.QuietBelow
import Derived.Test.YtidelghgjibndaaGreatM7t2
namespace Go.Proofs.YtidelghgjibndaaGreat
set_option linter.unusedVariables false
open Go.RowKit
theorem inc_hi {q : Int} (h0 : 0 ≤ q) (h1 : q < 85070591730234615865843651857942052864) : IntKind.u64.wrap (hiW q + (loW q + 1 + 0) / 18446744073709551616) = hiW (q + 1) := by
  rw [IntKind.wrap_u64]; unfold hiW loW; omega
theorem inc_lo (q : Int) : (loW q + 1 + 0) % 18446744073709551616 = loW (q + 1) := by unfold loW; omega
/-- what the walk of divide meets -/
structure DivW (x d : Int) (neg rz : Bool) (q r c : Int) : Prop where
  sx : ∀ w, Calls Tryz.prog 124 #[.agg #[.int .i64 (hiW x), .int .u64 (loW x)]] w fun e w' => e = .returned (.tuple #[.agg #[.int .u64 (hiW (absW x)), .int .u64 (loW (absW x))], .bool neg]) ∧ Below w.heap.size w w'
  sy : ∀ w, Calls Tryz.prog 124 #[.agg #[.int .i64 (hiW d), .int .u64 (loW d)]] w fun e w' => e = .returned (.tuple #[.agg #[.int .u64 (hiW d), .int .u64 (loW d)], .bool false]) ∧ Below w.heap.size w w'
  zd : ∀ w, Calls Tryz.prog 125 #[.agg #[.int .u64 (hiW d), .int .u64 (loW d)]] w fun e w' => e = .returned (.bool false) ∧ Below w.heap.size w w'
  ov : ∀ w, Calls Tryz.prog 126 #[.agg #[.int .u64 (hiW (absW x)), .int .u64 (loW (absW x))], .agg #[.int .u64 (hiW d), .int .u64 (loW d)]] w fun e w' => e = .returned (.tuple #[.agg #[.int .u64 (hiW q), .int .u64 (loW q)], .agg #[.int .u64 (hiW r), .int .u64 (loW r)]]) ∧ Below w.heap.size w w'
  zr : ∀ w, Calls Tryz.prog 125 #[.agg #[.int .u64 (hiW r), .int .u64 (loW r)]] w fun e w' => e = .returned (.bool rz) ∧ Below w.heap.size w w'
  ls : ∀ w, Calls Tryz.prog 128 #[.agg #[.int .u64 (hiW d), .int .u64 (loW d)], .agg #[.int .u64 (hiW r), .int .u64 (loW r)]] w fun e w' => e = .returned (.agg #[.int .u64 (hiW (d - r)), .int .u64 (loW (d - r))]) ∧ Below w.heap.size w w'
  cm : ∀ w, Calls Tryz.prog 127 #[.agg #[.int .u64 (hiW r), .int .u64 (loW r)], .agg #[.int .u64 (hiW (d - r)), .int .u64 (loW (d - r))]] w fun e w' => e = .returned (.int .i64 c) ∧ Below w.heap.size w w'
theorem div_world {x d q r : Int} (hx0 : -85070591730234615865843651857942052864 < x) (hx : x < 85070591730234615865843651857942052864) (hd : 0 < d) (hd1 : d < 85070591730234615865843651857942052864) (hq : q = absW x / d) (hr : r = absW x % d) :
    DivW x d (decide (x < 0)) (decide (r = 0)) q r (cmpI r (d - r)) := by
  have ax0 := absW_nonneg x
  have ax1 : absW x < 85070591730234615865843651857942052864 := by unfold absW; split <;> omega
  have ad : absW d = d := by unfold absW; rw [if_neg (by omega)]
  have hr0 : 0 ≤ r := by rw [hr]; exact Int.emod_nonneg _ (by omega)
  have hr1 : r < d := by rw [hr]; exact Int.emod_lt_of_pos _ hd
  refine ⟨fun w => wsplit_any x w ⟨by omega, by omega⟩, fun w => ?_, fun w => ?_, fun w => ?_, fun w => wzero_any r w, fun w => wless_any d r w hr0 (by omega) (by omega), fun w => wcmp_any r (d - r) w⟩
  · have := wsplit_any d w ⟨by omega, by omega⟩
    rw [ad, decide_eq_false (by omega : ¬ d < 0)] at this
    exact this
  · have := wzero_any d w
    rw [decide_eq_false (by omega : ¬ d = 0)] at this
    exact this
  · obtain ⟨N, hN⟩ := Int.eq_ofNat_of_zero_le ax0
    obtain ⟨D, rfl⟩ := Int.eq_ofNat_of_zero_le (show 0 ≤ d by omega)
    have := wover_any N D w (by omega) (by omega) (by omega)
    rw [Int.natCast_ediv, Int.natCast_emod, ← hN, ← hq, ← hr] at this
    exact this
set_option maxHeartbeats 8000000 in
set_option maxRecDepth 100000 in
theorem div_path0 (x d q r v : Int) (c : Int) (w : World) (h : DivW x d false true q r c) (h0 : 0 ≤ q) (h1 : q < 85070591730234615865843651857942052864) (hv : v = sgn false q) :
    Calls Tryz.prog 105 #[wv x, wv d, .int .i64 1] w fun e w' => e = .returned (.tuple #[wv v, .bool true]) ∧ Below w.heap.size w w' := by
  have J := Lib.hid fun w => join_any q false w (by omega) (by omega)
  rw [← hv] at J
  clear hv
  unfold wv at J ⊢
  clear h0 h1
  have SX := Lib.hid h.sx
  have SY := Lib.hid h.sy
  have ZD := Lib.hid h.zd
  have OV := Lib.hid h.ov
  have ZR := Lib.hid h.zr
  have LS := Lib.hid h.ls
  have CM := Lib.hid h.cm
  clear h
  obtain ⟨KX, KY, KZ, HB⟩ := ent3 w #[.int .i64 (hiW x), .int .u64 (loW x)] 79 #[.int .i64 (hiW d), .int .u64 (loW d)] 79 #[.int .i64 0, .int .u64 0] 79
  go_enter Tryz.func105, Tryz.ntmps105
  go_wp2_with fail
  generalize ((w.alloc (.cells #[.int .i64 (hiW x), .int .u64 (loW x)] 79)).alloc (.cells #[.int .i64 (hiW d), .int .u64 (loW d)] 79)).alloc (.cells #[.int .i64 0, .int .u64 0] 79) = w0 at *
  refine (SX.out _).mono ?_
  rintro e1 w1 ⟨rfl, hb1⟩
  replace HB := hT HB hb1
  replace KX := hK KX hb1
  replace KY := hK KY hb1
  replace KZ := hK KZ hb1
  clear hb1
  obtain ⟨yY_0, yY_1, yY_z⟩ := blk2 KY
  go_wp2_with fail
  obtain ⟨KS, hb2⟩ := alB w1 #[.int .u64 (hiW (absW x)), .int .u64 (loW (absW x))] 153
  have hnS := HB.out.size
  have nzS_X := KX.out.lt
  have nzS_Y := KY.out.lt
  have nzS_Z := KZ.out.lt
  replace HB := hT HB hb2
  replace KX := hK KX hb2
  replace KY := hK KY hb2
  replace KZ := hK KZ hb2
  clear yY_0 yY_1 yY_z
  clear hb2
  generalize w1.alloc (.cells #[.int .u64 (hiW (absW x)), .int .u64 (loW (absW x))] 153) = w2 at *
  generalize w1.heap.size = bS at *
  have neS_X : bS ≠ w.heap.size := by omega
  have neS_Y : bS ≠ (w.heap.size + 1) := by omega
  have neS_Z : bS ≠ (w.heap.size + 1 + 1) := by omega
  clear nzS_X nzS_Y nzS_Z
  refine (SY.out _).mono ?_
  rintro e3 w3 ⟨rfl, hb3⟩
  replace HB := hT HB hb3
  replace KX := hK KX hb3
  replace KY := hK KY hb3
  replace KZ := hK KZ hb3
  replace KS := hK KS hb3
  clear hb3
  go_wp2_with fail
  obtain ⟨KD, hb4⟩ := alB w3 #[.int .u64 (hiW d), .int .u64 (loW d)] 153
  have hnD := HB.out.size
  have nzD_X := KX.out.lt
  have nzD_Y := KY.out.lt
  have nzD_Z := KZ.out.lt
  have nzD_S := KS.out.lt
  replace HB := hT HB hb4
  replace KX := hK KX hb4
  replace KY := hK KY hb4
  replace KZ := hK KZ hb4
  replace KS := hK KS hb4
  clear hb4
  generalize w3.alloc (.cells #[.int .u64 (hiW d), .int .u64 (loW d)] 153) = w4 at *
  generalize w3.heap.size = bD at *
  have neD_X : bD ≠ w.heap.size := by omega
  have neD_Y : bD ≠ (w.heap.size + 1) := by omega
  have neD_Z : bD ≠ (w.heap.size + 1 + 1) := by omega
  have neD_S : bD ≠ bS := by omega
  clear nzD_X nzD_Y nzD_Z nzD_S
  refine (ZD.out _).mono ?_
  rintro e5 w5 ⟨rfl, hb5⟩
  replace HB := hT HB hb5
  replace KX := hK KX hb5
  replace KY := hK KY hb5
  replace KZ := hK KZ hb5
  replace KS := hK KS hb5
  replace KD := hK KD hb5
  clear hb5
  obtain ⟨yS_0, yS_1, yS_z⟩ := blk2 KS
  obtain ⟨yD_0, yD_1, yD_z⟩ := blk2 KD
  go_wp2_with fail
  refine (OV.out _).mono ?_
  rintro e6 w6 ⟨rfl, hb6⟩
  replace HB := hT HB hb6
  replace KX := hK KX hb6
  replace KY := hK KY hb6
  replace KZ := hK KZ hb6
  replace KS := hK KS hb6
  replace KD := hK KD hb6
  clear yS_0 yS_1 yS_z yD_0 yD_1 yD_z
  clear hb6
  go_wp2_with fail
  have KQ := Lib.hid ((Blk.of (vs := #[.int .u64 (hiW q), .int .u64 (loW q)]) (t := 153) (w := w6) (b := w6.heap.size) rfl).alloc (.cells #[.int .u64 (hiW r), .int .u64 (loW r)] 153))
  have KR := Lib.hid (Blk.of (vs := #[.int .u64 (hiW r), .int .u64 (loW r)]) (t := 153) (w := w6.alloc (.cells #[.int .u64 (hiW q), .int .u64 (loW q)] 153)) (b := w6.heap.size + 1) (by simp))
  have hb7 : Below w6.heap.size w6 ((w6.alloc (.cells #[.int .u64 (hiW q), .int .u64 (loW q)] 153)).alloc (.cells #[.int .u64 (hiW r), .int .u64 (loW r)] 153)) := ((Below.refl _ _).alloc (Nat.le_refl _) _).alloc (by simp) _
  have hnQ := HB.out.size
  have nzQ_X := KX.out.lt
  have nzQ_Y := KY.out.lt
  have nzQ_Z := KZ.out.lt
  have nzQ_S := KS.out.lt
  have nzQ_D := KD.out.lt
  replace HB := hT HB hb7
  replace KX := hK KX hb7
  replace KY := hK KY hb7
  replace KZ := hK KZ hb7
  replace KS := hK KS hb7
  replace KD := hK KD hb7
  clear hb7
  generalize (w6.alloc (.cells #[.int .u64 (hiW q), .int .u64 (loW q)] 153)).alloc (.cells #[.int .u64 (hiW r), .int .u64 (loW r)] 153) = w7 at *
  generalize w6.heap.size = bQ at *
  have neQ_X : bQ ≠ w.heap.size := by omega
  have neR_X : bQ + 1 ≠ w.heap.size := by omega
  have neQ_Y : bQ ≠ (w.heap.size + 1) := by omega
  have neR_Y : bQ + 1 ≠ (w.heap.size + 1) := by omega
  have neQ_Z : bQ ≠ (w.heap.size + 1 + 1) := by omega
  have neR_Z : bQ + 1 ≠ (w.heap.size + 1 + 1) := by omega
  have neQ_S : bQ ≠ bS := by omega
  have neR_S : bQ + 1 ≠ bS := by omega
  have neQ_D : bQ ≠ bD := by omega
  have neR_D : bQ + 1 ≠ bD := by omega
  clear nzQ_X nzQ_Y nzQ_Z nzQ_S nzQ_D
  refine (ZR.out _).mono ?_
  rintro e8 w8 ⟨rfl, hb8⟩
  replace HB := hT HB hb8
  replace KX := hK KX hb8
  replace KY := hK KY hb8
  replace KZ := hK KZ hb8
  replace KS := hK KS hb8
  replace KD := hK KD hb8
  replace KQ := hK KQ hb8
  replace KR := hK KR hb8
  clear hb8
  obtain ⟨yQ_0, yQ_1, yQ_z, yQ_f0, yQ_f1⟩ := blf2 KQ
  go_wp2_with fail
  refine (J.out _).mono ?_
  rintro e9 w9 ⟨rfl, hb9⟩
  replace HB := hT HB hb9
  replace KX := hK KX hb9
  replace KY := hK KY hb9
  replace KZ := hK KZ hb9
  replace KS := hK KS hb9
  replace KD := hK KD hb9
  replace KQ := hK KQ hb9
  replace KR := hK KR hb9
  clear yQ_0 yQ_1 yQ_z yQ_f0 yQ_f1
  clear hb9
  obtain ⟨yZ_0, yZ_1, yZ_z, yZ_f0, yZ_f1⟩ := blf2 KZ
  go_wp2
  have hs := st2 w9 (w.heap.size + 1 + 1) 0 (.int .i64 (hiW v)) 1 (.int .u64 (loW v))
  replace KX := oB hs KX (by omega)
  replace KY := oB hs KY (by omega)
  replace KZ := Lib.hid (blk_set (blk_set KZ.out (j := 0) (by simp) (.int .i64 (hiW v))) (j := 1) (by simp) (.int .u64 (loW v)))
  replace KS := oB hs KS (by omega)
  replace KD := oB hs KD (by omega)
  replace KQ := oB hs KQ (by omega)
  replace KR := oB hs KR (by omega)
  replace HB := oH hs HB (by omega)
  clear hs
  clear yZ_0 yZ_1 yZ_z yZ_f0 yZ_f1
  generalize (w9.setCell ⟨(w.heap.size + 1 + 1), 0, none⟩ (.int .i64 (hiW v))).setCell ⟨(w.heap.size + 1 + 1), 1, none⟩ (.int .u64 (loW v)) = w10 at *
  simp only [List.set] at KZ
  obtain ⟨yZ_0, yZ_1, yZ_z⟩ := blk2 KZ
  refine bodyPost_ret (v := .tuple #[.agg #[.int .i64 (hiW v), .int .u64 (loW v)], .bool true]) (by simp [results, Tryz.results105, go_sem, yZ_0, yZ_1]) rfl ⟨rfl, HB.out⟩
set_option maxHeartbeats 8000000 in
set_option maxRecDepth 100000 in
theorem div_path1 (x d q r v : Int) (c : Int) (w : World) (h : DivW x d false false q r c) (h0 : 0 ≤ q) (h1 : q < 85070591730234615865843651857942052864) (hv : v = sgn false (q + 1)) :
    Calls Tryz.prog 105 #[wv x, wv d, .int .i64 1] w fun e w' => e = .returned (.tuple #[wv v, .bool true]) ∧ Below w.heap.size w w' := by
  have J := Lib.hid fun w => join_any (q + 1) false w (by omega) (by omega)
  rw [← hv] at J
  clear hv
  unfold wv at J ⊢
  have S1 := fun w => add64 (loW q) 1 0 (by unfold loW; omega) (by omega) (by omega) (by omega) w
  have I1 := inc_hi h0 h1
  have I2 := inc_lo q
  rw [I2] at S1
  generalize (loW q + 1 + 0) / 18446744073709551616 = cc at *
  clear h0 h1
  have SX := Lib.hid h.sx
  have SY := Lib.hid h.sy
  have ZD := Lib.hid h.zd
  have OV := Lib.hid h.ov
  have ZR := Lib.hid h.zr
  have LS := Lib.hid h.ls
  have CM := Lib.hid h.cm
  clear h
  obtain ⟨KX, KY, KZ, HB⟩ := ent3 w #[.int .i64 (hiW x), .int .u64 (loW x)] 79 #[.int .i64 (hiW d), .int .u64 (loW d)] 79 #[.int .i64 0, .int .u64 0] 79
  go_enter Tryz.func105, Tryz.ntmps105
  go_wp2_with fail
  generalize ((w.alloc (.cells #[.int .i64 (hiW x), .int .u64 (loW x)] 79)).alloc (.cells #[.int .i64 (hiW d), .int .u64 (loW d)] 79)).alloc (.cells #[.int .i64 0, .int .u64 0] 79) = w0 at *
  refine (SX.out _).mono ?_
  rintro e1 w1 ⟨rfl, hb1⟩
  replace HB := hT HB hb1
  replace KX := hK KX hb1
  replace KY := hK KY hb1
  replace KZ := hK KZ hb1
  clear hb1
  obtain ⟨yY_0, yY_1, yY_z⟩ := blk2 KY
  go_wp2_with fail
  obtain ⟨KS, hb2⟩ := alB w1 #[.int .u64 (hiW (absW x)), .int .u64 (loW (absW x))] 153
  have hnS := HB.out.size
  have nzS_X := KX.out.lt
  have nzS_Y := KY.out.lt
  have nzS_Z := KZ.out.lt
  replace HB := hT HB hb2
  replace KX := hK KX hb2
  replace KY := hK KY hb2
  replace KZ := hK KZ hb2
  clear yY_0 yY_1 yY_z
  clear hb2
  generalize w1.alloc (.cells #[.int .u64 (hiW (absW x)), .int .u64 (loW (absW x))] 153) = w2 at *
  generalize w1.heap.size = bS at *
  have neS_X : bS ≠ w.heap.size := by omega
  have neS_Y : bS ≠ (w.heap.size + 1) := by omega
  have neS_Z : bS ≠ (w.heap.size + 1 + 1) := by omega
  clear nzS_X nzS_Y nzS_Z
  refine (SY.out _).mono ?_
  rintro e3 w3 ⟨rfl, hb3⟩
  replace HB := hT HB hb3
  replace KX := hK KX hb3
  replace KY := hK KY hb3
  replace KZ := hK KZ hb3
  replace KS := hK KS hb3
  clear hb3
  go_wp2_with fail
  obtain ⟨KD, hb4⟩ := alB w3 #[.int .u64 (hiW d), .int .u64 (loW d)] 153
  have hnD := HB.out.size
  have nzD_X := KX.out.lt
  have nzD_Y := KY.out.lt
  have nzD_Z := KZ.out.lt
  have nzD_S := KS.out.lt
  replace HB := hT HB hb4
  replace KX := hK KX hb4
  replace KY := hK KY hb4
  replace KZ := hK KZ hb4
  replace KS := hK KS hb4
  clear hb4
  generalize w3.alloc (.cells #[.int .u64 (hiW d), .int .u64 (loW d)] 153) = w4 at *
  generalize w3.heap.size = bD at *
  have neD_X : bD ≠ w.heap.size := by omega
  have neD_Y : bD ≠ (w.heap.size + 1) := by omega
  have neD_Z : bD ≠ (w.heap.size + 1 + 1) := by omega
  have neD_S : bD ≠ bS := by omega
  clear nzD_X nzD_Y nzD_Z nzD_S
  refine (ZD.out _).mono ?_
  rintro e5 w5 ⟨rfl, hb5⟩
  replace HB := hT HB hb5
  replace KX := hK KX hb5
  replace KY := hK KY hb5
  replace KZ := hK KZ hb5
  replace KS := hK KS hb5
  replace KD := hK KD hb5
  clear hb5
  obtain ⟨yS_0, yS_1, yS_z⟩ := blk2 KS
  obtain ⟨yD_0, yD_1, yD_z⟩ := blk2 KD
  go_wp2_with fail
  refine (OV.out _).mono ?_
  rintro e6 w6 ⟨rfl, hb6⟩
  replace HB := hT HB hb6
  replace KX := hK KX hb6
  replace KY := hK KY hb6
  replace KZ := hK KZ hb6
  replace KS := hK KS hb6
  replace KD := hK KD hb6
  clear yS_0 yS_1 yS_z yD_0 yD_1 yD_z
  clear hb6
  go_wp2_with fail
  have KQ := Lib.hid ((Blk.of (vs := #[.int .u64 (hiW q), .int .u64 (loW q)]) (t := 153) (w := w6) (b := w6.heap.size) rfl).alloc (.cells #[.int .u64 (hiW r), .int .u64 (loW r)] 153))
  have KR := Lib.hid (Blk.of (vs := #[.int .u64 (hiW r), .int .u64 (loW r)]) (t := 153) (w := w6.alloc (.cells #[.int .u64 (hiW q), .int .u64 (loW q)] 153)) (b := w6.heap.size + 1) (by simp))
  have hb7 : Below w6.heap.size w6 ((w6.alloc (.cells #[.int .u64 (hiW q), .int .u64 (loW q)] 153)).alloc (.cells #[.int .u64 (hiW r), .int .u64 (loW r)] 153)) := ((Below.refl _ _).alloc (Nat.le_refl _) _).alloc (by simp) _
  have hnQ := HB.out.size
  have nzQ_X := KX.out.lt
  have nzQ_Y := KY.out.lt
  have nzQ_Z := KZ.out.lt
  have nzQ_S := KS.out.lt
  have nzQ_D := KD.out.lt
  replace HB := hT HB hb7
  replace KX := hK KX hb7
  replace KY := hK KY hb7
  replace KZ := hK KZ hb7
  replace KS := hK KS hb7
  replace KD := hK KD hb7
  clear hb7
  generalize (w6.alloc (.cells #[.int .u64 (hiW q), .int .u64 (loW q)] 153)).alloc (.cells #[.int .u64 (hiW r), .int .u64 (loW r)] 153) = w7 at *
  generalize w6.heap.size = bQ at *
  have neQ_X : bQ ≠ w.heap.size := by omega
  have neR_X : bQ + 1 ≠ w.heap.size := by omega
  have neQ_Y : bQ ≠ (w.heap.size + 1) := by omega
  have neR_Y : bQ + 1 ≠ (w.heap.size + 1) := by omega
  have neQ_Z : bQ ≠ (w.heap.size + 1 + 1) := by omega
  have neR_Z : bQ + 1 ≠ (w.heap.size + 1 + 1) := by omega
  have neQ_S : bQ ≠ bS := by omega
  have neR_S : bQ + 1 ≠ bS := by omega
  have neQ_D : bQ ≠ bD := by omega
  have neR_D : bQ + 1 ≠ bD := by omega
  clear nzQ_X nzQ_Y nzQ_Z nzQ_S nzQ_D
  refine (ZR.out _).mono ?_
  rintro e8 w8 ⟨rfl, hb8⟩
  replace HB := hT HB hb8
  replace KX := hK KX hb8
  replace KY := hK KY hb8
  replace KZ := hK KZ hb8
  replace KS := hK KS hb8
  replace KD := hK KD hb8
  replace KQ := hK KQ hb8
  replace KR := hK KR hb8
  clear hb8
  obtain ⟨yQ_0, yQ_1, yQ_z, yQ_f0, yQ_f1⟩ := blf2 KQ
  go_wp2_with fail
  have hs := st2 w8 bQ 0 (.int .u64 (hiW (q + 1))) 1 (.int .u64 (loW (q + 1)))
  replace KX := oB hs KX (by omega)
  replace KY := oB hs KY (by omega)
  replace KZ := oB hs KZ (by omega)
  replace KS := oB hs KS (by omega)
  replace KD := oB hs KD (by omega)
  replace KQ := Lib.hid (blk_set (blk_set KQ.out (j := 0) (by simp) (.int .u64 (hiW (q + 1)))) (j := 1) (by simp) (.int .u64 (loW (q + 1))))
  replace KR := oB hs KR (by omega)
  replace HB := oH hs HB (by omega)
  clear hs
  clear yQ_0 yQ_1 yQ_z yQ_f0 yQ_f1
  generalize (w8.setCell ⟨bQ, 0, none⟩ (.int .u64 (hiW (q + 1)))).setCell ⟨bQ, 1, none⟩ (.int .u64 (loW (q + 1))) = w9 at *
  simp only [List.set] at KQ
  refine (J.out _).mono ?_
  rintro e10 w10 ⟨rfl, hb10⟩
  replace HB := hT HB hb10
  replace KX := hK KX hb10
  replace KY := hK KY hb10
  replace KZ := hK KZ hb10
  replace KS := hK KS hb10
  replace KD := hK KD hb10
  replace KQ := hK KQ hb10
  replace KR := hK KR hb10
  clear hb10
  obtain ⟨yZ_0, yZ_1, yZ_z, yZ_f0, yZ_f1⟩ := blf2 KZ
  go_wp2
  have hs := st2 w10 (w.heap.size + 1 + 1) 0 (.int .i64 (hiW v)) 1 (.int .u64 (loW v))
  replace KX := oB hs KX (by omega)
  replace KY := oB hs KY (by omega)
  replace KZ := Lib.hid (blk_set (blk_set KZ.out (j := 0) (by simp) (.int .i64 (hiW v))) (j := 1) (by simp) (.int .u64 (loW v)))
  replace KS := oB hs KS (by omega)
  replace KD := oB hs KD (by omega)
  replace KQ := oB hs KQ (by omega)
  replace KR := oB hs KR (by omega)
  replace HB := oH hs HB (by omega)
  clear hs
  clear yZ_0 yZ_1 yZ_z yZ_f0 yZ_f1
  generalize (w10.setCell ⟨(w.heap.size + 1 + 1), 0, none⟩ (.int .i64 (hiW v))).setCell ⟨(w.heap.size + 1 + 1), 1, none⟩ (.int .u64 (loW v)) = w11 at *
  simp only [List.set] at KZ
  obtain ⟨yZ_0, yZ_1, yZ_z⟩ := blk2 KZ
  refine bodyPost_ret (v := .tuple #[.agg #[.int .i64 (hiW v), .int .u64 (loW v)], .bool true]) (by simp [results, Tryz.results105, go_sem, yZ_0, yZ_1]) rfl ⟨rfl, HB.out⟩
set_option maxHeartbeats 8000000 in
set_option maxRecDepth 100000 in
theorem div_path2 (x d q r v : Int) (w : World) (h : DivW x d false true q r (-1)) (h0 : 0 ≤ q) (h1 : q < 85070591730234615865843651857942052864) (hv : v = sgn false q) :
    Calls Tryz.prog 105 #[wv x, wv d, .int .i64 0] w fun e w' => e = .returned (.tuple #[wv v, .bool true]) ∧ Below w.heap.size w w' := by
  have J := Lib.hid fun w => join_any q false w (by omega) (by omega)
  rw [← hv] at J
  clear hv
  unfold wv at J ⊢
  clear h0 h1
  have SX := Lib.hid h.sx
  have SY := Lib.hid h.sy
  have ZD := Lib.hid h.zd
  have OV := Lib.hid h.ov
  have ZR := Lib.hid h.zr
  have LS := Lib.hid h.ls
  have CM := Lib.hid h.cm
  clear h
  obtain ⟨KX, KY, KZ, HB⟩ := ent3 w #[.int .i64 (hiW x), .int .u64 (loW x)] 79 #[.int .i64 (hiW d), .int .u64 (loW d)] 79 #[.int .i64 0, .int .u64 0] 79
  go_enter Tryz.func105, Tryz.ntmps105
  go_wp2_with fail
  generalize ((w.alloc (.cells #[.int .i64 (hiW x), .int .u64 (loW x)] 79)).alloc (.cells #[.int .i64 (hiW d), .int .u64 (loW d)] 79)).alloc (.cells #[.int .i64 0, .int .u64 0] 79) = w0 at *
  refine (SX.out _).mono ?_
  rintro e1 w1 ⟨rfl, hb1⟩
  replace HB := hT HB hb1
  replace KX := hK KX hb1
  replace KY := hK KY hb1
  replace KZ := hK KZ hb1
  clear hb1
  obtain ⟨yY_0, yY_1, yY_z⟩ := blk2 KY
  go_wp2_with fail
  obtain ⟨KS, hb2⟩ := alB w1 #[.int .u64 (hiW (absW x)), .int .u64 (loW (absW x))] 153
  have hnS := HB.out.size
  have nzS_X := KX.out.lt
  have nzS_Y := KY.out.lt
  have nzS_Z := KZ.out.lt
  replace HB := hT HB hb2
  replace KX := hK KX hb2
  replace KY := hK KY hb2
  replace KZ := hK KZ hb2
  clear yY_0 yY_1 yY_z
  clear hb2
  generalize w1.alloc (.cells #[.int .u64 (hiW (absW x)), .int .u64 (loW (absW x))] 153) = w2 at *
  generalize w1.heap.size = bS at *
  have neS_X : bS ≠ w.heap.size := by omega
  have neS_Y : bS ≠ (w.heap.size + 1) := by omega
  have neS_Z : bS ≠ (w.heap.size + 1 + 1) := by omega
  clear nzS_X nzS_Y nzS_Z
  refine (SY.out _).mono ?_
  rintro e3 w3 ⟨rfl, hb3⟩
  replace HB := hT HB hb3
  replace KX := hK KX hb3
  replace KY := hK KY hb3
  replace KZ := hK KZ hb3
  replace KS := hK KS hb3
  clear hb3
  go_wp2_with fail
  obtain ⟨KD, hb4⟩ := alB w3 #[.int .u64 (hiW d), .int .u64 (loW d)] 153
  have hnD := HB.out.size
  have nzD_X := KX.out.lt
  have nzD_Y := KY.out.lt
  have nzD_Z := KZ.out.lt
  have nzD_S := KS.out.lt
  replace HB := hT HB hb4
  replace KX := hK KX hb4
  replace KY := hK KY hb4
  replace KZ := hK KZ hb4
  replace KS := hK KS hb4
  clear hb4
  generalize w3.alloc (.cells #[.int .u64 (hiW d), .int .u64 (loW d)] 153) = w4 at *
  generalize w3.heap.size = bD at *
  have neD_X : bD ≠ w.heap.size := by omega
  have neD_Y : bD ≠ (w.heap.size + 1) := by omega
  have neD_Z : bD ≠ (w.heap.size + 1 + 1) := by omega
  have neD_S : bD ≠ bS := by omega
  clear nzD_X nzD_Y nzD_Z nzD_S
  refine (ZD.out _).mono ?_
  rintro e5 w5 ⟨rfl, hb5⟩
  replace HB := hT HB hb5
  replace KX := hK KX hb5
  replace KY := hK KY hb5
  replace KZ := hK KZ hb5
  replace KS := hK KS hb5
  replace KD := hK KD hb5
  clear hb5
  obtain ⟨yS_0, yS_1, yS_z⟩ := blk2 KS
  obtain ⟨yD_0, yD_1, yD_z⟩ := blk2 KD
  go_wp2_with fail
  refine (OV.out _).mono ?_
  rintro e6 w6 ⟨rfl, hb6⟩
  replace HB := hT HB hb6
  replace KX := hK KX hb6
  replace KY := hK KY hb6
  replace KZ := hK KZ hb6
  replace KS := hK KS hb6
  replace KD := hK KD hb6
  clear yS_0 yS_1 yS_z yD_0 yD_1 yD_z
  clear hb6
  go_wp2_with fail
  have KQ := Lib.hid ((Blk.of (vs := #[.int .u64 (hiW q), .int .u64 (loW q)]) (t := 153) (w := w6) (b := w6.heap.size) rfl).alloc (.cells #[.int .u64 (hiW r), .int .u64 (loW r)] 153))
  have KR := Lib.hid (Blk.of (vs := #[.int .u64 (hiW r), .int .u64 (loW r)]) (t := 153) (w := w6.alloc (.cells #[.int .u64 (hiW q), .int .u64 (loW q)] 153)) (b := w6.heap.size + 1) (by simp))
  have hb7 : Below w6.heap.size w6 ((w6.alloc (.cells #[.int .u64 (hiW q), .int .u64 (loW q)] 153)).alloc (.cells #[.int .u64 (hiW r), .int .u64 (loW r)] 153)) := ((Below.refl _ _).alloc (Nat.le_refl _) _).alloc (by simp) _
  have hnQ := HB.out.size
  have nzQ_X := KX.out.lt
  have nzQ_Y := KY.out.lt
  have nzQ_Z := KZ.out.lt
  have nzQ_S := KS.out.lt
  have nzQ_D := KD.out.lt
  replace HB := hT HB hb7
  replace KX := hK KX hb7
  replace KY := hK KY hb7
  replace KZ := hK KZ hb7
  replace KS := hK KS hb7
  replace KD := hK KD hb7
  clear hb7
  generalize (w6.alloc (.cells #[.int .u64 (hiW q), .int .u64 (loW q)] 153)).alloc (.cells #[.int .u64 (hiW r), .int .u64 (loW r)] 153) = w7 at *
  generalize w6.heap.size = bQ at *
  have neQ_X : bQ ≠ w.heap.size := by omega
  have neR_X : bQ + 1 ≠ w.heap.size := by omega
  have neQ_Y : bQ ≠ (w.heap.size + 1) := by omega
  have neR_Y : bQ + 1 ≠ (w.heap.size + 1) := by omega
  have neQ_Z : bQ ≠ (w.heap.size + 1 + 1) := by omega
  have neR_Z : bQ + 1 ≠ (w.heap.size + 1 + 1) := by omega
  have neQ_S : bQ ≠ bS := by omega
  have neR_S : bQ + 1 ≠ bS := by omega
  have neQ_D : bQ ≠ bD := by omega
  have neR_D : bQ + 1 ≠ bD := by omega
  clear nzQ_X nzQ_Y nzQ_Z nzQ_S nzQ_D
  refine (ZR.out _).mono ?_
  rintro e8 w8 ⟨rfl, hb8⟩
  replace HB := hT HB hb8
  replace KX := hK KX hb8
  replace KY := hK KY hb8
  replace KZ := hK KZ hb8
  replace KS := hK KS hb8
  replace KD := hK KD hb8
  replace KQ := hK KQ hb8
  replace KR := hK KR hb8
  clear hb8
  go_wp2_with fail
  skip
  have gR_0 := fun d os => cell_regrown (KR.out.c 0 _ rfl) d os
  have gR_1 := fun d os => cell_regrown (KR.out.c 1 _ rfl) d os
  have gD_0 := fun d os => cell_regrown (KD.out.c 0 _ rfl) d os
  have gD_1 := fun d os => cell_regrown (KD.out.c 1 _ rfl) d os
  have rv0 := Lib.hid (fun d os => Calls.regrown_of (LS.out (Go.Sort.grow (redrawn w8 d) os)))
  have rv1 := Lib.hid (fun d os => Calls.regrown_of (CM.out (Go.Sort.grow (redrawn w8 d) os)))
  refine wp_region_quiet_below (by kernel_rfl) (by kernel_rfl) ?_
  repeat (quiet_step (first | with_reducible exact rv0.out _ _ | with_reducible exact rv1.out _ _))
  refine wpQuiet_nil ?_
  intro w9 hw9
  have hb9 : Below w8.heap.size w8 w9 := by
    obtain ⟨⟨dq, osq⟩, hw2⟩ := hw9
    rw [hw2]; exact below_regrown _ dq osq
  clear gR_0 gR_1 gD_0 gD_1 rv0 rv1 hw9
  replace HB := hT HB hb9
  replace KX := hK KX hb9
  replace KY := hK KY hb9
  replace KZ := hK KZ hb9
  replace KS := hK KS hb9
  replace KD := hK KD hb9
  replace KQ := hK KQ hb9
  replace KR := hK KR hb9
  clear hb9
  obtain ⟨yQ_0, yQ_1, yQ_z, yQ_f0, yQ_f1⟩ := blf2 KQ
  go_wp2_with fail
  refine (J.out _).mono ?_
  rintro e10 w10 ⟨rfl, hb10⟩
  replace HB := hT HB hb10
  replace KX := hK KX hb10
  replace KY := hK KY hb10
  replace KZ := hK KZ hb10
  replace KS := hK KS hb10
  replace KD := hK KD hb10
  replace KQ := hK KQ hb10
  replace KR := hK KR hb10
  clear yQ_0 yQ_1 yQ_z yQ_f0 yQ_f1
  clear hb10
  obtain ⟨yZ_0, yZ_1, yZ_z, yZ_f0, yZ_f1⟩ := blf2 KZ
  go_wp2
  have hs := st2 w10 (w.heap.size + 1 + 1) 0 (.int .i64 (hiW v)) 1 (.int .u64 (loW v))
  replace KX := oB hs KX (by omega)
  replace KY := oB hs KY (by omega)
  replace KZ := Lib.hid (blk_set (blk_set KZ.out (j := 0) (by simp) (.int .i64 (hiW v))) (j := 1) (by simp) (.int .u64 (loW v)))
  replace KS := oB hs KS (by omega)
  replace KD := oB hs KD (by omega)
  replace KQ := oB hs KQ (by omega)
  replace KR := oB hs KR (by omega)
  replace HB := oH hs HB (by omega)
  clear hs
  clear yZ_0 yZ_1 yZ_z yZ_f0 yZ_f1
  generalize (w10.setCell ⟨(w.heap.size + 1 + 1), 0, none⟩ (.int .i64 (hiW v))).setCell ⟨(w.heap.size + 1 + 1), 1, none⟩ (.int .u64 (loW v)) = w11 at *
  simp only [List.set] at KZ
  obtain ⟨yZ_0, yZ_1, yZ_z⟩ := blk2 KZ
  refine bodyPost_ret (v := .tuple #[.agg #[.int .i64 (hiW v), .int .u64 (loW v)], .bool true]) (by simp [results, Tryz.results105, go_sem, yZ_0, yZ_1]) rfl ⟨rfl, HB.out⟩
set_option maxHeartbeats 8000000 in
set_option maxRecDepth 100000 in
theorem div_path3 (x d q r v : Int) (w : World) (h : DivW x d false false q r (-1)) (h0 : 0 ≤ q) (h1 : q < 85070591730234615865843651857942052864) (hv : v = sgn false q) :
    Calls Tryz.prog 105 #[wv x, wv d, .int .i64 0] w fun e w' => e = .returned (.tuple #[wv v, .bool true]) ∧ Below w.heap.size w w' := by
  have J := Lib.hid fun w => join_any q false w (by omega) (by omega)
  rw [← hv] at J
  clear hv
  unfold wv at J ⊢
  clear h0 h1
  have SX := Lib.hid h.sx
  have SY := Lib.hid h.sy
  have ZD := Lib.hid h.zd
  have OV := Lib.hid h.ov
  have ZR := Lib.hid h.zr
  have LS := Lib.hid h.ls
  have CM := Lib.hid h.cm
  clear h
  obtain ⟨KX, KY, KZ, HB⟩ := ent3 w #[.int .i64 (hiW x), .int .u64 (loW x)] 79 #[.int .i64 (hiW d), .int .u64 (loW d)] 79 #[.int .i64 0, .int .u64 0] 79
  go_enter Tryz.func105, Tryz.ntmps105
  go_wp2_with fail
  generalize ((w.alloc (.cells #[.int .i64 (hiW x), .int .u64 (loW x)] 79)).alloc (.cells #[.int .i64 (hiW d), .int .u64 (loW d)] 79)).alloc (.cells #[.int .i64 0, .int .u64 0] 79) = w0 at *
  refine (SX.out _).mono ?_
  rintro e1 w1 ⟨rfl, hb1⟩
  replace HB := hT HB hb1
  replace KX := hK KX hb1
  replace KY := hK KY hb1
  replace KZ := hK KZ hb1
  clear hb1
  obtain ⟨yY_0, yY_1, yY_z⟩ := blk2 KY
  go_wp2_with fail
  obtain ⟨KS, hb2⟩ := alB w1 #[.int .u64 (hiW (absW x)), .int .u64 (loW (absW x))] 153
  have hnS := HB.out.size
  have nzS_X := KX.out.lt
  have nzS_Y := KY.out.lt
  have nzS_Z := KZ.out.lt
  replace HB := hT HB hb2
  replace KX := hK KX hb2
  replace KY := hK KY hb2
  replace KZ := hK KZ hb2
  clear yY_0 yY_1 yY_z
  clear hb2
  generalize w1.alloc (.cells #[.int .u64 (hiW (absW x)), .int .u64 (loW (absW x))] 153) = w2 at *
  generalize w1.heap.size = bS at *
  have neS_X : bS ≠ w.heap.size := by omega
  have neS_Y : bS ≠ (w.heap.size + 1) := by omega
  have neS_Z : bS ≠ (w.heap.size + 1 + 1) := by omega
  clear nzS_X nzS_Y nzS_Z
  refine (SY.out _).mono ?_
  rintro e3 w3 ⟨rfl, hb3⟩
  replace HB := hT HB hb3
  replace KX := hK KX hb3
  replace KY := hK KY hb3
  replace KZ := hK KZ hb3
  replace KS := hK KS hb3
  clear hb3
  go_wp2_with fail
  obtain ⟨KD, hb4⟩ := alB w3 #[.int .u64 (hiW d), .int .u64 (loW d)] 153
  have hnD := HB.out.size
  have nzD_X := KX.out.lt
  have nzD_Y := KY.out.lt
  have nzD_Z := KZ.out.lt
  have nzD_S := KS.out.lt
  replace HB := hT HB hb4
  replace KX := hK KX hb4
  replace KY := hK KY hb4
  replace KZ := hK KZ hb4
  replace KS := hK KS hb4
  clear hb4
  generalize w3.alloc (.cells #[.int .u64 (hiW d), .int .u64 (loW d)] 153) = w4 at *
  generalize w3.heap.size = bD at *
  have neD_X : bD ≠ w.heap.size := by omega
  have neD_Y : bD ≠ (w.heap.size + 1) := by omega
  have neD_Z : bD ≠ (w.heap.size + 1 + 1) := by omega
  have neD_S : bD ≠ bS := by omega
  clear nzD_X nzD_Y nzD_Z nzD_S
  refine (ZD.out _).mono ?_
  rintro e5 w5 ⟨rfl, hb5⟩
  replace HB := hT HB hb5
  replace KX := hK KX hb5
  replace KY := hK KY hb5
  replace KZ := hK KZ hb5
  replace KS := hK KS hb5
  replace KD := hK KD hb5
  clear hb5
  obtain ⟨yS_0, yS_1, yS_z⟩ := blk2 KS
  obtain ⟨yD_0, yD_1, yD_z⟩ := blk2 KD
  go_wp2_with fail
  refine (OV.out _).mono ?_
  rintro e6 w6 ⟨rfl, hb6⟩
  replace HB := hT HB hb6
  replace KX := hK KX hb6
  replace KY := hK KY hb6
  replace KZ := hK KZ hb6
  replace KS := hK KS hb6
  replace KD := hK KD hb6
  clear yS_0 yS_1 yS_z yD_0 yD_1 yD_z
  clear hb6
  go_wp2_with fail
  have KQ := Lib.hid ((Blk.of (vs := #[.int .u64 (hiW q), .int .u64 (loW q)]) (t := 153) (w := w6) (b := w6.heap.size) rfl).alloc (.cells #[.int .u64 (hiW r), .int .u64 (loW r)] 153))
  have KR := Lib.hid (Blk.of (vs := #[.int .u64 (hiW r), .int .u64 (loW r)]) (t := 153) (w := w6.alloc (.cells #[.int .u64 (hiW q), .int .u64 (loW q)] 153)) (b := w6.heap.size + 1) (by simp))
  have hb7 : Below w6.heap.size w6 ((w6.alloc (.cells #[.int .u64 (hiW q), .int .u64 (loW q)] 153)).alloc (.cells #[.int .u64 (hiW r), .int .u64 (loW r)] 153)) := ((Below.refl _ _).alloc (Nat.le_refl _) _).alloc (by simp) _
  have hnQ := HB.out.size
  have nzQ_X := KX.out.lt
  have nzQ_Y := KY.out.lt
  have nzQ_Z := KZ.out.lt
  have nzQ_S := KS.out.lt
  have nzQ_D := KD.out.lt
  replace HB := hT HB hb7
  replace KX := hK KX hb7
  replace KY := hK KY hb7
  replace KZ := hK KZ hb7
  replace KS := hK KS hb7
  replace KD := hK KD hb7
  clear hb7
  generalize (w6.alloc (.cells #[.int .u64 (hiW q), .int .u64 (loW q)] 153)).alloc (.cells #[.int .u64 (hiW r), .int .u64 (loW r)] 153) = w7 at *
  generalize w6.heap.size = bQ at *
  have neQ_X : bQ ≠ w.heap.size := by omega
  have neR_X : bQ + 1 ≠ w.heap.size := by omega
  have neQ_Y : bQ ≠ (w.heap.size + 1) := by omega
  have neR_Y : bQ + 1 ≠ (w.heap.size + 1) := by omega
  have neQ_Z : bQ ≠ (w.heap.size + 1 + 1) := by omega
  have neR_Z : bQ + 1 ≠ (w.heap.size + 1 + 1) := by omega
  have neQ_S : bQ ≠ bS := by omega
  have neR_S : bQ + 1 ≠ bS := by omega
  have neQ_D : bQ ≠ bD := by omega
  have neR_D : bQ + 1 ≠ bD := by omega
  clear nzQ_X nzQ_Y nzQ_Z nzQ_S nzQ_D
  refine (ZR.out _).mono ?_
  rintro e8 w8 ⟨rfl, hb8⟩
  replace HB := hT HB hb8
  replace KX := hK KX hb8
  replace KY := hK KY hb8
  replace KZ := hK KZ hb8
  replace KS := hK KS hb8
  replace KD := hK KD hb8
  replace KQ := hK KQ hb8
  replace KR := hK KR hb8
  clear hb8
  go_wp2_with fail
  skip
  have gR_0 := fun d os => cell_regrown (KR.out.c 0 _ rfl) d os
  have gR_1 := fun d os => cell_regrown (KR.out.c 1 _ rfl) d os
  have gD_0 := fun d os => cell_regrown (KD.out.c 0 _ rfl) d os
  have gD_1 := fun d os => cell_regrown (KD.out.c 1 _ rfl) d os
  have rv0 := Lib.hid (fun d os => Calls.regrown_of (LS.out (Go.Sort.grow (redrawn w8 d) os)))
  have rv1 := Lib.hid (fun d os => Calls.regrown_of (CM.out (Go.Sort.grow (redrawn w8 d) os)))
  refine wp_region_quiet_below (by kernel_rfl) (by kernel_rfl) ?_
  repeat (quiet_step (first | with_reducible exact rv0.out _ _ | with_reducible exact rv1.out _ _))
  refine wpQuiet_nil ?_
  intro w9 hw9
  have hb9 : Below w8.heap.size w8 w9 := by
    obtain ⟨⟨dq, osq⟩, hw2⟩ := hw9
    rw [hw2]; exact below_regrown _ dq osq
  clear gR_0 gR_1 gD_0 gD_1 rv0 rv1 hw9
  replace HB := hT HB hb9
  replace KX := hK KX hb9
  replace KY := hK KY hb9
  replace KZ := hK KZ hb9
  replace KS := hK KS hb9
  replace KD := hK KD hb9
  replace KQ := hK KQ hb9
  replace KR := hK KR hb9
  clear hb9
  obtain ⟨yQ_0, yQ_1, yQ_z, yQ_f0, yQ_f1⟩ := blf2 KQ
  go_wp2_with fail
  refine (J.out _).mono ?_
  rintro e10 w10 ⟨rfl, hb10⟩
  replace HB := hT HB hb10
  replace KX := hK KX hb10
  replace KY := hK KY hb10
  replace KZ := hK KZ hb10
  replace KS := hK KS hb10
  replace KD := hK KD hb10
  replace KQ := hK KQ hb10
  replace KR := hK KR hb10
  clear yQ_0 yQ_1 yQ_z yQ_f0 yQ_f1
  clear hb10
  obtain ⟨yZ_0, yZ_1, yZ_z, yZ_f0, yZ_f1⟩ := blf2 KZ
  go_wp2
  have hs := st2 w10 (w.heap.size + 1 + 1) 0 (.int .i64 (hiW v)) 1 (.int .u64 (loW v))
  replace KX := oB hs KX (by omega)
  replace KY := oB hs KY (by omega)
  replace KZ := Lib.hid (blk_set (blk_set KZ.out (j := 0) (by simp) (.int .i64 (hiW v))) (j := 1) (by simp) (.int .u64 (loW v)))
  replace KS := oB hs KS (by omega)
  replace KD := oB hs KD (by omega)
  replace KQ := oB hs KQ (by omega)
  replace KR := oB hs KR (by omega)
  replace HB := oH hs HB (by omega)
  clear hs
  clear yZ_0 yZ_1 yZ_z yZ_f0 yZ_f1
  generalize (w10.setCell ⟨(w.heap.size + 1 + 1), 0, none⟩ (.int .i64 (hiW v))).setCell ⟨(w.heap.size + 1 + 1), 1, none⟩ (.int .u64 (loW v)) = w11 at *
  simp only [List.set] at KZ
  obtain ⟨yZ_0, yZ_1, yZ_z⟩ := blk2 KZ
  refine bodyPost_ret (v := .tuple #[.agg #[.int .i64 (hiW v), .int .u64 (loW v)], .bool true]) (by simp [results, Tryz.results105, go_sem, yZ_0, yZ_1]) rfl ⟨rfl, HB.out⟩
set_option maxHeartbeats 8000000 in
set_option maxRecDepth 100000 in
theorem div_path4 (x d q r v : Int) (w : World) (h : DivW x d false false q r 0) (h0 : 0 ≤ q) (h1 : q < 85070591730234615865843651857942052864) (hv : v = sgn false (q + 1)) :
    Calls Tryz.prog 105 #[wv x, wv d, .int .i64 0] w fun e w' => e = .returned (.tuple #[wv v, .bool true]) ∧ Below w.heap.size w w' := by
  have J := Lib.hid fun w => join_any (q + 1) false w (by omega) (by omega)
  rw [← hv] at J
  clear hv
  unfold wv at J ⊢
  have S1 := fun w => add64 (loW q) 1 0 (by unfold loW; omega) (by omega) (by omega) (by omega) w
  have I1 := inc_hi h0 h1
  have I2 := inc_lo q
  rw [I2] at S1
  generalize (loW q + 1 + 0) / 18446744073709551616 = cc at *
  clear h0 h1
  have SX := Lib.hid h.sx
  have SY := Lib.hid h.sy
  have ZD := Lib.hid h.zd
  have OV := Lib.hid h.ov
  have ZR := Lib.hid h.zr
  have LS := Lib.hid h.ls
  have CM := Lib.hid h.cm
  clear h
  obtain ⟨KX, KY, KZ, HB⟩ := ent3 w #[.int .i64 (hiW x), .int .u64 (loW x)] 79 #[.int .i64 (hiW d), .int .u64 (loW d)] 79 #[.int .i64 0, .int .u64 0] 79
  go_enter Tryz.func105, Tryz.ntmps105
  go_wp2_with fail
  generalize ((w.alloc (.cells #[.int .i64 (hiW x), .int .u64 (loW x)] 79)).alloc (.cells #[.int .i64 (hiW d), .int .u64 (loW d)] 79)).alloc (.cells #[.int .i64 0, .int .u64 0] 79) = w0 at *
  refine (SX.out _).mono ?_
  rintro e1 w1 ⟨rfl, hb1⟩
  replace HB := hT HB hb1
  replace KX := hK KX hb1
  replace KY := hK KY hb1
  replace KZ := hK KZ hb1
  clear hb1
  obtain ⟨yY_0, yY_1, yY_z⟩ := blk2 KY
  go_wp2_with fail
  obtain ⟨KS, hb2⟩ := alB w1 #[.int .u64 (hiW (absW x)), .int .u64 (loW (absW x))] 153
  have hnS := HB.out.size
  have nzS_X := KX.out.lt
  have nzS_Y := KY.out.lt
  have nzS_Z := KZ.out.lt
  replace HB := hT HB hb2
  replace KX := hK KX hb2
  replace KY := hK KY hb2
  replace KZ := hK KZ hb2
  clear yY_0 yY_1 yY_z
  clear hb2
  generalize w1.alloc (.cells #[.int .u64 (hiW (absW x)), .int .u64 (loW (absW x))] 153) = w2 at *
  generalize w1.heap.size = bS at *
  have neS_X : bS ≠ w.heap.size := by omega
  have neS_Y : bS ≠ (w.heap.size + 1) := by omega
  have neS_Z : bS ≠ (w.heap.size + 1 + 1) := by omega
  clear nzS_X nzS_Y nzS_Z
  refine (SY.out _).mono ?_
  rintro e3 w3 ⟨rfl, hb3⟩
  replace HB := hT HB hb3
  replace KX := hK KX hb3
  replace KY := hK KY hb3
  replace KZ := hK KZ hb3
  replace KS := hK KS hb3
  clear hb3
  go_wp2_with fail
  obtain ⟨KD, hb4⟩ := alB w3 #[.int .u64 (hiW d), .int .u64 (loW d)] 153
  have hnD := HB.out.size
  have nzD_X := KX.out.lt
  have nzD_Y := KY.out.lt
  have nzD_Z := KZ.out.lt
  have nzD_S := KS.out.lt
  replace HB := hT HB hb4
  replace KX := hK KX hb4
  replace KY := hK KY hb4
  replace KZ := hK KZ hb4
  replace KS := hK KS hb4
  clear hb4
  generalize w3.alloc (.cells #[.int .u64 (hiW d), .int .u64 (loW d)] 153) = w4 at *
  generalize w3.heap.size = bD at *
  have neD_X : bD ≠ w.heap.size := by omega
  have neD_Y : bD ≠ (w.heap.size + 1) := by omega
  have neD_Z : bD ≠ (w.heap.size + 1 + 1) := by omega
  have neD_S : bD ≠ bS := by omega
  clear nzD_X nzD_Y nzD_Z nzD_S
  refine (ZD.out _).mono ?_
  rintro e5 w5 ⟨rfl, hb5⟩
  replace HB := hT HB hb5
  replace KX := hK KX hb5
  replace KY := hK KY hb5
  replace KZ := hK KZ hb5
  replace KS := hK KS hb5
  replace KD := hK KD hb5
  clear hb5
  obtain ⟨yS_0, yS_1, yS_z⟩ := blk2 KS
  obtain ⟨yD_0, yD_1, yD_z⟩ := blk2 KD
  go_wp2_with fail
  refine (OV.out _).mono ?_
  rintro e6 w6 ⟨rfl, hb6⟩
  replace HB := hT HB hb6
  replace KX := hK KX hb6
  replace KY := hK KY hb6
  replace KZ := hK KZ hb6
  replace KS := hK KS hb6
  replace KD := hK KD hb6
  clear yS_0 yS_1 yS_z yD_0 yD_1 yD_z
  clear hb6
  go_wp2_with fail
  have KQ := Lib.hid ((Blk.of (vs := #[.int .u64 (hiW q), .int .u64 (loW q)]) (t := 153) (w := w6) (b := w6.heap.size) rfl).alloc (.cells #[.int .u64 (hiW r), .int .u64 (loW r)] 153))
  have KR := Lib.hid (Blk.of (vs := #[.int .u64 (hiW r), .int .u64 (loW r)]) (t := 153) (w := w6.alloc (.cells #[.int .u64 (hiW q), .int .u64 (loW q)] 153)) (b := w6.heap.size + 1) (by simp))
  have hb7 : Below w6.heap.size w6 ((w6.alloc (.cells #[.int .u64 (hiW q), .int .u64 (loW q)] 153)).alloc (.cells #[.int .u64 (hiW r), .int .u64 (loW r)] 153)) := ((Below.refl _ _).alloc (Nat.le_refl _) _).alloc (by simp) _
  have hnQ := HB.out.size
  have nzQ_X := KX.out.lt
  have nzQ_Y := KY.out.lt
  have nzQ_Z := KZ.out.lt
  have nzQ_S := KS.out.lt
  have nzQ_D := KD.out.lt
  replace HB := hT HB hb7
  replace KX := hK KX hb7
  replace KY := hK KY hb7
  replace KZ := hK KZ hb7
  replace KS := hK KS hb7
  replace KD := hK KD hb7
  clear hb7
  generalize (w6.alloc (.cells #[.int .u64 (hiW q), .int .u64 (loW q)] 153)).alloc (.cells #[.int .u64 (hiW r), .int .u64 (loW r)] 153) = w7 at *
  generalize w6.heap.size = bQ at *
  have neQ_X : bQ ≠ w.heap.size := by omega
  have neR_X : bQ + 1 ≠ w.heap.size := by omega
  have neQ_Y : bQ ≠ (w.heap.size + 1) := by omega
  have neR_Y : bQ + 1 ≠ (w.heap.size + 1) := by omega
  have neQ_Z : bQ ≠ (w.heap.size + 1 + 1) := by omega
  have neR_Z : bQ + 1 ≠ (w.heap.size + 1 + 1) := by omega
  have neQ_S : bQ ≠ bS := by omega
  have neR_S : bQ + 1 ≠ bS := by omega
  have neQ_D : bQ ≠ bD := by omega
  have neR_D : bQ + 1 ≠ bD := by omega
  clear nzQ_X nzQ_Y nzQ_Z nzQ_S nzQ_D
  refine (ZR.out _).mono ?_
  rintro e8 w8 ⟨rfl, hb8⟩
  replace HB := hT HB hb8
  replace KX := hK KX hb8
  replace KY := hK KY hb8
  replace KZ := hK KZ hb8
  replace KS := hK KS hb8
  replace KD := hK KD hb8
  replace KQ := hK KQ hb8
  replace KR := hK KR hb8
  clear hb8
  go_wp2_with fail
  skip
  have gR_0 := fun d os => cell_regrown (KR.out.c 0 _ rfl) d os
  have gR_1 := fun d os => cell_regrown (KR.out.c 1 _ rfl) d os
  have gD_0 := fun d os => cell_regrown (KD.out.c 0 _ rfl) d os
  have gD_1 := fun d os => cell_regrown (KD.out.c 1 _ rfl) d os
  have rv0 := Lib.hid (fun d os => Calls.regrown_of (LS.out (Go.Sort.grow (redrawn w8 d) os)))
  have rv1 := Lib.hid (fun d os => Calls.regrown_of (CM.out (Go.Sort.grow (redrawn w8 d) os)))
  refine wp_region_quiet_below (by kernel_rfl) (by kernel_rfl) ?_
  repeat (quiet_step (first | with_reducible exact rv0.out _ _ | with_reducible exact rv1.out _ _))
  refine wpQuiet_nil ?_
  intro w9 hw9
  have hb9 : Below w8.heap.size w8 w9 := by
    obtain ⟨⟨dq, osq⟩, hw2⟩ := hw9
    rw [hw2]; exact below_regrown _ dq osq
  clear gR_0 gR_1 gD_0 gD_1 rv0 rv1 hw9
  replace HB := hT HB hb9
  replace KX := hK KX hb9
  replace KY := hK KY hb9
  replace KZ := hK KZ hb9
  replace KS := hK KS hb9
  replace KD := hK KD hb9
  replace KQ := hK KQ hb9
  replace KR := hK KR hb9
  clear hb9
  obtain ⟨yQ_0, yQ_1, yQ_z, yQ_f0, yQ_f1⟩ := blf2 KQ
  go_wp2_with fail
  have hs := st2 w9 bQ 0 (.int .u64 (hiW (q + 1))) 1 (.int .u64 (loW (q + 1)))
  replace KX := oB hs KX (by omega)
  replace KY := oB hs KY (by omega)
  replace KZ := oB hs KZ (by omega)
  replace KS := oB hs KS (by omega)
  replace KD := oB hs KD (by omega)
  replace KQ := Lib.hid (blk_set (blk_set KQ.out (j := 0) (by simp) (.int .u64 (hiW (q + 1)))) (j := 1) (by simp) (.int .u64 (loW (q + 1))))
  replace KR := oB hs KR (by omega)
  replace HB := oH hs HB (by omega)
  clear hs
  clear yQ_0 yQ_1 yQ_z yQ_f0 yQ_f1
  generalize (w9.setCell ⟨bQ, 0, none⟩ (.int .u64 (hiW (q + 1)))).setCell ⟨bQ, 1, none⟩ (.int .u64 (loW (q + 1))) = w10 at *
  simp only [List.set] at KQ
  refine (J.out _).mono ?_
  rintro e11 w11 ⟨rfl, hb11⟩
  replace HB := hT HB hb11
  replace KX := hK KX hb11
  replace KY := hK KY hb11
  replace KZ := hK KZ hb11
  replace KS := hK KS hb11
  replace KD := hK KD hb11
  replace KQ := hK KQ hb11
  replace KR := hK KR hb11
  clear hb11
  obtain ⟨yZ_0, yZ_1, yZ_z, yZ_f0, yZ_f1⟩ := blf2 KZ
  go_wp2
  have hs := st2 w11 (w.heap.size + 1 + 1) 0 (.int .i64 (hiW v)) 1 (.int .u64 (loW v))
  replace KX := oB hs KX (by omega)
  replace KY := oB hs KY (by omega)
  replace KZ := Lib.hid (blk_set (blk_set KZ.out (j := 0) (by simp) (.int .i64 (hiW v))) (j := 1) (by simp) (.int .u64 (loW v)))
  replace KS := oB hs KS (by omega)
  replace KD := oB hs KD (by omega)
  replace KQ := oB hs KQ (by omega)
  replace KR := oB hs KR (by omega)
  replace HB := oH hs HB (by omega)
  clear hs
  clear yZ_0 yZ_1 yZ_z yZ_f0 yZ_f1
  generalize (w11.setCell ⟨(w.heap.size + 1 + 1), 0, none⟩ (.int .i64 (hiW v))).setCell ⟨(w.heap.size + 1 + 1), 1, none⟩ (.int .u64 (loW v)) = w12 at *
  simp only [List.set] at KZ
  obtain ⟨yZ_0, yZ_1, yZ_z⟩ := blk2 KZ
  refine bodyPost_ret (v := .tuple #[.agg #[.int .i64 (hiW v), .int .u64 (loW v)], .bool true]) (by simp [results, Tryz.results105, go_sem, yZ_0, yZ_1]) rfl ⟨rfl, HB.out⟩
set_option maxHeartbeats 8000000 in
set_option maxRecDepth 100000 in
theorem div_path5 (x d q r v : Int) (w : World) (h : DivW x d false false q r 1) (h0 : 0 ≤ q) (h1 : q < 85070591730234615865843651857942052864) (hv : v = sgn false (q + 1)) :
    Calls Tryz.prog 105 #[wv x, wv d, .int .i64 0] w fun e w' => e = .returned (.tuple #[wv v, .bool true]) ∧ Below w.heap.size w w' := by
  have J := Lib.hid fun w => join_any (q + 1) false w (by omega) (by omega)
  rw [← hv] at J
  clear hv
  unfold wv at J ⊢
  have S1 := fun w => add64 (loW q) 1 0 (by unfold loW; omega) (by omega) (by omega) (by omega) w
  have I1 := inc_hi h0 h1
  have I2 := inc_lo q
  rw [I2] at S1
  generalize (loW q + 1 + 0) / 18446744073709551616 = cc at *
  clear h0 h1
  have SX := Lib.hid h.sx
  have SY := Lib.hid h.sy
  have ZD := Lib.hid h.zd
  have OV := Lib.hid h.ov
  have ZR := Lib.hid h.zr
  have LS := Lib.hid h.ls
  have CM := Lib.hid h.cm
  clear h
  obtain ⟨KX, KY, KZ, HB⟩ := ent3 w #[.int .i64 (hiW x), .int .u64 (loW x)] 79 #[.int .i64 (hiW d), .int .u64 (loW d)] 79 #[.int .i64 0, .int .u64 0] 79
  go_enter Tryz.func105, Tryz.ntmps105
  go_wp2_with fail
  generalize ((w.alloc (.cells #[.int .i64 (hiW x), .int .u64 (loW x)] 79)).alloc (.cells #[.int .i64 (hiW d), .int .u64 (loW d)] 79)).alloc (.cells #[.int .i64 0, .int .u64 0] 79) = w0 at *
  refine (SX.out _).mono ?_
  rintro e1 w1 ⟨rfl, hb1⟩
  replace HB := hT HB hb1
  replace KX := hK KX hb1
  replace KY := hK KY hb1
  replace KZ := hK KZ hb1
  clear hb1
  obtain ⟨yY_0, yY_1, yY_z⟩ := blk2 KY
  go_wp2_with fail
  obtain ⟨KS, hb2⟩ := alB w1 #[.int .u64 (hiW (absW x)), .int .u64 (loW (absW x))] 153
  have hnS := HB.out.size
  have nzS_X := KX.out.lt
  have nzS_Y := KY.out.lt
  have nzS_Z := KZ.out.lt
  replace HB := hT HB hb2
  replace KX := hK KX hb2
  replace KY := hK KY hb2
  replace KZ := hK KZ hb2
  clear yY_0 yY_1 yY_z
  clear hb2
  generalize w1.alloc (.cells #[.int .u64 (hiW (absW x)), .int .u64 (loW (absW x))] 153) = w2 at *
  generalize w1.heap.size = bS at *
  have neS_X : bS ≠ w.heap.size := by omega
  have neS_Y : bS ≠ (w.heap.size + 1) := by omega
  have neS_Z : bS ≠ (w.heap.size + 1 + 1) := by omega
  clear nzS_X nzS_Y nzS_Z
  refine (SY.out _).mono ?_
  rintro e3 w3 ⟨rfl, hb3⟩
  replace HB := hT HB hb3
  replace KX := hK KX hb3
  replace KY := hK KY hb3
  replace KZ := hK KZ hb3
  replace KS := hK KS hb3
  clear hb3
  go_wp2_with fail
  obtain ⟨KD, hb4⟩ := alB w3 #[.int .u64 (hiW d), .int .u64 (loW d)] 153
  have hnD := HB.out.size
  have nzD_X := KX.out.lt
  have nzD_Y := KY.out.lt
  have nzD_Z := KZ.out.lt
  have nzD_S := KS.out.lt
  replace HB := hT HB hb4
  replace KX := hK KX hb4
  replace KY := hK KY hb4
  replace KZ := hK KZ hb4
  replace KS := hK KS hb4
  clear hb4
  generalize w3.alloc (.cells #[.int .u64 (hiW d), .int .u64 (loW d)] 153) = w4 at *
  generalize w3.heap.size = bD at *
  have neD_X : bD ≠ w.heap.size := by omega
  have neD_Y : bD ≠ (w.heap.size + 1) := by omega
  have neD_Z : bD ≠ (w.heap.size + 1 + 1) := by omega
  have neD_S : bD ≠ bS := by omega
  clear nzD_X nzD_Y nzD_Z nzD_S
  refine (ZD.out _).mono ?_
  rintro e5 w5 ⟨rfl, hb5⟩
  replace HB := hT HB hb5
  replace KX := hK KX hb5
  replace KY := hK KY hb5
  replace KZ := hK KZ hb5
  replace KS := hK KS hb5
  replace KD := hK KD hb5
  clear hb5
  obtain ⟨yS_0, yS_1, yS_z⟩ := blk2 KS
  obtain ⟨yD_0, yD_1, yD_z⟩ := blk2 KD
  go_wp2_with fail
  refine (OV.out _).mono ?_
  rintro e6 w6 ⟨rfl, hb6⟩
  replace HB := hT HB hb6
  replace KX := hK KX hb6
  replace KY := hK KY hb6
  replace KZ := hK KZ hb6
  replace KS := hK KS hb6
  replace KD := hK KD hb6
  clear yS_0 yS_1 yS_z yD_0 yD_1 yD_z
  clear hb6
  go_wp2_with fail
  have KQ := Lib.hid ((Blk.of (vs := #[.int .u64 (hiW q), .int .u64 (loW q)]) (t := 153) (w := w6) (b := w6.heap.size) rfl).alloc (.cells #[.int .u64 (hiW r), .int .u64 (loW r)] 153))
  have KR := Lib.hid (Blk.of (vs := #[.int .u64 (hiW r), .int .u64 (loW r)]) (t := 153) (w := w6.alloc (.cells #[.int .u64 (hiW q), .int .u64 (loW q)] 153)) (b := w6.heap.size + 1) (by simp))
  have hb7 : Below w6.heap.size w6 ((w6.alloc (.cells #[.int .u64 (hiW q), .int .u64 (loW q)] 153)).alloc (.cells #[.int .u64 (hiW r), .int .u64 (loW r)] 153)) := ((Below.refl _ _).alloc (Nat.le_refl _) _).alloc (by simp) _
  have hnQ := HB.out.size
  have nzQ_X := KX.out.lt
  have nzQ_Y := KY.out.lt
  have nzQ_Z := KZ.out.lt
  have nzQ_S := KS.out.lt
  have nzQ_D := KD.out.lt
  replace HB := hT HB hb7
  replace KX := hK KX hb7
  replace KY := hK KY hb7
  replace KZ := hK KZ hb7
  replace KS := hK KS hb7
  replace KD := hK KD hb7
  clear hb7
  generalize (w6.alloc (.cells #[.int .u64 (hiW q), .int .u64 (loW q)] 153)).alloc (.cells #[.int .u64 (hiW r), .int .u64 (loW r)] 153) = w7 at *
  generalize w6.heap.size = bQ at *
  have neQ_X : bQ ≠ w.heap.size := by omega
  have neR_X : bQ + 1 ≠ w.heap.size := by omega
  have neQ_Y : bQ ≠ (w.heap.size + 1) := by omega
  have neR_Y : bQ + 1 ≠ (w.heap.size + 1) := by omega
  have neQ_Z : bQ ≠ (w.heap.size + 1 + 1) := by omega
  have neR_Z : bQ + 1 ≠ (w.heap.size + 1 + 1) := by omega
  have neQ_S : bQ ≠ bS := by omega
  have neR_S : bQ + 1 ≠ bS := by omega
  have neQ_D : bQ ≠ bD := by omega
  have neR_D : bQ + 1 ≠ bD := by omega
  clear nzQ_X nzQ_Y nzQ_Z nzQ_S nzQ_D
  refine (ZR.out _).mono ?_
  rintro e8 w8 ⟨rfl, hb8⟩
  replace HB := hT HB hb8
  replace KX := hK KX hb8
  replace KY := hK KY hb8
  replace KZ := hK KZ hb8
  replace KS := hK KS hb8
  replace KD := hK KD hb8
  replace KQ := hK KQ hb8
  replace KR := hK KR hb8
  clear hb8
  go_wp2_with fail
  skip
  have gR_0 := fun d os => cell_regrown (KR.out.c 0 _ rfl) d os
  have gR_1 := fun d os => cell_regrown (KR.out.c 1 _ rfl) d os
  have gD_0 := fun d os => cell_regrown (KD.out.c 0 _ rfl) d os
  have gD_1 := fun d os => cell_regrown (KD.out.c 1 _ rfl) d os
  have rv0 := Lib.hid (fun d os => Calls.regrown_of (LS.out (Go.Sort.grow (redrawn w8 d) os)))
  have rv1 := Lib.hid (fun d os => Calls.regrown_of (CM.out (Go.Sort.grow (redrawn w8 d) os)))
  refine wp_region_quiet_below (by kernel_rfl) (by kernel_rfl) ?_
  repeat (quiet_step (first | with_reducible exact rv0.out _ _ | with_reducible exact rv1.out _ _))
  refine wpQuiet_nil ?_
  intro w9 hw9
  have hb9 : Below w8.heap.size w8 w9 := by
    obtain ⟨⟨dq, osq⟩, hw2⟩ := hw9
    rw [hw2]; exact below_regrown _ dq osq
  clear gR_0 gR_1 gD_0 gD_1 rv0 rv1 hw9
  replace HB := hT HB hb9
  replace KX := hK KX hb9
  replace KY := hK KY hb9
  replace KZ := hK KZ hb9
  replace KS := hK KS hb9
  replace KD := hK KD hb9
  replace KQ := hK KQ hb9
  replace KR := hK KR hb9
  clear hb9
  obtain ⟨yQ_0, yQ_1, yQ_z, yQ_f0, yQ_f1⟩ := blf2 KQ
  go_wp2_with fail
  have hs := st2 w9 bQ 0 (.int .u64 (hiW (q + 1))) 1 (.int .u64 (loW (q + 1)))
  replace KX := oB hs KX (by omega)
  replace KY := oB hs KY (by omega)
  replace KZ := oB hs KZ (by omega)
  replace KS := oB hs KS (by omega)
  replace KD := oB hs KD (by omega)
  replace KQ := Lib.hid (blk_set (blk_set KQ.out (j := 0) (by simp) (.int .u64 (hiW (q + 1)))) (j := 1) (by simp) (.int .u64 (loW (q + 1))))
  replace KR := oB hs KR (by omega)
  replace HB := oH hs HB (by omega)
  clear hs
  clear yQ_0 yQ_1 yQ_z yQ_f0 yQ_f1
  generalize (w9.setCell ⟨bQ, 0, none⟩ (.int .u64 (hiW (q + 1)))).setCell ⟨bQ, 1, none⟩ (.int .u64 (loW (q + 1))) = w10 at *
  simp only [List.set] at KQ
  refine (J.out _).mono ?_
  rintro e11 w11 ⟨rfl, hb11⟩
  replace HB := hT HB hb11
  replace KX := hK KX hb11
  replace KY := hK KY hb11
  replace KZ := hK KZ hb11
  replace KS := hK KS hb11
  replace KD := hK KD hb11
  replace KQ := hK KQ hb11
  replace KR := hK KR hb11
  clear hb11
  obtain ⟨yZ_0, yZ_1, yZ_z, yZ_f0, yZ_f1⟩ := blf2 KZ
  go_wp2
  have hs := st2 w11 (w.heap.size + 1 + 1) 0 (.int .i64 (hiW v)) 1 (.int .u64 (loW v))
  replace KX := oB hs KX (by omega)
  replace KY := oB hs KY (by omega)
  replace KZ := Lib.hid (blk_set (blk_set KZ.out (j := 0) (by simp) (.int .i64 (hiW v))) (j := 1) (by simp) (.int .u64 (loW v)))
  replace KS := oB hs KS (by omega)
  replace KD := oB hs KD (by omega)
  replace KQ := oB hs KQ (by omega)
  replace KR := oB hs KR (by omega)
  replace HB := oH hs HB (by omega)
  clear hs
  clear yZ_0 yZ_1 yZ_z yZ_f0 yZ_f1
  generalize (w11.setCell ⟨(w.heap.size + 1 + 1), 0, none⟩ (.int .i64 (hiW v))).setCell ⟨(w.heap.size + 1 + 1), 1, none⟩ (.int .u64 (loW v)) = w12 at *
  simp only [List.set] at KZ
  obtain ⟨yZ_0, yZ_1, yZ_z⟩ := blk2 KZ
  refine bodyPost_ret (v := .tuple #[.agg #[.int .i64 (hiW v), .int .u64 (loW v)], .bool true]) (by simp [results, Tryz.results105, go_sem, yZ_0, yZ_1]) rfl ⟨rfl, HB.out⟩
set_option maxHeartbeats 8000000 in
set_option maxRecDepth 100000 in
theorem div_path6 (x d q r v : Int) (w : World) (h : DivW x d true true q r (-1)) (h0 : 0 ≤ q) (h1 : q < 85070591730234615865843651857942052864) (hv : v = sgn true q) :
    Calls Tryz.prog 105 #[wv x, wv d, .int .i64 0] w fun e w' => e = .returned (.tuple #[wv v, .bool true]) ∧ Below w.heap.size w w' := by
  have J := Lib.hid fun w => join_any q true w (by omega) (by omega)
  rw [← hv] at J
  clear hv
  unfold wv at J ⊢
  clear h0 h1
  have SX := Lib.hid h.sx
  have SY := Lib.hid h.sy
  have ZD := Lib.hid h.zd
  have OV := Lib.hid h.ov
  have ZR := Lib.hid h.zr
  have LS := Lib.hid h.ls
  have CM := Lib.hid h.cm
  clear h
  obtain ⟨KX, KY, KZ, HB⟩ := ent3 w #[.int .i64 (hiW x), .int .u64 (loW x)] 79 #[.int .i64 (hiW d), .int .u64 (loW d)] 79 #[.int .i64 0, .int .u64 0] 79
  go_enter Tryz.func105, Tryz.ntmps105
  go_wp2_with fail
  generalize ((w.alloc (.cells #[.int .i64 (hiW x), .int .u64 (loW x)] 79)).alloc (.cells #[.int .i64 (hiW d), .int .u64 (loW d)] 79)).alloc (.cells #[.int .i64 0, .int .u64 0] 79) = w0 at *
  refine (SX.out _).mono ?_
  rintro e1 w1 ⟨rfl, hb1⟩
  replace HB := hT HB hb1
  replace KX := hK KX hb1
  replace KY := hK KY hb1
  replace KZ := hK KZ hb1
  clear hb1
  obtain ⟨yY_0, yY_1, yY_z⟩ := blk2 KY
  go_wp2_with fail
  obtain ⟨KS, hb2⟩ := alB w1 #[.int .u64 (hiW (absW x)), .int .u64 (loW (absW x))] 153
  have hnS := HB.out.size
  have nzS_X := KX.out.lt
  have nzS_Y := KY.out.lt
  have nzS_Z := KZ.out.lt
  replace HB := hT HB hb2
  replace KX := hK KX hb2
  replace KY := hK KY hb2
  replace KZ := hK KZ hb2
  clear yY_0 yY_1 yY_z
  clear hb2
  generalize w1.alloc (.cells #[.int .u64 (hiW (absW x)), .int .u64 (loW (absW x))] 153) = w2 at *
  generalize w1.heap.size = bS at *
  have neS_X : bS ≠ w.heap.size := by omega
  have neS_Y : bS ≠ (w.heap.size + 1) := by omega
  have neS_Z : bS ≠ (w.heap.size + 1 + 1) := by omega
  clear nzS_X nzS_Y nzS_Z
  refine (SY.out _).mono ?_
  rintro e3 w3 ⟨rfl, hb3⟩
  replace HB := hT HB hb3
  replace KX := hK KX hb3
  replace KY := hK KY hb3
  replace KZ := hK KZ hb3
  replace KS := hK KS hb3
  clear hb3
  go_wp2_with fail
  obtain ⟨KD, hb4⟩ := alB w3 #[.int .u64 (hiW d), .int .u64 (loW d)] 153
  have hnD := HB.out.size
  have nzD_X := KX.out.lt
  have nzD_Y := KY.out.lt
  have nzD_Z := KZ.out.lt
  have nzD_S := KS.out.lt
  replace HB := hT HB hb4
  replace KX := hK KX hb4
  replace KY := hK KY hb4
  replace KZ := hK KZ hb4
  replace KS := hK KS hb4
  clear hb4
  generalize w3.alloc (.cells #[.int .u64 (hiW d), .int .u64 (loW d)] 153) = w4 at *
  generalize w3.heap.size = bD at *
  have neD_X : bD ≠ w.heap.size := by omega
  have neD_Y : bD ≠ (w.heap.size + 1) := by omega
  have neD_Z : bD ≠ (w.heap.size + 1 + 1) := by omega
  have neD_S : bD ≠ bS := by omega
  clear nzD_X nzD_Y nzD_Z nzD_S
  refine (ZD.out _).mono ?_
  rintro e5 w5 ⟨rfl, hb5⟩
  replace HB := hT HB hb5
  replace KX := hK KX hb5
  replace KY := hK KY hb5
  replace KZ := hK KZ hb5
  replace KS := hK KS hb5
  replace KD := hK KD hb5
  clear hb5
  obtain ⟨yS_0, yS_1, yS_z⟩ := blk2 KS
  obtain ⟨yD_0, yD_1, yD_z⟩ := blk2 KD
  go_wp2_with fail
  refine (OV.out _).mono ?_
  rintro e6 w6 ⟨rfl, hb6⟩
  replace HB := hT HB hb6
  replace KX := hK KX hb6
  replace KY := hK KY hb6
  replace KZ := hK KZ hb6
  replace KS := hK KS hb6
  replace KD := hK KD hb6
  clear yS_0 yS_1 yS_z yD_0 yD_1 yD_z
  clear hb6
  go_wp2_with fail
  have KQ := Lib.hid ((Blk.of (vs := #[.int .u64 (hiW q), .int .u64 (loW q)]) (t := 153) (w := w6) (b := w6.heap.size) rfl).alloc (.cells #[.int .u64 (hiW r), .int .u64 (loW r)] 153))
  have KR := Lib.hid (Blk.of (vs := #[.int .u64 (hiW r), .int .u64 (loW r)]) (t := 153) (w := w6.alloc (.cells #[.int .u64 (hiW q), .int .u64 (loW q)] 153)) (b := w6.heap.size + 1) (by simp))
  have hb7 : Below w6.heap.size w6 ((w6.alloc (.cells #[.int .u64 (hiW q), .int .u64 (loW q)] 153)).alloc (.cells #[.int .u64 (hiW r), .int .u64 (loW r)] 153)) := ((Below.refl _ _).alloc (Nat.le_refl _) _).alloc (by simp) _
  have hnQ := HB.out.size
  have nzQ_X := KX.out.lt
  have nzQ_Y := KY.out.lt
  have nzQ_Z := KZ.out.lt
  have nzQ_S := KS.out.lt
  have nzQ_D := KD.out.lt
  replace HB := hT HB hb7
  replace KX := hK KX hb7
  replace KY := hK KY hb7
  replace KZ := hK KZ hb7
  replace KS := hK KS hb7
  replace KD := hK KD hb7
  clear hb7
  generalize (w6.alloc (.cells #[.int .u64 (hiW q), .int .u64 (loW q)] 153)).alloc (.cells #[.int .u64 (hiW r), .int .u64 (loW r)] 153) = w7 at *
  generalize w6.heap.size = bQ at *
  have neQ_X : bQ ≠ w.heap.size := by omega
  have neR_X : bQ + 1 ≠ w.heap.size := by omega
  have neQ_Y : bQ ≠ (w.heap.size + 1) := by omega
  have neR_Y : bQ + 1 ≠ (w.heap.size + 1) := by omega
  have neQ_Z : bQ ≠ (w.heap.size + 1 + 1) := by omega
  have neR_Z : bQ + 1 ≠ (w.heap.size + 1 + 1) := by omega
  have neQ_S : bQ ≠ bS := by omega
  have neR_S : bQ + 1 ≠ bS := by omega
  have neQ_D : bQ ≠ bD := by omega
  have neR_D : bQ + 1 ≠ bD := by omega
  clear nzQ_X nzQ_Y nzQ_Z nzQ_S nzQ_D
  refine (ZR.out _).mono ?_
  rintro e8 w8 ⟨rfl, hb8⟩
  replace HB := hT HB hb8
  replace KX := hK KX hb8
  replace KY := hK KY hb8
  replace KZ := hK KZ hb8
  replace KS := hK KS hb8
  replace KD := hK KD hb8
  replace KQ := hK KQ hb8
  replace KR := hK KR hb8
  clear hb8
  go_wp2_with fail
  skip
  have gR_0 := fun d os => cell_regrown (KR.out.c 0 _ rfl) d os
  have gR_1 := fun d os => cell_regrown (KR.out.c 1 _ rfl) d os
  have gD_0 := fun d os => cell_regrown (KD.out.c 0 _ rfl) d os
  have gD_1 := fun d os => cell_regrown (KD.out.c 1 _ rfl) d os
  have rv0 := Lib.hid (fun d os => Calls.regrown_of (LS.out (Go.Sort.grow (redrawn w8 d) os)))
  have rv1 := Lib.hid (fun d os => Calls.regrown_of (CM.out (Go.Sort.grow (redrawn w8 d) os)))
  refine wp_region_quiet_below (by kernel_rfl) (by kernel_rfl) ?_
  repeat (quiet_step (first | with_reducible exact rv0.out _ _ | with_reducible exact rv1.out _ _))
  refine wpQuiet_nil ?_
  intro w9 hw9
  have hb9 : Below w8.heap.size w8 w9 := by
    obtain ⟨⟨dq, osq⟩, hw2⟩ := hw9
    rw [hw2]; exact below_regrown _ dq osq
  clear gR_0 gR_1 gD_0 gD_1 rv0 rv1 hw9
  replace HB := hT HB hb9
  replace KX := hK KX hb9
  replace KY := hK KY hb9
  replace KZ := hK KZ hb9
  replace KS := hK KS hb9
  replace KD := hK KD hb9
  replace KQ := hK KQ hb9
  replace KR := hK KR hb9
  clear hb9
  obtain ⟨yQ_0, yQ_1, yQ_z, yQ_f0, yQ_f1⟩ := blf2 KQ
  go_wp2_with fail
  refine (J.out _).mono ?_
  rintro e10 w10 ⟨rfl, hb10⟩
  replace HB := hT HB hb10
  replace KX := hK KX hb10
  replace KY := hK KY hb10
  replace KZ := hK KZ hb10
  replace KS := hK KS hb10
  replace KD := hK KD hb10
  replace KQ := hK KQ hb10
  replace KR := hK KR hb10
  clear yQ_0 yQ_1 yQ_z yQ_f0 yQ_f1
  clear hb10
  obtain ⟨yZ_0, yZ_1, yZ_z, yZ_f0, yZ_f1⟩ := blf2 KZ
  go_wp2
  have hs := st2 w10 (w.heap.size + 1 + 1) 0 (.int .i64 (hiW v)) 1 (.int .u64 (loW v))
  replace KX := oB hs KX (by omega)
  replace KY := oB hs KY (by omega)
  replace KZ := Lib.hid (blk_set (blk_set KZ.out (j := 0) (by simp) (.int .i64 (hiW v))) (j := 1) (by simp) (.int .u64 (loW v)))
  replace KS := oB hs KS (by omega)
  replace KD := oB hs KD (by omega)
  replace KQ := oB hs KQ (by omega)
  replace KR := oB hs KR (by omega)
  replace HB := oH hs HB (by omega)
  clear hs
  clear yZ_0 yZ_1 yZ_z yZ_f0 yZ_f1
  generalize (w10.setCell ⟨(w.heap.size + 1 + 1), 0, none⟩ (.int .i64 (hiW v))).setCell ⟨(w.heap.size + 1 + 1), 1, none⟩ (.int .u64 (loW v)) = w11 at *
  simp only [List.set] at KZ
  obtain ⟨yZ_0, yZ_1, yZ_z⟩ := blk2 KZ
  refine bodyPost_ret (v := .tuple #[.agg #[.int .i64 (hiW v), .int .u64 (loW v)], .bool true]) (by simp [results, Tryz.results105, go_sem, yZ_0, yZ_1]) rfl ⟨rfl, HB.out⟩
set_option maxHeartbeats 8000000 in
set_option maxRecDepth 100000 in
theorem div_path7 (x d q r v : Int) (w : World) (h : DivW x d true false q r (-1)) (h0 : 0 ≤ q) (h1 : q < 85070591730234615865843651857942052864) (hv : v = sgn true q) :
    Calls Tryz.prog 105 #[wv x, wv d, .int .i64 0] w fun e w' => e = .returned (.tuple #[wv v, .bool true]) ∧ Below w.heap.size w w' := by
  have J := Lib.hid fun w => join_any q true w (by omega) (by omega)
  rw [← hv] at J
  clear hv
  unfold wv at J ⊢
  clear h0 h1
  have SX := Lib.hid h.sx
  have SY := Lib.hid h.sy
  have ZD := Lib.hid h.zd
  have OV := Lib.hid h.ov
  have ZR := Lib.hid h.zr
  have LS := Lib.hid h.ls
  have CM := Lib.hid h.cm
  clear h
  obtain ⟨KX, KY, KZ, HB⟩ := ent3 w #[.int .i64 (hiW x), .int .u64 (loW x)] 79 #[.int .i64 (hiW d), .int .u64 (loW d)] 79 #[.int .i64 0, .int .u64 0] 79
  go_enter Tryz.func105, Tryz.ntmps105
  go_wp2_with fail
  generalize ((w.alloc (.cells #[.int .i64 (hiW x), .int .u64 (loW x)] 79)).alloc (.cells #[.int .i64 (hiW d), .int .u64 (loW d)] 79)).alloc (.cells #[.int .i64 0, .int .u64 0] 79) = w0 at *
  refine (SX.out _).mono ?_
  rintro e1 w1 ⟨rfl, hb1⟩
  replace HB := hT HB hb1
  replace KX := hK KX hb1
  replace KY := hK KY hb1
  replace KZ := hK KZ hb1
  clear hb1
  obtain ⟨yY_0, yY_1, yY_z⟩ := blk2 KY
  go_wp2_with fail
  obtain ⟨KS, hb2⟩ := alB w1 #[.int .u64 (hiW (absW x)), .int .u64 (loW (absW x))] 153
  have hnS := HB.out.size
  have nzS_X := KX.out.lt
  have nzS_Y := KY.out.lt
  have nzS_Z := KZ.out.lt
  replace HB := hT HB hb2
  replace KX := hK KX hb2
  replace KY := hK KY hb2
  replace KZ := hK KZ hb2
  clear yY_0 yY_1 yY_z
  clear hb2
  generalize w1.alloc (.cells #[.int .u64 (hiW (absW x)), .int .u64 (loW (absW x))] 153) = w2 at *
  generalize w1.heap.size = bS at *
  have neS_X : bS ≠ w.heap.size := by omega
  have neS_Y : bS ≠ (w.heap.size + 1) := by omega
  have neS_Z : bS ≠ (w.heap.size + 1 + 1) := by omega
  clear nzS_X nzS_Y nzS_Z
  refine (SY.out _).mono ?_
  rintro e3 w3 ⟨rfl, hb3⟩
  replace HB := hT HB hb3
  replace KX := hK KX hb3
  replace KY := hK KY hb3
  replace KZ := hK KZ hb3
  replace KS := hK KS hb3
  clear hb3
  go_wp2_with fail
  obtain ⟨KD, hb4⟩ := alB w3 #[.int .u64 (hiW d), .int .u64 (loW d)] 153
  have hnD := HB.out.size
  have nzD_X := KX.out.lt
  have nzD_Y := KY.out.lt
  have nzD_Z := KZ.out.lt
  have nzD_S := KS.out.lt
  replace HB := hT HB hb4
  replace KX := hK KX hb4
  replace KY := hK KY hb4
  replace KZ := hK KZ hb4
  replace KS := hK KS hb4
  clear hb4
  generalize w3.alloc (.cells #[.int .u64 (hiW d), .int .u64 (loW d)] 153) = w4 at *
  generalize w3.heap.size = bD at *
  have neD_X : bD ≠ w.heap.size := by omega
  have neD_Y : bD ≠ (w.heap.size + 1) := by omega
  have neD_Z : bD ≠ (w.heap.size + 1 + 1) := by omega
  have neD_S : bD ≠ bS := by omega
  clear nzD_X nzD_Y nzD_Z nzD_S
  refine (ZD.out _).mono ?_
  rintro e5 w5 ⟨rfl, hb5⟩
  replace HB := hT HB hb5
  replace KX := hK KX hb5
  replace KY := hK KY hb5
  replace KZ := hK KZ hb5
  replace KS := hK KS hb5
  replace KD := hK KD hb5
  clear hb5
  obtain ⟨yS_0, yS_1, yS_z⟩ := blk2 KS
  obtain ⟨yD_0, yD_1, yD_z⟩ := blk2 KD
  go_wp2_with fail
  refine (OV.out _).mono ?_
  rintro e6 w6 ⟨rfl, hb6⟩
  replace HB := hT HB hb6
  replace KX := hK KX hb6
  replace KY := hK KY hb6
  replace KZ := hK KZ hb6
  replace KS := hK KS hb6
  replace KD := hK KD hb6
  clear yS_0 yS_1 yS_z yD_0 yD_1 yD_z
  clear hb6
  go_wp2_with fail
  have KQ := Lib.hid ((Blk.of (vs := #[.int .u64 (hiW q), .int .u64 (loW q)]) (t := 153) (w := w6) (b := w6.heap.size) rfl).alloc (.cells #[.int .u64 (hiW r), .int .u64 (loW r)] 153))
  have KR := Lib.hid (Blk.of (vs := #[.int .u64 (hiW r), .int .u64 (loW r)]) (t := 153) (w := w6.alloc (.cells #[.int .u64 (hiW q), .int .u64 (loW q)] 153)) (b := w6.heap.size + 1) (by simp))
  have hb7 : Below w6.heap.size w6 ((w6.alloc (.cells #[.int .u64 (hiW q), .int .u64 (loW q)] 153)).alloc (.cells #[.int .u64 (hiW r), .int .u64 (loW r)] 153)) := ((Below.refl _ _).alloc (Nat.le_refl _) _).alloc (by simp) _
  have hnQ := HB.out.size
  have nzQ_X := KX.out.lt
  have nzQ_Y := KY.out.lt
  have nzQ_Z := KZ.out.lt
  have nzQ_S := KS.out.lt
  have nzQ_D := KD.out.lt
  replace HB := hT HB hb7
  replace KX := hK KX hb7
  replace KY := hK KY hb7
  replace KZ := hK KZ hb7
  replace KS := hK KS hb7
  replace KD := hK KD hb7
  clear hb7
  generalize (w6.alloc (.cells #[.int .u64 (hiW q), .int .u64 (loW q)] 153)).alloc (.cells #[.int .u64 (hiW r), .int .u64 (loW r)] 153) = w7 at *
  generalize w6.heap.size = bQ at *
  have neQ_X : bQ ≠ w.heap.size := by omega
  have neR_X : bQ + 1 ≠ w.heap.size := by omega
  have neQ_Y : bQ ≠ (w.heap.size + 1) := by omega
  have neR_Y : bQ + 1 ≠ (w.heap.size + 1) := by omega
  have neQ_Z : bQ ≠ (w.heap.size + 1 + 1) := by omega
  have neR_Z : bQ + 1 ≠ (w.heap.size + 1 + 1) := by omega
  have neQ_S : bQ ≠ bS := by omega
  have neR_S : bQ + 1 ≠ bS := by omega
  have neQ_D : bQ ≠ bD := by omega
  have neR_D : bQ + 1 ≠ bD := by omega
  clear nzQ_X nzQ_Y nzQ_Z nzQ_S nzQ_D
  refine (ZR.out _).mono ?_
  rintro e8 w8 ⟨rfl, hb8⟩
  replace HB := hT HB hb8
  replace KX := hK KX hb8
  replace KY := hK KY hb8
  replace KZ := hK KZ hb8
  replace KS := hK KS hb8
  replace KD := hK KD hb8
  replace KQ := hK KQ hb8
  replace KR := hK KR hb8
  clear hb8
  go_wp2_with fail
  skip
  have gR_0 := fun d os => cell_regrown (KR.out.c 0 _ rfl) d os
  have gR_1 := fun d os => cell_regrown (KR.out.c 1 _ rfl) d os
  have gD_0 := fun d os => cell_regrown (KD.out.c 0 _ rfl) d os
  have gD_1 := fun d os => cell_regrown (KD.out.c 1 _ rfl) d os
  have rv0 := Lib.hid (fun d os => Calls.regrown_of (LS.out (Go.Sort.grow (redrawn w8 d) os)))
  have rv1 := Lib.hid (fun d os => Calls.regrown_of (CM.out (Go.Sort.grow (redrawn w8 d) os)))
  refine wp_region_quiet_below (by kernel_rfl) (by kernel_rfl) ?_
  repeat (quiet_step (first | with_reducible exact rv0.out _ _ | with_reducible exact rv1.out _ _))
  refine wpQuiet_nil ?_
  intro w9 hw9
  have hb9 : Below w8.heap.size w8 w9 := by
    obtain ⟨⟨dq, osq⟩, hw2⟩ := hw9
    rw [hw2]; exact below_regrown _ dq osq
  clear gR_0 gR_1 gD_0 gD_1 rv0 rv1 hw9
  replace HB := hT HB hb9
  replace KX := hK KX hb9
  replace KY := hK KY hb9
  replace KZ := hK KZ hb9
  replace KS := hK KS hb9
  replace KD := hK KD hb9
  replace KQ := hK KQ hb9
  replace KR := hK KR hb9
  clear hb9
  obtain ⟨yQ_0, yQ_1, yQ_z, yQ_f0, yQ_f1⟩ := blf2 KQ
  go_wp2_with fail
  refine (J.out _).mono ?_
  rintro e10 w10 ⟨rfl, hb10⟩
  replace HB := hT HB hb10
  replace KX := hK KX hb10
  replace KY := hK KY hb10
  replace KZ := hK KZ hb10
  replace KS := hK KS hb10
  replace KD := hK KD hb10
  replace KQ := hK KQ hb10
  replace KR := hK KR hb10
  clear yQ_0 yQ_1 yQ_z yQ_f0 yQ_f1
  clear hb10
  obtain ⟨yZ_0, yZ_1, yZ_z, yZ_f0, yZ_f1⟩ := blf2 KZ
  go_wp2
  have hs := st2 w10 (w.heap.size + 1 + 1) 0 (.int .i64 (hiW v)) 1 (.int .u64 (loW v))
  replace KX := oB hs KX (by omega)
  replace KY := oB hs KY (by omega)
  replace KZ := Lib.hid (blk_set (blk_set KZ.out (j := 0) (by simp) (.int .i64 (hiW v))) (j := 1) (by simp) (.int .u64 (loW v)))
  replace KS := oB hs KS (by omega)
  replace KD := oB hs KD (by omega)
  replace KQ := oB hs KQ (by omega)
  replace KR := oB hs KR (by omega)
  replace HB := oH hs HB (by omega)
  clear hs
  clear yZ_0 yZ_1 yZ_z yZ_f0 yZ_f1
  generalize (w10.setCell ⟨(w.heap.size + 1 + 1), 0, none⟩ (.int .i64 (hiW v))).setCell ⟨(w.heap.size + 1 + 1), 1, none⟩ (.int .u64 (loW v)) = w11 at *
  simp only [List.set] at KZ
  obtain ⟨yZ_0, yZ_1, yZ_z⟩ := blk2 KZ
  refine bodyPost_ret (v := .tuple #[.agg #[.int .i64 (hiW v), .int .u64 (loW v)], .bool true]) (by simp [results, Tryz.results105, go_sem, yZ_0, yZ_1]) rfl ⟨rfl, HB.out⟩
set_option maxHeartbeats 8000000 in
set_option maxRecDepth 100000 in
theorem div_path8 (x d q r v : Int) (w : World) (h : DivW x d true false q r 0) (h0 : 0 ≤ q) (h1 : q < 85070591730234615865843651857942052864) (hv : v = sgn true q) :
    Calls Tryz.prog 105 #[wv x, wv d, .int .i64 0] w fun e w' => e = .returned (.tuple #[wv v, .bool true]) ∧ Below w.heap.size w w' := by
  have J := Lib.hid fun w => join_any q true w (by omega) (by omega)
  rw [← hv] at J
  clear hv
  unfold wv at J ⊢
  clear h0 h1
  have SX := Lib.hid h.sx
  have SY := Lib.hid h.sy
  have ZD := Lib.hid h.zd
  have OV := Lib.hid h.ov
  have ZR := Lib.hid h.zr
  have LS := Lib.hid h.ls
  have CM := Lib.hid h.cm
  clear h
  obtain ⟨KX, KY, KZ, HB⟩ := ent3 w #[.int .i64 (hiW x), .int .u64 (loW x)] 79 #[.int .i64 (hiW d), .int .u64 (loW d)] 79 #[.int .i64 0, .int .u64 0] 79
  go_enter Tryz.func105, Tryz.ntmps105
  go_wp2_with fail
  generalize ((w.alloc (.cells #[.int .i64 (hiW x), .int .u64 (loW x)] 79)).alloc (.cells #[.int .i64 (hiW d), .int .u64 (loW d)] 79)).alloc (.cells #[.int .i64 0, .int .u64 0] 79) = w0 at *
  refine (SX.out _).mono ?_
  rintro e1 w1 ⟨rfl, hb1⟩
  replace HB := hT HB hb1
  replace KX := hK KX hb1
  replace KY := hK KY hb1
  replace KZ := hK KZ hb1
  clear hb1
  obtain ⟨yY_0, yY_1, yY_z⟩ := blk2 KY
  go_wp2_with fail
  obtain ⟨KS, hb2⟩ := alB w1 #[.int .u64 (hiW (absW x)), .int .u64 (loW (absW x))] 153
  have hnS := HB.out.size
  have nzS_X := KX.out.lt
  have nzS_Y := KY.out.lt
  have nzS_Z := KZ.out.lt
  replace HB := hT HB hb2
  replace KX := hK KX hb2
  replace KY := hK KY hb2
  replace KZ := hK KZ hb2
  clear yY_0 yY_1 yY_z
  clear hb2
  generalize w1.alloc (.cells #[.int .u64 (hiW (absW x)), .int .u64 (loW (absW x))] 153) = w2 at *
  generalize w1.heap.size = bS at *
  have neS_X : bS ≠ w.heap.size := by omega
  have neS_Y : bS ≠ (w.heap.size + 1) := by omega
  have neS_Z : bS ≠ (w.heap.size + 1 + 1) := by omega
  clear nzS_X nzS_Y nzS_Z
  refine (SY.out _).mono ?_
  rintro e3 w3 ⟨rfl, hb3⟩
  replace HB := hT HB hb3
  replace KX := hK KX hb3
  replace KY := hK KY hb3
  replace KZ := hK KZ hb3
  replace KS := hK KS hb3
  clear hb3
  go_wp2_with fail
  obtain ⟨KD, hb4⟩ := alB w3 #[.int .u64 (hiW d), .int .u64 (loW d)] 153
  have hnD := HB.out.size
  have nzD_X := KX.out.lt
  have nzD_Y := KY.out.lt
  have nzD_Z := KZ.out.lt
  have nzD_S := KS.out.lt
  replace HB := hT HB hb4
  replace KX := hK KX hb4
  replace KY := hK KY hb4
  replace KZ := hK KZ hb4
  replace KS := hK KS hb4
  clear hb4
  generalize w3.alloc (.cells #[.int .u64 (hiW d), .int .u64 (loW d)] 153) = w4 at *
  generalize w3.heap.size = bD at *
  have neD_X : bD ≠ w.heap.size := by omega
  have neD_Y : bD ≠ (w.heap.size + 1) := by omega
  have neD_Z : bD ≠ (w.heap.size + 1 + 1) := by omega
  have neD_S : bD ≠ bS := by omega
  clear nzD_X nzD_Y nzD_Z nzD_S
  refine (ZD.out _).mono ?_
  rintro e5 w5 ⟨rfl, hb5⟩
  replace HB := hT HB hb5
  replace KX := hK KX hb5
  replace KY := hK KY hb5
  replace KZ := hK KZ hb5
  replace KS := hK KS hb5
  replace KD := hK KD hb5
  clear hb5
  obtain ⟨yS_0, yS_1, yS_z⟩ := blk2 KS
  obtain ⟨yD_0, yD_1, yD_z⟩ := blk2 KD
  go_wp2_with fail
  refine (OV.out _).mono ?_
  rintro e6 w6 ⟨rfl, hb6⟩
  replace HB := hT HB hb6
  replace KX := hK KX hb6
  replace KY := hK KY hb6
  replace KZ := hK KZ hb6
  replace KS := hK KS hb6
  replace KD := hK KD hb6
  clear yS_0 yS_1 yS_z yD_0 yD_1 yD_z
  clear hb6
  go_wp2_with fail
  have KQ := Lib.hid ((Blk.of (vs := #[.int .u64 (hiW q), .int .u64 (loW q)]) (t := 153) (w := w6) (b := w6.heap.size) rfl).alloc (.cells #[.int .u64 (hiW r), .int .u64 (loW r)] 153))
  have KR := Lib.hid (Blk.of (vs := #[.int .u64 (hiW r), .int .u64 (loW r)]) (t := 153) (w := w6.alloc (.cells #[.int .u64 (hiW q), .int .u64 (loW q)] 153)) (b := w6.heap.size + 1) (by simp))
  have hb7 : Below w6.heap.size w6 ((w6.alloc (.cells #[.int .u64 (hiW q), .int .u64 (loW q)] 153)).alloc (.cells #[.int .u64 (hiW r), .int .u64 (loW r)] 153)) := ((Below.refl _ _).alloc (Nat.le_refl _) _).alloc (by simp) _
  have hnQ := HB.out.size
  have nzQ_X := KX.out.lt
  have nzQ_Y := KY.out.lt
  have nzQ_Z := KZ.out.lt
  have nzQ_S := KS.out.lt
  have nzQ_D := KD.out.lt
  replace HB := hT HB hb7
  replace KX := hK KX hb7
  replace KY := hK KY hb7
  replace KZ := hK KZ hb7
  replace KS := hK KS hb7
  replace KD := hK KD hb7
  clear hb7
  generalize (w6.alloc (.cells #[.int .u64 (hiW q), .int .u64 (loW q)] 153)).alloc (.cells #[.int .u64 (hiW r), .int .u64 (loW r)] 153) = w7 at *
  generalize w6.heap.size = bQ at *
  have neQ_X : bQ ≠ w.heap.size := by omega
  have neR_X : bQ + 1 ≠ w.heap.size := by omega
  have neQ_Y : bQ ≠ (w.heap.size + 1) := by omega
  have neR_Y : bQ + 1 ≠ (w.heap.size + 1) := by omega
  have neQ_Z : bQ ≠ (w.heap.size + 1 + 1) := by omega
  have neR_Z : bQ + 1 ≠ (w.heap.size + 1 + 1) := by omega
  have neQ_S : bQ ≠ bS := by omega
  have neR_S : bQ + 1 ≠ bS := by omega
  have neQ_D : bQ ≠ bD := by omega
  have neR_D : bQ + 1 ≠ bD := by omega
  clear nzQ_X nzQ_Y nzQ_Z nzQ_S nzQ_D
  refine (ZR.out _).mono ?_
  rintro e8 w8 ⟨rfl, hb8⟩
  replace HB := hT HB hb8
  replace KX := hK KX hb8
  replace KY := hK KY hb8
  replace KZ := hK KZ hb8
  replace KS := hK KS hb8
  replace KD := hK KD hb8
  replace KQ := hK KQ hb8
  replace KR := hK KR hb8
  clear hb8
  go_wp2_with fail
  skip
  have gR_0 := fun d os => cell_regrown (KR.out.c 0 _ rfl) d os
  have gR_1 := fun d os => cell_regrown (KR.out.c 1 _ rfl) d os
  have gD_0 := fun d os => cell_regrown (KD.out.c 0 _ rfl) d os
  have gD_1 := fun d os => cell_regrown (KD.out.c 1 _ rfl) d os
  have rv0 := Lib.hid (fun d os => Calls.regrown_of (LS.out (Go.Sort.grow (redrawn w8 d) os)))
  have rv1 := Lib.hid (fun d os => Calls.regrown_of (CM.out (Go.Sort.grow (redrawn w8 d) os)))
  refine wp_region_quiet_below (by kernel_rfl) (by kernel_rfl) ?_
  repeat (quiet_step (first | with_reducible exact rv0.out _ _ | with_reducible exact rv1.out _ _))
  refine wpQuiet_nil ?_
  intro w9 hw9
  have hb9 : Below w8.heap.size w8 w9 := by
    obtain ⟨⟨dq, osq⟩, hw2⟩ := hw9
    rw [hw2]; exact below_regrown _ dq osq
  clear gR_0 gR_1 gD_0 gD_1 rv0 rv1 hw9
  replace HB := hT HB hb9
  replace KX := hK KX hb9
  replace KY := hK KY hb9
  replace KZ := hK KZ hb9
  replace KS := hK KS hb9
  replace KD := hK KD hb9
  replace KQ := hK KQ hb9
  replace KR := hK KR hb9
  clear hb9
  obtain ⟨yQ_0, yQ_1, yQ_z, yQ_f0, yQ_f1⟩ := blf2 KQ
  go_wp2_with fail
  refine (J.out _).mono ?_
  rintro e10 w10 ⟨rfl, hb10⟩
  replace HB := hT HB hb10
  replace KX := hK KX hb10
  replace KY := hK KY hb10
  replace KZ := hK KZ hb10
  replace KS := hK KS hb10
  replace KD := hK KD hb10
  replace KQ := hK KQ hb10
  replace KR := hK KR hb10
  clear yQ_0 yQ_1 yQ_z yQ_f0 yQ_f1
  clear hb10
  obtain ⟨yZ_0, yZ_1, yZ_z, yZ_f0, yZ_f1⟩ := blf2 KZ
  go_wp2
  have hs := st2 w10 (w.heap.size + 1 + 1) 0 (.int .i64 (hiW v)) 1 (.int .u64 (loW v))
  replace KX := oB hs KX (by omega)
  replace KY := oB hs KY (by omega)
  replace KZ := Lib.hid (blk_set (blk_set KZ.out (j := 0) (by simp) (.int .i64 (hiW v))) (j := 1) (by simp) (.int .u64 (loW v)))
  replace KS := oB hs KS (by omega)
  replace KD := oB hs KD (by omega)
  replace KQ := oB hs KQ (by omega)
  replace KR := oB hs KR (by omega)
  replace HB := oH hs HB (by omega)
  clear hs
  clear yZ_0 yZ_1 yZ_z yZ_f0 yZ_f1
  generalize (w10.setCell ⟨(w.heap.size + 1 + 1), 0, none⟩ (.int .i64 (hiW v))).setCell ⟨(w.heap.size + 1 + 1), 1, none⟩ (.int .u64 (loW v)) = w11 at *
  simp only [List.set] at KZ
  obtain ⟨yZ_0, yZ_1, yZ_z⟩ := blk2 KZ
  refine bodyPost_ret (v := .tuple #[.agg #[.int .i64 (hiW v), .int .u64 (loW v)], .bool true]) (by simp [results, Tryz.results105, go_sem, yZ_0, yZ_1]) rfl ⟨rfl, HB.out⟩
set_option maxHeartbeats 8000000 in
set_option maxRecDepth 100000 in
theorem div_path9 (x d q r v : Int) (w : World) (h : DivW x d true false q r 1) (h0 : 0 ≤ q) (h1 : q < 85070591730234615865843651857942052864) (hv : v = sgn true (q + 1)) :
    Calls Tryz.prog 105 #[wv x, wv d, .int .i64 0] w fun e w' => e = .returned (.tuple #[wv v, .bool true]) ∧ Below w.heap.size w w' := by
  have J := Lib.hid fun w => join_any (q + 1) true w (by omega) (by omega)
  rw [← hv] at J
  clear hv
  unfold wv at J ⊢
  have S1 := fun w => add64 (loW q) 1 0 (by unfold loW; omega) (by omega) (by omega) (by omega) w
  have I1 := inc_hi h0 h1
  have I2 := inc_lo q
  rw [I2] at S1
  generalize (loW q + 1 + 0) / 18446744073709551616 = cc at *
  clear h0 h1
  have SX := Lib.hid h.sx
  have SY := Lib.hid h.sy
  have ZD := Lib.hid h.zd
  have OV := Lib.hid h.ov
  have ZR := Lib.hid h.zr
  have LS := Lib.hid h.ls
  have CM := Lib.hid h.cm
  clear h
  obtain ⟨KX, KY, KZ, HB⟩ := ent3 w #[.int .i64 (hiW x), .int .u64 (loW x)] 79 #[.int .i64 (hiW d), .int .u64 (loW d)] 79 #[.int .i64 0, .int .u64 0] 79
  go_enter Tryz.func105, Tryz.ntmps105
  go_wp2_with fail
  generalize ((w.alloc (.cells #[.int .i64 (hiW x), .int .u64 (loW x)] 79)).alloc (.cells #[.int .i64 (hiW d), .int .u64 (loW d)] 79)).alloc (.cells #[.int .i64 0, .int .u64 0] 79) = w0 at *
  refine (SX.out _).mono ?_
  rintro e1 w1 ⟨rfl, hb1⟩
  replace HB := hT HB hb1
  replace KX := hK KX hb1
  replace KY := hK KY hb1
  replace KZ := hK KZ hb1
  clear hb1
  obtain ⟨yY_0, yY_1, yY_z⟩ := blk2 KY
  go_wp2_with fail
  obtain ⟨KS, hb2⟩ := alB w1 #[.int .u64 (hiW (absW x)), .int .u64 (loW (absW x))] 153
  have hnS := HB.out.size
  have nzS_X := KX.out.lt
  have nzS_Y := KY.out.lt
  have nzS_Z := KZ.out.lt
  replace HB := hT HB hb2
  replace KX := hK KX hb2
  replace KY := hK KY hb2
  replace KZ := hK KZ hb2
  clear yY_0 yY_1 yY_z
  clear hb2
  generalize w1.alloc (.cells #[.int .u64 (hiW (absW x)), .int .u64 (loW (absW x))] 153) = w2 at *
  generalize w1.heap.size = bS at *
  have neS_X : bS ≠ w.heap.size := by omega
  have neS_Y : bS ≠ (w.heap.size + 1) := by omega
  have neS_Z : bS ≠ (w.heap.size + 1 + 1) := by omega
  clear nzS_X nzS_Y nzS_Z
  refine (SY.out _).mono ?_
  rintro e3 w3 ⟨rfl, hb3⟩
  replace HB := hT HB hb3
  replace KX := hK KX hb3
  replace KY := hK KY hb3
  replace KZ := hK KZ hb3
  replace KS := hK KS hb3
  clear hb3
  go_wp2_with fail
  obtain ⟨KD, hb4⟩ := alB w3 #[.int .u64 (hiW d), .int .u64 (loW d)] 153
  have hnD := HB.out.size
  have nzD_X := KX.out.lt
  have nzD_Y := KY.out.lt
  have nzD_Z := KZ.out.lt
  have nzD_S := KS.out.lt
  replace HB := hT HB hb4
  replace KX := hK KX hb4
  replace KY := hK KY hb4
  replace KZ := hK KZ hb4
  replace KS := hK KS hb4
  clear hb4
  generalize w3.alloc (.cells #[.int .u64 (hiW d), .int .u64 (loW d)] 153) = w4 at *
  generalize w3.heap.size = bD at *
  have neD_X : bD ≠ w.heap.size := by omega
  have neD_Y : bD ≠ (w.heap.size + 1) := by omega
  have neD_Z : bD ≠ (w.heap.size + 1 + 1) := by omega
  have neD_S : bD ≠ bS := by omega
  clear nzD_X nzD_Y nzD_Z nzD_S
  refine (ZD.out _).mono ?_
  rintro e5 w5 ⟨rfl, hb5⟩
  replace HB := hT HB hb5
  replace KX := hK KX hb5
  replace KY := hK KY hb5
  replace KZ := hK KZ hb5
  replace KS := hK KS hb5
  replace KD := hK KD hb5
  clear hb5
  obtain ⟨yS_0, yS_1, yS_z⟩ := blk2 KS
  obtain ⟨yD_0, yD_1, yD_z⟩ := blk2 KD
  go_wp2_with fail
  refine (OV.out _).mono ?_
  rintro e6 w6 ⟨rfl, hb6⟩
  replace HB := hT HB hb6
  replace KX := hK KX hb6
  replace KY := hK KY hb6
  replace KZ := hK KZ hb6
  replace KS := hK KS hb6
  replace KD := hK KD hb6
  clear yS_0 yS_1 yS_z yD_0 yD_1 yD_z
  clear hb6
  go_wp2_with fail
  have KQ := Lib.hid ((Blk.of (vs := #[.int .u64 (hiW q), .int .u64 (loW q)]) (t := 153) (w := w6) (b := w6.heap.size) rfl).alloc (.cells #[.int .u64 (hiW r), .int .u64 (loW r)] 153))
  have KR := Lib.hid (Blk.of (vs := #[.int .u64 (hiW r), .int .u64 (loW r)]) (t := 153) (w := w6.alloc (.cells #[.int .u64 (hiW q), .int .u64 (loW q)] 153)) (b := w6.heap.size + 1) (by simp))
  have hb7 : Below w6.heap.size w6 ((w6.alloc (.cells #[.int .u64 (hiW q), .int .u64 (loW q)] 153)).alloc (.cells #[.int .u64 (hiW r), .int .u64 (loW r)] 153)) := ((Below.refl _ _).alloc (Nat.le_refl _) _).alloc (by simp) _
  have hnQ := HB.out.size
  have nzQ_X := KX.out.lt
  have nzQ_Y := KY.out.lt
  have nzQ_Z := KZ.out.lt
  have nzQ_S := KS.out.lt
  have nzQ_D := KD.out.lt
  replace HB := hT HB hb7
  replace KX := hK KX hb7
  replace KY := hK KY hb7
  replace KZ := hK KZ hb7
  replace KS := hK KS hb7
  replace KD := hK KD hb7
  clear hb7
  generalize (w6.alloc (.cells #[.int .u64 (hiW q), .int .u64 (loW q)] 153)).alloc (.cells #[.int .u64 (hiW r), .int .u64 (loW r)] 153) = w7 at *
  generalize w6.heap.size = bQ at *
  have neQ_X : bQ ≠ w.heap.size := by omega
  have neR_X : bQ + 1 ≠ w.heap.size := by omega
  have neQ_Y : bQ ≠ (w.heap.size + 1) := by omega
  have neR_Y : bQ + 1 ≠ (w.heap.size + 1) := by omega
  have neQ_Z : bQ ≠ (w.heap.size + 1 + 1) := by omega
  have neR_Z : bQ + 1 ≠ (w.heap.size + 1 + 1) := by omega
  have neQ_S : bQ ≠ bS := by omega
  have neR_S : bQ + 1 ≠ bS := by omega
  have neQ_D : bQ ≠ bD := by omega
  have neR_D : bQ + 1 ≠ bD := by omega
  clear nzQ_X nzQ_Y nzQ_Z nzQ_S nzQ_D
  refine (ZR.out _).mono ?_
  rintro e8 w8 ⟨rfl, hb8⟩
  replace HB := hT HB hb8
  replace KX := hK KX hb8
  replace KY := hK KY hb8
  replace KZ := hK KZ hb8
  replace KS := hK KS hb8
  replace KD := hK KD hb8
  replace KQ := hK KQ hb8
  replace KR := hK KR hb8
  clear hb8
  go_wp2_with fail
  skip
  have gR_0 := fun d os => cell_regrown (KR.out.c 0 _ rfl) d os
  have gR_1 := fun d os => cell_regrown (KR.out.c 1 _ rfl) d os
  have gD_0 := fun d os => cell_regrown (KD.out.c 0 _ rfl) d os
  have gD_1 := fun d os => cell_regrown (KD.out.c 1 _ rfl) d os
  have rv0 := Lib.hid (fun d os => Calls.regrown_of (LS.out (Go.Sort.grow (redrawn w8 d) os)))
  have rv1 := Lib.hid (fun d os => Calls.regrown_of (CM.out (Go.Sort.grow (redrawn w8 d) os)))
  refine wp_region_quiet_below (by kernel_rfl) (by kernel_rfl) ?_
  repeat (quiet_step (first | with_reducible exact rv0.out _ _ | with_reducible exact rv1.out _ _))
  refine wpQuiet_nil ?_
  intro w9 hw9
  have hb9 : Below w8.heap.size w8 w9 := by
    obtain ⟨⟨dq, osq⟩, hw2⟩ := hw9
    rw [hw2]; exact below_regrown _ dq osq
  clear gR_0 gR_1 gD_0 gD_1 rv0 rv1 hw9
  replace HB := hT HB hb9
  replace KX := hK KX hb9
  replace KY := hK KY hb9
  replace KZ := hK KZ hb9
  replace KS := hK KS hb9
  replace KD := hK KD hb9
  replace KQ := hK KQ hb9
  replace KR := hK KR hb9
  clear hb9
  obtain ⟨yQ_0, yQ_1, yQ_z, yQ_f0, yQ_f1⟩ := blf2 KQ
  go_wp2_with fail
  have hs := st2 w9 bQ 0 (.int .u64 (hiW (q + 1))) 1 (.int .u64 (loW (q + 1)))
  replace KX := oB hs KX (by omega)
  replace KY := oB hs KY (by omega)
  replace KZ := oB hs KZ (by omega)
  replace KS := oB hs KS (by omega)
  replace KD := oB hs KD (by omega)
  replace KQ := Lib.hid (blk_set (blk_set KQ.out (j := 0) (by simp) (.int .u64 (hiW (q + 1)))) (j := 1) (by simp) (.int .u64 (loW (q + 1))))
  replace KR := oB hs KR (by omega)
  replace HB := oH hs HB (by omega)
  clear hs
  clear yQ_0 yQ_1 yQ_z yQ_f0 yQ_f1
  generalize (w9.setCell ⟨bQ, 0, none⟩ (.int .u64 (hiW (q + 1)))).setCell ⟨bQ, 1, none⟩ (.int .u64 (loW (q + 1))) = w10 at *
  simp only [List.set] at KQ
  refine (J.out _).mono ?_
  rintro e11 w11 ⟨rfl, hb11⟩
  replace HB := hT HB hb11
  replace KX := hK KX hb11
  replace KY := hK KY hb11
  replace KZ := hK KZ hb11
  replace KS := hK KS hb11
  replace KD := hK KD hb11
  replace KQ := hK KQ hb11
  replace KR := hK KR hb11
  clear hb11
  obtain ⟨yZ_0, yZ_1, yZ_z, yZ_f0, yZ_f1⟩ := blf2 KZ
  go_wp2
  have hs := st2 w11 (w.heap.size + 1 + 1) 0 (.int .i64 (hiW v)) 1 (.int .u64 (loW v))
  replace KX := oB hs KX (by omega)
  replace KY := oB hs KY (by omega)
  replace KZ := Lib.hid (blk_set (blk_set KZ.out (j := 0) (by simp) (.int .i64 (hiW v))) (j := 1) (by simp) (.int .u64 (loW v)))
  replace KS := oB hs KS (by omega)
  replace KD := oB hs KD (by omega)
  replace KQ := oB hs KQ (by omega)
  replace KR := oB hs KR (by omega)
  replace HB := oH hs HB (by omega)
  clear hs
  clear yZ_0 yZ_1 yZ_z yZ_f0 yZ_f1
  generalize (w11.setCell ⟨(w.heap.size + 1 + 1), 0, none⟩ (.int .i64 (hiW v))).setCell ⟨(w.heap.size + 1 + 1), 1, none⟩ (.int .u64 (loW v)) = w12 at *
  simp only [List.set] at KZ
  obtain ⟨yZ_0, yZ_1, yZ_z⟩ := blk2 KZ
  refine bodyPost_ret (v := .tuple #[.agg #[.int .i64 (hiW v), .int .u64 (loW v)], .bool true]) (by simp [results, Tryz.results105, go_sem, yZ_0, yZ_1]) rfl ⟨rfl, HB.out⟩
theorem div_parts {x d : Int} (hx0 : -85070591730234615865843651857942052864 < x) (hx : x < 85070591730234615865843651857942052864) (hd : 0 < d) :
    0 ≤ absW x / d ∧ absW x / d < 85070591730234615865843651857942052864 ∧ 0 ≤ absW x % d ∧ absW x % d < d := by
  have ax0 := absW_nonneg x
  have ax1 : absW x < 85070591730234615865843651857942052864 := by unfold absW; split <;> omega
  refine ⟨Int.ediv_nonneg ax0 (by omega), ?_, Int.emod_nonneg _ (by omega), Int.emod_lt_of_pos _ hd⟩
  exact Int.lt_of_le_of_lt (Int.ediv_le_self _ ax0) ax1
/-- rounded up -/
theorem wdivide_up (x d : Int) (w : World) (hx0 : 0 ≤ x) (hx : x < 85070591730234615865843651857942052864) (hd : 0 < d) (hd1 : d < 85070591730234615865843651857942052864) :
    Calls Tryz.prog 105 #[wv x, wv d, .int .i64 1] w fun e w' => e = .returned (.tuple #[wv (ceilI x d), .bool true]) ∧ Below w.heap.size w w' := by
  have W := div_world (x := x) (d := d) (q := absW x / d) (r := absW x % d) (by omega) hx hd hd1 rfl rfl
  obtain ⟨p0, p1, p2, p3⟩ := div_parts (x := x) (by omega) hx hd
  have ea : absW x = x := by unfold absW; rw [if_neg (by omega)]
  have hn : decide (x < 0) = false := by simp; omega
  have U := up_pos (x := x) hd
  rw [hn] at W
  rw [ea] at W p0 p1 p2 p3
  by_cases hr : x % d = 0
  · rw [decide_eq_true hr] at W
    exact div_path0 x d _ _ _ _ w W p0 p1 (by rw [U, if_neg (by omega)]; unfold sgn; simp)
  · rw [decide_eq_false hr] at W
    exact div_path1 x d _ _ _ _ w W p0 p1 (by rw [U, if_pos hr]; unfold sgn; simp)
/-- rounded to the nearest -/
theorem wdivide_near (x d : Int) (w : World) (hx0 : -85070591730234615865843651857942052864 < x) (hx : x < 85070591730234615865843651857942052864) (hd : 0 < d) (hd1 : d < 85070591730234615865843651857942052864) :
    Calls Tryz.prog 105 #[wv x, wv d, .int .i64 0] w fun e w' => e = .returned (.tuple #[wv (nearI2 x d), .bool true]) ∧ Below w.heap.size w w' := by
  have W := div_world (x := x) (d := d) (q := absW x / d) (r := absW x % d) hx0 hx hd hd1 rfl rfl
  obtain ⟨p0, p1, p2, p3⟩ := div_parts (x := x) hx0 hx hd
  by_cases hn : x < 0
  · have U := near_negW (x := x) hd
    rw [decide_eq_true hn] at W
    have ea : absW x = -x := by unfold absW; rw [if_pos hn]
    rw [ea] at W p0 p1 p2 p3
    generalize (-x) / d = q at *
    generalize (-x) % d = r at *
    by_cases hr : r = 0
    · rw [decide_eq_true hr, show cmpI r (d - r) = -1 by unfold cmpI; rw [if_pos (by omega)]] at W
      exact div_path6 x d _ _ _ w W p0 p1 (by rw [U, if_neg (by omega)]; unfold sgn; simp)
    · rw [decide_eq_false hr] at W
      rcases Int.lt_trichotomy r (d - r) with h | h | h
      · rw [show cmpI r (d - r) = -1 by unfold cmpI; rw [if_pos h]] at W
        exact div_path7 x d _ _ _ w W p0 p1 (by rw [U, if_neg (by omega)]; unfold sgn; simp)
      · rw [show cmpI r (d - r) = 0 by unfold cmpI; rw [if_neg (by omega), if_neg (by omega)]] at W
        exact div_path8 x d _ _ _ w W p0 p1 (by rw [U, if_neg (by omega)]; unfold sgn; simp)
      · rw [show cmpI r (d - r) = 1 by unfold cmpI; rw [if_neg (by omega), if_pos h]] at W
        exact div_path9 x d _ _ _ w W p0 p1 (by rw [U, if_pos (by omega)]; unfold sgn; simp)
  · have U := near_posW (x := x) hd
    rw [decide_eq_false hn] at W
    have ea : absW x = x := by unfold absW; rw [if_neg hn]
    rw [ea] at W p0 p1 p2 p3
    generalize x / d = q at *
    generalize x % d = r at *
    by_cases hr : r = 0
    · rw [decide_eq_true hr, show cmpI r (d - r) = -1 by unfold cmpI; rw [if_pos (by omega)]] at W
      exact div_path2 x d _ _ _ w W p0 p1 (by rw [U, if_neg (by omega)]; unfold sgn; simp)
    · rw [decide_eq_false hr] at W
      rcases Int.lt_trichotomy r (d - r) with h | h | h
      · rw [show cmpI r (d - r) = -1 by unfold cmpI; rw [if_pos h]] at W
        exact div_path3 x d _ _ _ w W p0 p1 (by rw [U, if_neg (by omega)]; unfold sgn; simp)
      · rw [show cmpI r (d - r) = 0 by unfold cmpI; rw [if_neg (by omega), if_neg (by omega)]] at W
        exact div_path4 x d _ _ _ w W p0 p1 (by rw [U, if_pos (by omega)]; unfold sgn; simp)
      · rw [show cmpI r (d - r) = 1 by unfold cmpI; rw [if_neg (by omega), if_pos h]] at W
        exact div_path5 x d _ _ _ w W p0 p1 (by rw [U, if_pos (by omega)]; unfold sgn; simp)
set_option maxHeartbeats 4000000 in
set_option maxRecDepth 100000 in
theorem wdivup_any (x d : Int) (w : World) (hx0 : 0 ≤ x) (hx : x < 85070591730234615865843651857942052864) (hd : 0 < d) (hd1 : d < 85070591730234615865843651857942052864) :
    Calls Tryz.prog 117 #[wv x, wv d] w fun e w' => e = .returned (.tuple #[wv (ceilI x d), .bool true]) ∧ Below w.heap.size w w' := by
  have DV := Lib.hid fun w => wdivide_up x d w hx0 hx hd hd1
  generalize ceilI x d = v at *
  clear hx0 hx hd hd1
  unfold wv at DV ⊢
  obtain ⟨KX, KY, KZ, HB⟩ := ent3 w #[.int .i64 (hiW x), .int .u64 (loW x)] 79 #[.int .i64 (hiW d), .int .u64 (loW d)] 79 #[.int .i64 0, .int .u64 0] 79
  go_enter Tryz.func117, Tryz.ntmps117
  go_wp2_with fail
  generalize ((w.alloc (.cells #[.int .i64 (hiW x), .int .u64 (loW x)] 79)).alloc (.cells #[.int .i64 (hiW d), .int .u64 (loW d)] 79)).alloc (.cells #[.int .i64 0, .int .u64 0] 79) = w0 at *
  refine (DV.out _).mono ?_
  rintro e1 w1 ⟨rfl, hb1⟩
  replace HB := hT HB hb1
  replace KX := hK KX hb1
  replace KY := hK KY hb1
  replace KZ := hK KZ hb1
  clear hb1
  obtain ⟨yZ_0, yZ_1, yZ_z, yZ_f0, yZ_f1⟩ := blf2 KZ
  go_wp2
  have hs := st2 w1 (w.heap.size + 1 + 1) 0 (.int .i64 (hiW v)) 1 (.int .u64 (loW v))
  replace KX := oB hs KX (by omega)
  replace KY := oB hs KY (by omega)
  replace KZ := Lib.hid (blk_set (blk_set KZ.out (j := 0) (by simp) (.int .i64 (hiW v))) (j := 1) (by simp) (.int .u64 (loW v)))
  replace HB := oH hs HB (by omega)
  clear hs
  clear yZ_0 yZ_1 yZ_z yZ_f0 yZ_f1
  generalize (w1.setCell ⟨(w.heap.size + 1 + 1), 0, none⟩ (.int .i64 (hiW v))).setCell ⟨(w.heap.size + 1 + 1), 1, none⟩ (.int .u64 (loW v)) = w2 at *
  simp only [List.set] at KZ
  obtain ⟨yZ_0, yZ_1, yZ_z⟩ := blk2 KZ
  refine bodyPost_ret (v := .tuple #[.agg #[.int .i64 (hiW v), .int .u64 (loW v)], .bool true]) (by simp [results, Tryz.results117, go_sem, yZ_0, yZ_1]) rfl ⟨rfl, HB.out⟩
set_option maxHeartbeats 4000000 in
set_option maxRecDepth 100000 in
theorem wnear_any (x d : Int) (w : World) (hx0 : -85070591730234615865843651857942052864 < x) (hx : x < 85070591730234615865843651857942052864) (hd : 0 < d) (hd1 : d < 85070591730234615865843651857942052864) :
    Calls Tryz.prog 83 #[wv x, wv d] w fun e w' => e = .returned (.tuple #[wv (nearI2 x d), .bool true]) ∧ Below w.heap.size w w' := by
  have DV := Lib.hid fun w => wdivide_near x d w hx0 hx hd hd1
  generalize nearI2 x d = v at *
  clear hx0 hx hd hd1
  unfold wv at DV ⊢
  obtain ⟨KX, KY, KZ, HB⟩ := ent3 w #[.int .i64 (hiW x), .int .u64 (loW x)] 79 #[.int .i64 (hiW d), .int .u64 (loW d)] 79 #[.int .i64 0, .int .u64 0] 79
  go_enter Tryz.func83, Tryz.ntmps83
  go_wp2_with fail
  generalize ((w.alloc (.cells #[.int .i64 (hiW x), .int .u64 (loW x)] 79)).alloc (.cells #[.int .i64 (hiW d), .int .u64 (loW d)] 79)).alloc (.cells #[.int .i64 0, .int .u64 0] 79) = w0 at *
  refine (DV.out _).mono ?_
  rintro e1 w1 ⟨rfl, hb1⟩
  replace HB := hT HB hb1
  replace KX := hK KX hb1
  replace KY := hK KY hb1
  replace KZ := hK KZ hb1
  clear hb1
  obtain ⟨yZ_0, yZ_1, yZ_z, yZ_f0, yZ_f1⟩ := blf2 KZ
  go_wp2
  have hs := st2 w1 (w.heap.size + 1 + 1) 0 (.int .i64 (hiW v)) 1 (.int .u64 (loW v))
  replace KX := oB hs KX (by omega)
  replace KY := oB hs KY (by omega)
  replace KZ := Lib.hid (blk_set (blk_set KZ.out (j := 0) (by simp) (.int .i64 (hiW v))) (j := 1) (by simp) (.int .u64 (loW v)))
  replace HB := oH hs HB (by omega)
  clear hs
  clear yZ_0 yZ_1 yZ_z yZ_f0 yZ_f1
  generalize (w1.setCell ⟨(w.heap.size + 1 + 1), 0, none⟩ (.int .i64 (hiW v))).setCell ⟨(w.heap.size + 1 + 1), 1, none⟩ (.int .u64 (loW v)) = w2 at *
  simp only [List.set] at KZ
  obtain ⟨yZ_0, yZ_1, yZ_z⟩ := blk2 KZ
  refine bodyPost_ret (v := .tuple #[.agg #[.int .i64 (hiW v), .int .u64 (loW v)], .bool true]) (by simp [results, Tryz.results83, go_sem, yZ_0, yZ_1]) rfl ⟨rfl, HB.out⟩
end Go.Proofs.YtidelghgjibndaaGreat
namespace Go.Proofs.YtidelghgjibndaaGreat
set_option linter.unusedVariables false
open Go.RowKit
/-- a number of 64 bits -/
structure I64 (x : Int) : Prop where
  lo : -9223372036854775808 ≤ x
  hi : x ≤ 9223372036854775807
instance (x : Int) : Decidable (I64 x) := decidable_of_iff (-9223372036854775808 ≤ x ∧ x ≤ 9223372036854775807) ⟨fun h => ⟨h.1, h.2⟩, fun h => ⟨h.lo, h.hi⟩⟩
def wv1 (x : Int) : Value := .tuple #[wv x, .bool true]
set_option maxHeartbeats 8000000 in
set_option maxRecDepth 100000 in
theorem wneg_any (x : Int) (w : World) (hx : FitW x) (hn : FitW (-x)) :
    Calls Tryz.prog 118 #[wv x] w fun e w' => e = .returned (wv1 (-x)) ∧ Below w.heap.size w w' := by
  have SB := Lib.hid fun w => wsub_any 0 x w ⟨by omega, by omega⟩ hx (by rw [Int.zero_sub]; exact hn)
  unfold wv at SB
  simp only [show hiW 0 = 0 from rfl, show loW 0 = 0 from rfl, Int.zero_sub] at SB
  unfold wv1 wv
  generalize -x = r at *
  clear hx hn
  have KX := Lib.hid ((Blk.of (vs := #[.int .i64 (hiW x), .int .u64 (loW x)]) (t := 79) (w := w) (b := w.heap.size) (by simp)).alloc (.cells #[.int .i64 0, .int .u64 0] 79))
  have KZ := Lib.hid (Blk.of (vs := #[.int .i64 0, .int .u64 0]) (t := 79) (w := (w.alloc (.cells #[.int .i64 (hiW x), .int .u64 (loW x)] 79))) (b := w.heap.size + 1) (by simp))
  have HB := Lib.hid (((Below.refl w.heap.size w).alloc (by simp; try omega) (.cells #[.int .i64 (hiW x), .int .u64 (loW x)] 79)).alloc (by simp; try omega) (.cells #[.int .i64 0, .int .u64 0] 79))
  go_enter Tryz.func118, Tryz.ntmps118
  go_wp2_with fail
  generalize (w.alloc (.cells #[.int .i64 (hiW x), .int .u64 (loW x)] 79)).alloc (.cells #[.int .i64 0, .int .u64 0] 79) = w0 at *
  refine (SB.out _).mono ?_
  rintro e1 w1 ⟨rfl, hb1⟩
  replace HB := Lib.hid (HB.out.trans (hb1.mono HB.out.size))
  replace KX := Lib.hid (KX.out.below hb1)
  replace KZ := Lib.hid (KZ.out.below hb1)
  clear hb1
  have yZ := KZ.out
  have yZ_0 := yZ.c 0 _ rfl
  have yZ_1 := yZ.c 1 _ rfl
  have yZ_z := yZ.lt
  have yZ_f0 := yZ.f 0 _ rfl
  have yZ_f1 := yZ.f 1 _ rfl
  clear yZ
  go_wp2
  replace KX := Lib.hid (blk_other (b := w.heap.size) (n := (w.heap.size + 1)) (j := 1) (blk_other (b := w.heap.size) (n := (w.heap.size + 1)) (j := 0) KX.out (by omega) (.int .i64 (hiW r))) (by omega) (.int .u64 (loW r)))
  replace KZ := Lib.hid (blk_set (blk_set KZ.out (j := 0) (by simp) (.int .i64 (hiW r))) (j := 1) (by simp) (.int .u64 (loW r)))
  replace HB := Lib.hid ((HB.out.setCell (p := ⟨(w.heap.size + 1), 0, none⟩) (show w.heap.size ≤ (w.heap.size + 1) by omega) (.int .i64 (hiW r))).setCell (p := ⟨(w.heap.size + 1), 1, none⟩) (show w.heap.size ≤ (w.heap.size + 1) by omega) (.int .u64 (loW r)))
  clear yZ_0 yZ_1 yZ_z yZ_f0 yZ_f1
  generalize (w1.setCell ⟨(w.heap.size + 1), 0, none⟩ (.int .i64 (hiW r))).setCell ⟨(w.heap.size + 1), 1, none⟩ (.int .u64 (loW r)) = w2 at *
  simp only [List.set] at KZ
  have yZ := KZ.out
  have yZ_0 := yZ.c 0 _ rfl
  have yZ_1 := yZ.c 1 _ rfl
  have yZ_z := yZ.lt
  clear yZ
  refine bodyPost_ret (v := .tuple #[.agg #[.int .i64 (hiW r), .int .u64 (loW r)], .bool true]) (by simp [results, Tryz.results118, go_sem, yZ_0, yZ_1]) rfl ⟨rfl, HB.out⟩
set_option maxHeartbeats 8000000 in
set_option maxRecDepth 100000 in
theorem wwabs_any (x : Int) (w : World) (hx : FitW x) (hn : FitW (-x)) :
    Calls Tryz.prog 93 #[wv x] w fun e w' => e = .returned (wv1 (absZ x)) ∧ Below w.heap.size w w' := by
  by_cases h : x < 0
  · have NG := Lib.hid fun w => wneg_any x w hx hn
    have g : decide (hiW x < 0) = true := by have := (hi_neg x).2 h; simpa using this
    rw [show absZ x = -x by unfold absZ; rw [if_pos h]]
    unfold wv1 wv at *
    generalize -x = r at *
    clear hx hn h
    have KX := Lib.hid ((Blk.of (vs := #[.int .i64 (hiW x), .int .u64 (loW x)]) (t := 79) (w := w) (b := w.heap.size) (by simp)).alloc (.cells #[.int .i64 0, .int .u64 0] 79))
    have KZ := Lib.hid (Blk.of (vs := #[.int .i64 0, .int .u64 0]) (t := 79) (w := (w.alloc (.cells #[.int .i64 (hiW x), .int .u64 (loW x)] 79))) (b := w.heap.size + 1) (by simp))
    have HB := Lib.hid (((Below.refl w.heap.size w).alloc (by simp; try omega) (.cells #[.int .i64 (hiW x), .int .u64 (loW x)] 79)).alloc (by simp; try omega) (.cells #[.int .i64 0, .int .u64 0] 79))
    go_enter Tryz.func93, Tryz.ntmps93
    go_wp2_with fail
    generalize (w.alloc (.cells #[.int .i64 (hiW x), .int .u64 (loW x)] 79)).alloc (.cells #[.int .i64 0, .int .u64 0] 79) = w0 at *
    refine (NG.out _).mono ?_
    rintro e1 w1 ⟨rfl, hb1⟩
    replace HB := Lib.hid (HB.out.trans (hb1.mono HB.out.size))
    replace KX := Lib.hid (KX.out.below hb1)
    replace KZ := Lib.hid (KZ.out.below hb1)
    clear hb1
    have yZ := KZ.out
    have yZ_0 := yZ.c 0 _ rfl
    have yZ_1 := yZ.c 1 _ rfl
    have yZ_z := yZ.lt
    have yZ_f0 := yZ.f 0 _ rfl
    have yZ_f1 := yZ.f 1 _ rfl
    clear yZ
    go_wp2
    replace KX := Lib.hid (blk_other (b := w.heap.size) (n := (w.heap.size + 1)) (j := 1) (blk_other (b := w.heap.size) (n := (w.heap.size + 1)) (j := 0) KX.out (by omega) (.int .i64 (hiW r))) (by omega) (.int .u64 (loW r)))
    replace KZ := Lib.hid (blk_set (blk_set KZ.out (j := 0) (by simp) (.int .i64 (hiW r))) (j := 1) (by simp) (.int .u64 (loW r)))
    replace HB := Lib.hid ((HB.out.setCell (p := ⟨(w.heap.size + 1), 0, none⟩) (show w.heap.size ≤ (w.heap.size + 1) by omega) (.int .i64 (hiW r))).setCell (p := ⟨(w.heap.size + 1), 1, none⟩) (show w.heap.size ≤ (w.heap.size + 1) by omega) (.int .u64 (loW r)))
    clear yZ_0 yZ_1 yZ_z yZ_f0 yZ_f1
    generalize (w1.setCell ⟨(w.heap.size + 1), 0, none⟩ (.int .i64 (hiW r))).setCell ⟨(w.heap.size + 1), 1, none⟩ (.int .u64 (loW r)) = w2 at *
    simp only [List.set] at KZ
    have yZ := KZ.out
    have yZ_0 := yZ.c 0 _ rfl
    have yZ_1 := yZ.c 1 _ rfl
    have yZ_z := yZ.lt
    clear yZ
    refine bodyPost_ret (v := .tuple #[.agg #[.int .i64 (hiW r), .int .u64 (loW r)], .bool true]) (by simp [results, Tryz.results93, go_sem, yZ_0, yZ_1]) rfl ⟨rfl, HB.out⟩
  · have g : decide (hiW x < 0) = false := by have := hi_neg x; simp; omega
    rw [show absZ x = x by unfold absZ; rw [if_neg h]]
    unfold wv1 wv
    clear hx hn h
    have KX := Lib.hid ((Blk.of (vs := #[.int .i64 (hiW x), .int .u64 (loW x)]) (t := 79) (w := w) (b := w.heap.size) (by simp)).alloc (.cells #[.int .i64 0, .int .u64 0] 79))
    have KZ := Lib.hid (Blk.of (vs := #[.int .i64 0, .int .u64 0]) (t := 79) (w := (w.alloc (.cells #[.int .i64 (hiW x), .int .u64 (loW x)] 79))) (b := w.heap.size + 1) (by simp))
    have HB := Lib.hid (((Below.refl w.heap.size w).alloc (by simp; try omega) (.cells #[.int .i64 (hiW x), .int .u64 (loW x)] 79)).alloc (by simp; try omega) (.cells #[.int .i64 0, .int .u64 0] 79))
    go_enter Tryz.func93, Tryz.ntmps93
    go_wp2
    refine bodyPost_ret (v := .tuple #[.agg #[.int .i64 (hiW x), .int .u64 (loW x)], .bool true]) (by simp [results, Tryz.results93, go_sem]) rfl ⟨rfl, ?_⟩
    exact ((Below.refl _ _).alloc (Nat.le_refl _) _).alloc (by simp) _
set_option maxHeartbeats 8000000 in
set_option maxRecDepth 100000 in
theorem lsq_less (a b c d : Int) (w : World) (ha : I64 a) (hb : I64 b) (hc : I64 c) (hd : I64 d) (hf : FitW (a * b - c * d)) :
    Calls Tryz.prog 54 #[.int .i64 a, .int .i64 b, .int .i64 c, .int .i64 d] w fun e w' => e = .returned (wv (a * b - c * d)) ∧ Below w.heap.size w w' := by
  have MA := Lib.hid fun w => wmul_any a b w ha.lo ha.hi hb.lo hb.hi
  have MC := Lib.hid fun w => wmul_any c d w hc.lo hc.hi hd.lo hd.hi
  have SB := Lib.hid fun w => wsub_any (a * b) (c * d) w (mul_fit ha.lo ha.hi hb.lo hb.hi) (mul_fit hc.lo hc.hi hd.lo hd.hi) hf
  unfold wv at *
  generalize a * b - c * d = r at *
  generalize a * b = p at *
  generalize c * d = q at *
  clear ha hb hc hd hf
  have KZ := Lib.hid (Blk.of (vs := #[.int .i64 0, .int .u64 0]) (t := 79) (w := w) (b := w.heap.size) (by simp))
  have HB := Lib.hid ((Below.refl w.heap.size w).alloc (by simp; try omega) (.cells #[.int .i64 0, .int .u64 0] 79))
  go_enter Tryz.func54, Tryz.ntmps54
  go_wp2_with fail
  generalize w.alloc (.cells #[.int .i64 0, .int .u64 0] 79) = w0 at *
  refine (MA.out _).mono ?_
  rintro e1 w1 ⟨rfl, hb1⟩
  replace HB := Lib.hid (HB.out.trans (hb1.mono HB.out.size))
  replace KZ := Lib.hid (KZ.out.below hb1)
  clear hb1
  go_wp2_with fail
  refine (MC.out _).mono ?_
  rintro e2 w2 ⟨rfl, hb2⟩
  replace HB := Lib.hid (HB.out.trans (hb2.mono HB.out.size))
  replace KZ := Lib.hid (KZ.out.below hb2)
  clear hb2
  go_wp2_with fail
  refine (SB.out _).mono ?_
  rintro e3 w3 ⟨rfl, hb3⟩
  replace HB := Lib.hid (HB.out.trans (hb3.mono HB.out.size))
  replace KZ := Lib.hid (KZ.out.below hb3)
  clear hb3
  have yZ := KZ.out
  have yZ_0 := yZ.c 0 _ rfl
  have yZ_1 := yZ.c 1 _ rfl
  have yZ_z := yZ.lt
  have yZ_f0 := yZ.f 0 _ rfl
  have yZ_f1 := yZ.f 1 _ rfl
  clear yZ
  go_wp2
  replace KZ := Lib.hid (blk_set (blk_set KZ.out (j := 0) (by simp) (.int .i64 (hiW r))) (j := 1) (by simp) (.int .u64 (loW r)))
  replace HB := Lib.hid ((HB.out.setCell (p := ⟨w.heap.size, 0, none⟩) (show w.heap.size ≤ w.heap.size by omega) (.int .i64 (hiW r))).setCell (p := ⟨w.heap.size, 1, none⟩) (show w.heap.size ≤ w.heap.size by omega) (.int .u64 (loW r)))
  clear yZ_0 yZ_1 yZ_z yZ_f0 yZ_f1
  generalize (w3.setCell ⟨w.heap.size, 0, none⟩ (.int .i64 (hiW r))).setCell ⟨w.heap.size, 1, none⟩ (.int .u64 (loW r)) = w4 at *
  simp only [List.set] at KZ
  have KV := Lib.hid (Blk.of (vs := #[.int .i64 (hiW r), .int .u64 (loW r)]) (t := 79) (w := w4) (b := w4.heap.size) rfl)
  have hb5 : Below w4.heap.size w4 (w4.alloc (.cells #[.int .i64 (hiW r), .int .u64 (loW r)] 79)) := (Below.refl _ _).alloc (Nat.le_refl _) _
  have hnV := HB.out.size
  have nzV_Z := KZ.out.lt
  replace HB := Lib.hid (HB.out.trans (hb5.mono HB.out.size))
  replace KZ := Lib.hid (KZ.out.below hb5)
  clear hb5
  generalize w4.alloc (.cells #[.int .i64 (hiW r), .int .u64 (loW r)] 79) = w5 at *
  generalize w4.heap.size = bV at *
  have neV_Z : bV ≠ w.heap.size := by omega
  clear nzV_Z
  have yZ := KZ.out
  have yZ_0 := yZ.c 0 _ rfl
  have yZ_1 := yZ.c 1 _ rfl
  have yZ_z := yZ.lt
  clear yZ
  refine bodyPost_ret (v := .agg #[.int .i64 (hiW r), .int .u64 (loW r)]) (by simp [results, Tryz.results54, go_sem, yZ_0, yZ_1]) rfl ⟨rfl, HB.out⟩
set_option maxHeartbeats 8000000 in
set_option maxRecDepth 100000 in
theorem integrity_less (a b c d : Int) (w : World) (ha : I64 a) (hb : I64 b) (hc : I64 c) (hd : I64 d) (hf : FitW (a * b - c * d)) :
    Calls Tryz.prog 58 #[.int .i64 a, .int .i64 b, .int .i64 c, .int .i64 d] w fun e w' => e = .returned (wv (a * b - c * d)) ∧ Below w.heap.size w w' := by
  have MA := Lib.hid fun w => wmul_any a b w ha.lo ha.hi hb.lo hb.hi
  have MC := Lib.hid fun w => wmul_any c d w hc.lo hc.hi hd.lo hd.hi
  have SB := Lib.hid fun w => wsub_any (a * b) (c * d) w (mul_fit ha.lo ha.hi hb.lo hb.hi) (mul_fit hc.lo hc.hi hd.lo hd.hi) hf
  unfold wv at *
  generalize a * b - c * d = r at *
  generalize a * b = p at *
  generalize c * d = q at *
  clear ha hb hc hd hf
  have KZ := Lib.hid (Blk.of (vs := #[.int .i64 0, .int .u64 0]) (t := 79) (w := w) (b := w.heap.size) (by simp))
  have HB := Lib.hid ((Below.refl w.heap.size w).alloc (by simp; try omega) (.cells #[.int .i64 0, .int .u64 0] 79))
  go_enter Tryz.func58, Tryz.ntmps58
  go_wp2_with fail
  generalize w.alloc (.cells #[.int .i64 0, .int .u64 0] 79) = w0 at *
  refine (MA.out _).mono ?_
  rintro e1 w1 ⟨rfl, hb1⟩
  replace HB := Lib.hid (HB.out.trans (hb1.mono HB.out.size))
  replace KZ := Lib.hid (KZ.out.below hb1)
  clear hb1
  go_wp2_with fail
  refine (MC.out _).mono ?_
  rintro e2 w2 ⟨rfl, hb2⟩
  replace HB := Lib.hid (HB.out.trans (hb2.mono HB.out.size))
  replace KZ := Lib.hid (KZ.out.below hb2)
  clear hb2
  go_wp2_with fail
  refine (SB.out _).mono ?_
  rintro e3 w3 ⟨rfl, hb3⟩
  replace HB := Lib.hid (HB.out.trans (hb3.mono HB.out.size))
  replace KZ := Lib.hid (KZ.out.below hb3)
  clear hb3
  have yZ := KZ.out
  have yZ_0 := yZ.c 0 _ rfl
  have yZ_1 := yZ.c 1 _ rfl
  have yZ_z := yZ.lt
  have yZ_f0 := yZ.f 0 _ rfl
  have yZ_f1 := yZ.f 1 _ rfl
  clear yZ
  go_wp2
  replace KZ := Lib.hid (blk_set (blk_set KZ.out (j := 0) (by simp) (.int .i64 (hiW r))) (j := 1) (by simp) (.int .u64 (loW r)))
  replace HB := Lib.hid ((HB.out.setCell (p := ⟨w.heap.size, 0, none⟩) (show w.heap.size ≤ w.heap.size by omega) (.int .i64 (hiW r))).setCell (p := ⟨w.heap.size, 1, none⟩) (show w.heap.size ≤ w.heap.size by omega) (.int .u64 (loW r)))
  clear yZ_0 yZ_1 yZ_z yZ_f0 yZ_f1
  generalize (w3.setCell ⟨w.heap.size, 0, none⟩ (.int .i64 (hiW r))).setCell ⟨w.heap.size, 1, none⟩ (.int .u64 (loW r)) = w4 at *
  simp only [List.set] at KZ
  have KV := Lib.hid (Blk.of (vs := #[.int .i64 (hiW r), .int .u64 (loW r)]) (t := 79) (w := w4) (b := w4.heap.size) rfl)
  have hb5 : Below w4.heap.size w4 (w4.alloc (.cells #[.int .i64 (hiW r), .int .u64 (loW r)] 79)) := (Below.refl _ _).alloc (Nat.le_refl _) _
  have hnV := HB.out.size
  have nzV_Z := KZ.out.lt
  replace HB := Lib.hid (HB.out.trans (hb5.mono HB.out.size))
  replace KZ := Lib.hid (KZ.out.below hb5)
  clear hb5
  generalize w4.alloc (.cells #[.int .i64 (hiW r), .int .u64 (loW r)] 79) = w5 at *
  generalize w4.heap.size = bV at *
  have neV_Z : bV ≠ w.heap.size := by omega
  clear nzV_Z
  have yZ := KZ.out
  have yZ_0 := yZ.c 0 _ rfl
  have yZ_1 := yZ.c 1 _ rfl
  have yZ_z := yZ.lt
  clear yZ
  refine bodyPost_ret (v := .agg #[.int .i64 (hiW r), .int .u64 (loW r)]) (by simp [results, Tryz.results58, go_sem, yZ_0, yZ_1]) rfl ⟨rfl, HB.out⟩
set_option maxHeartbeats 8000000 in
set_option maxRecDepth 100000 in
theorem plus_any (x y : Int) (w : World) (hx : FitW x) (hy : FitW y) (hf : FitW (x + y)) :
    Calls Tryz.prog 59 #[wv x, wv y] w fun e w' => e = .returned (wv (x + y)) ∧ Below w.heap.size w w' := by
  have AD := Lib.hid fun w => wadd_any x y w hx hy hf
  unfold wv at *
  generalize x + y = r at *
  clear hx hy hf
  have KX := Lib.hid (((Blk.of (vs := #[.int .i64 (hiW x), .int .u64 (loW x)]) (t := 79) (w := w) (b := w.heap.size) (by simp)).alloc (.cells #[.int .i64 (hiW y), .int .u64 (loW y)] 79)).alloc (.cells #[.int .i64 0, .int .u64 0] 79))
  have KY := Lib.hid ((Blk.of (vs := #[.int .i64 (hiW y), .int .u64 (loW y)]) (t := 79) (w := (w.alloc (.cells #[.int .i64 (hiW x), .int .u64 (loW x)] 79))) (b := w.heap.size + 1) (by simp)).alloc (.cells #[.int .i64 0, .int .u64 0] 79))
  have KZ := Lib.hid (Blk.of (vs := #[.int .i64 0, .int .u64 0]) (t := 79) (w := ((w.alloc (.cells #[.int .i64 (hiW x), .int .u64 (loW x)] 79)).alloc (.cells #[.int .i64 (hiW y), .int .u64 (loW y)] 79))) (b := w.heap.size + 1 + 1) (by simp))
  have HB := Lib.hid ((((Below.refl w.heap.size w).alloc (by simp; try omega) (.cells #[.int .i64 (hiW x), .int .u64 (loW x)] 79)).alloc (by simp; try omega) (.cells #[.int .i64 (hiW y), .int .u64 (loW y)] 79)).alloc (by simp; try omega) (.cells #[.int .i64 0, .int .u64 0] 79))
  go_enter Tryz.func59, Tryz.ntmps59
  go_wp2_with fail
  generalize ((w.alloc (.cells #[.int .i64 (hiW x), .int .u64 (loW x)] 79)).alloc (.cells #[.int .i64 (hiW y), .int .u64 (loW y)] 79)).alloc (.cells #[.int .i64 0, .int .u64 0] 79) = w0 at *
  refine (AD.out _).mono ?_
  rintro e1 w1 ⟨rfl, hb1⟩
  replace HB := Lib.hid (HB.out.trans (hb1.mono HB.out.size))
  replace KX := Lib.hid (KX.out.below hb1)
  replace KY := Lib.hid (KY.out.below hb1)
  replace KZ := Lib.hid (KZ.out.below hb1)
  clear hb1
  have yZ := KZ.out
  have yZ_0 := yZ.c 0 _ rfl
  have yZ_1 := yZ.c 1 _ rfl
  have yZ_z := yZ.lt
  have yZ_f0 := yZ.f 0 _ rfl
  have yZ_f1 := yZ.f 1 _ rfl
  clear yZ
  go_wp2
  replace KX := Lib.hid (blk_other (b := w.heap.size) (n := (w.heap.size + 1 + 1)) (j := 1) (blk_other (b := w.heap.size) (n := (w.heap.size + 1 + 1)) (j := 0) KX.out (by omega) (.int .i64 (hiW r))) (by omega) (.int .u64 (loW r)))
  replace KY := Lib.hid (blk_other (b := (w.heap.size + 1)) (n := (w.heap.size + 1 + 1)) (j := 1) (blk_other (b := (w.heap.size + 1)) (n := (w.heap.size + 1 + 1)) (j := 0) KY.out (by omega) (.int .i64 (hiW r))) (by omega) (.int .u64 (loW r)))
  replace KZ := Lib.hid (blk_set (blk_set KZ.out (j := 0) (by simp) (.int .i64 (hiW r))) (j := 1) (by simp) (.int .u64 (loW r)))
  replace HB := Lib.hid ((HB.out.setCell (p := ⟨(w.heap.size + 1 + 1), 0, none⟩) (show w.heap.size ≤ (w.heap.size + 1 + 1) by omega) (.int .i64 (hiW r))).setCell (p := ⟨(w.heap.size + 1 + 1), 1, none⟩) (show w.heap.size ≤ (w.heap.size + 1 + 1) by omega) (.int .u64 (loW r)))
  clear yZ_0 yZ_1 yZ_z yZ_f0 yZ_f1
  generalize (w1.setCell ⟨(w.heap.size + 1 + 1), 0, none⟩ (.int .i64 (hiW r))).setCell ⟨(w.heap.size + 1 + 1), 1, none⟩ (.int .u64 (loW r)) = w2 at *
  simp only [List.set] at KZ
  have KV := Lib.hid (Blk.of (vs := #[.int .i64 (hiW r), .int .u64 (loW r)]) (t := 79) (w := w2) (b := w2.heap.size) rfl)
  have hb3 : Below w2.heap.size w2 (w2.alloc (.cells #[.int .i64 (hiW r), .int .u64 (loW r)] 79)) := (Below.refl _ _).alloc (Nat.le_refl _) _
  have hnV := HB.out.size
  have nzV_X := KX.out.lt
  have nzV_Y := KY.out.lt
  have nzV_Z := KZ.out.lt
  replace HB := Lib.hid (HB.out.trans (hb3.mono HB.out.size))
  replace KX := Lib.hid (KX.out.below hb3)
  replace KY := Lib.hid (KY.out.below hb3)
  replace KZ := Lib.hid (KZ.out.below hb3)
  clear hb3
  generalize w2.alloc (.cells #[.int .i64 (hiW r), .int .u64 (loW r)] 79) = w3 at *
  generalize w2.heap.size = bV at *
  have neV_X : bV ≠ w.heap.size := by omega
  have neV_Y : bV ≠ (w.heap.size + 1) := by omega
  have neV_Z : bV ≠ (w.heap.size + 1 + 1) := by omega
  clear nzV_X nzV_Y nzV_Z
  have yZ := KZ.out
  have yZ_0 := yZ.c 0 _ rfl
  have yZ_1 := yZ.c 1 _ rfl
  have yZ_z := yZ.lt
  clear yZ
  refine bodyPost_ret (v := .agg #[.int .i64 (hiW r), .int .u64 (loW r)]) (by simp [results, Tryz.results59, go_sem, yZ_0, yZ_1]) rfl ⟨rfl, HB.out⟩
end Go.Proofs.YtidelghgjibndaaGreat
