/-
  The walks of wide.Neg and Abs, of less and of plus.
-/
import Derived.Test.YtplgdlooglnpmaaWideFive
import Derived.Test.YtplgdlooglnpmaaSumPlain
namespace Go.Proofs.Ytplgdlooglnpmaa
set_option linter.unusedVariables false
open Go.RowKit

/-- a number of 64 bits -/
structure I64 (x : Int) : Prop where
  lo : -9223372036854775808 ≤ x
  hi : x ≤ 9223372036854775807
instance (x : Int) : Decidable (I64 x) := decidable_of_iff (-9223372036854775808 ≤ x ∧ x ≤ 9223372036854775807) ⟨fun h => ⟨h.1, h.2⟩, fun h => ⟨h.lo, h.hi⟩⟩
def wv1 (x : Int) : Value := .tuple #[wv x, .bool true]
set_option maxHeartbeats 8000000 in
set_option maxRecDepth 100000 in
theorem wneg_any (x : Int) (w : World) (hx : FitW x) (hn : FitW (-x)) :
    Calls Try.prog 68 #[wv x] w fun e w' => e = .returned (wv1 (-x)) ∧ Below w.heap.size w w' := by
  have SB := Lib.hid fun w => wsub_any 0 x w ⟨by omega, by omega⟩ hx (by rw [Int.zero_sub]; exact hn)
  unfold wv at SB
  simp only [show hiW 0 = 0 from rfl, show loW 0 = 0 from rfl, Int.zero_sub] at SB
  unfold wv1 wv
  generalize -x = r at *
  clear hx hn
  have KX := Lib.hid ((Blk.of (vs := #[.int .i64 (hiW x), .int .u64 (loW x)]) (t := 51) (w := w) (b := w.heap.size) (by simp)).alloc (.cells #[.int .i64 0, .int .u64 0] 51))
  have KZ := Lib.hid (Blk.of (vs := #[.int .i64 0, .int .u64 0]) (t := 51) (w := (w.alloc (.cells #[.int .i64 (hiW x), .int .u64 (loW x)] 51))) (b := w.heap.size + 1) (by simp))
  have HB := Lib.hid (((Below.refl w.heap.size w).alloc (by simp; try omega) (.cells #[.int .i64 (hiW x), .int .u64 (loW x)] 51)).alloc (by simp; try omega) (.cells #[.int .i64 0, .int .u64 0] 51))
  go_enter Try.func68, Try.ntmps68
  go_wp2_with fail
  generalize (w.alloc (.cells #[.int .i64 (hiW x), .int .u64 (loW x)] 51)).alloc (.cells #[.int .i64 0, .int .u64 0] 51) = w0 at *
  refine (SB.out _).mono ?_
  rintro e1 w1 ⟨rfl, hb1⟩
  replace HB := Lib.hid (HB.out.trans (hb1.mono HB.out.size))
  replace KX := Lib.hid (KX.out.below hb1)
  replace KZ := Lib.hid (KZ.out.below hb1)
  clear hb1
  have yZ := KZ.out
  have yZ_0 := yZ.c 0 _ rfl
  have yZ_1 := yZ.c 1 _ rfl
  have yZ_z := yZ.lt
  have yZ_f0 := yZ.f 0 _ rfl
  have yZ_f1 := yZ.f 1 _ rfl
  clear yZ
  go_wp2
  replace KX := Lib.hid (blk_other (b := w.heap.size) (n := (w.heap.size + 1)) (j := 1) (blk_other (b := w.heap.size) (n := (w.heap.size + 1)) (j := 0) KX.out (by omega) (.int .i64 (hiW r))) (by omega) (.int .u64 (loW r)))
  replace KZ := Lib.hid (blk_set (blk_set KZ.out (j := 0) (by simp) (.int .i64 (hiW r))) (j := 1) (by simp) (.int .u64 (loW r)))
  replace HB := Lib.hid ((HB.out.setCell (p := ⟨(w.heap.size + 1), 0, none⟩) (show w.heap.size ≤ (w.heap.size + 1) by omega) (.int .i64 (hiW r))).setCell (p := ⟨(w.heap.size + 1), 1, none⟩) (show w.heap.size ≤ (w.heap.size + 1) by omega) (.int .u64 (loW r)))
  clear yZ_0 yZ_1 yZ_z yZ_f0 yZ_f1
  generalize (w1.setCell ⟨(w.heap.size + 1), 0, none⟩ (.int .i64 (hiW r))).setCell ⟨(w.heap.size + 1), 1, none⟩ (.int .u64 (loW r)) = w2 at *
  simp only [List.set] at KZ
  have yZ := KZ.out
  have yZ_0 := yZ.c 0 _ rfl
  have yZ_1 := yZ.c 1 _ rfl
  have yZ_z := yZ.lt
  clear yZ
  refine bodyPost_ret (v := .tuple #[.agg #[.int .i64 (hiW r), .int .u64 (loW r)], .bool true]) (by simp [results, Try.results68, go_sem, yZ_0, yZ_1]) rfl ⟨rfl, HB.out⟩
set_option maxHeartbeats 8000000 in
set_option maxRecDepth 100000 in
theorem wwabs_any (x : Int) (w : World) (hx : FitW x) (hn : FitW (-x)) :
    Calls Try.prog 47 #[wv x] w fun e w' => e = .returned (wv1 (absZ x)) ∧ Below w.heap.size w w' := by
  by_cases h : x < 0
  · have NG := Lib.hid fun w => wneg_any x w hx hn
    have g : decide (hiW x < 0) = true := by have := (hi_neg x).2 h; simpa using this
    rw [show absZ x = -x by unfold absZ; rw [if_pos h]]
    unfold wv1 wv at *
    generalize -x = r at *
    clear hx hn h
    have KX := Lib.hid ((Blk.of (vs := #[.int .i64 (hiW x), .int .u64 (loW x)]) (t := 51) (w := w) (b := w.heap.size) (by simp)).alloc (.cells #[.int .i64 0, .int .u64 0] 51))
    have KZ := Lib.hid (Blk.of (vs := #[.int .i64 0, .int .u64 0]) (t := 51) (w := (w.alloc (.cells #[.int .i64 (hiW x), .int .u64 (loW x)] 51))) (b := w.heap.size + 1) (by simp))
    have HB := Lib.hid (((Below.refl w.heap.size w).alloc (by simp; try omega) (.cells #[.int .i64 (hiW x), .int .u64 (loW x)] 51)).alloc (by simp; try omega) (.cells #[.int .i64 0, .int .u64 0] 51))
    go_enter Try.func47, Try.ntmps47
    go_wp2_with fail
    generalize (w.alloc (.cells #[.int .i64 (hiW x), .int .u64 (loW x)] 51)).alloc (.cells #[.int .i64 0, .int .u64 0] 51) = w0 at *
    refine (NG.out _).mono ?_
    rintro e1 w1 ⟨rfl, hb1⟩
    replace HB := Lib.hid (HB.out.trans (hb1.mono HB.out.size))
    replace KX := Lib.hid (KX.out.below hb1)
    replace KZ := Lib.hid (KZ.out.below hb1)
    clear hb1
    have yZ := KZ.out
    have yZ_0 := yZ.c 0 _ rfl
    have yZ_1 := yZ.c 1 _ rfl
    have yZ_z := yZ.lt
    have yZ_f0 := yZ.f 0 _ rfl
    have yZ_f1 := yZ.f 1 _ rfl
    clear yZ
    go_wp2
    replace KX := Lib.hid (blk_other (b := w.heap.size) (n := (w.heap.size + 1)) (j := 1) (blk_other (b := w.heap.size) (n := (w.heap.size + 1)) (j := 0) KX.out (by omega) (.int .i64 (hiW r))) (by omega) (.int .u64 (loW r)))
    replace KZ := Lib.hid (blk_set (blk_set KZ.out (j := 0) (by simp) (.int .i64 (hiW r))) (j := 1) (by simp) (.int .u64 (loW r)))
    replace HB := Lib.hid ((HB.out.setCell (p := ⟨(w.heap.size + 1), 0, none⟩) (show w.heap.size ≤ (w.heap.size + 1) by omega) (.int .i64 (hiW r))).setCell (p := ⟨(w.heap.size + 1), 1, none⟩) (show w.heap.size ≤ (w.heap.size + 1) by omega) (.int .u64 (loW r)))
    clear yZ_0 yZ_1 yZ_z yZ_f0 yZ_f1
    generalize (w1.setCell ⟨(w.heap.size + 1), 0, none⟩ (.int .i64 (hiW r))).setCell ⟨(w.heap.size + 1), 1, none⟩ (.int .u64 (loW r)) = w2 at *
    simp only [List.set] at KZ
    have yZ := KZ.out
    have yZ_0 := yZ.c 0 _ rfl
    have yZ_1 := yZ.c 1 _ rfl
    have yZ_z := yZ.lt
    clear yZ
    refine bodyPost_ret (v := .tuple #[.agg #[.int .i64 (hiW r), .int .u64 (loW r)], .bool true]) (by simp [results, Try.results47, go_sem, yZ_0, yZ_1]) rfl ⟨rfl, HB.out⟩
  · have g : decide (hiW x < 0) = false := by have := hi_neg x; simp; omega
    rw [show absZ x = x by unfold absZ; rw [if_neg h]]
    unfold wv1 wv
    clear hx hn h
    have KX := Lib.hid ((Blk.of (vs := #[.int .i64 (hiW x), .int .u64 (loW x)]) (t := 51) (w := w) (b := w.heap.size) (by simp)).alloc (.cells #[.int .i64 0, .int .u64 0] 51))
    have KZ := Lib.hid (Blk.of (vs := #[.int .i64 0, .int .u64 0]) (t := 51) (w := (w.alloc (.cells #[.int .i64 (hiW x), .int .u64 (loW x)] 51))) (b := w.heap.size + 1) (by simp))
    have HB := Lib.hid (((Below.refl w.heap.size w).alloc (by simp; try omega) (.cells #[.int .i64 (hiW x), .int .u64 (loW x)] 51)).alloc (by simp; try omega) (.cells #[.int .i64 0, .int .u64 0] 51))
    go_enter Try.func47, Try.ntmps47
    go_wp2
    refine bodyPost_ret (v := .tuple #[.agg #[.int .i64 (hiW x), .int .u64 (loW x)], .bool true]) (by simp [results, Try.results47, go_sem]) rfl ⟨rfl, ?_⟩
    exact ((Below.refl _ _).alloc (Nat.le_refl _) _).alloc (by simp) _
set_option maxHeartbeats 8000000 in
set_option maxRecDepth 100000 in
theorem lsq_less (a b c d : Int) (w : World) (ha : I64 a) (hb : I64 b) (hc : I64 c) (hd : I64 d) (hf : FitW (a * b - c * d)) :
    Calls Try.prog 40 #[.int .i64 a, .int .i64 b, .int .i64 c, .int .i64 d] w fun e w' => e = .returned (wv (a * b - c * d)) ∧ Below w.heap.size w w' := by
  have MA := Lib.hid fun w => wmul_any a b w ha.lo ha.hi hb.lo hb.hi
  have MC := Lib.hid fun w => wmul_any c d w hc.lo hc.hi hd.lo hd.hi
  have SB := Lib.hid fun w => wsub_any (a * b) (c * d) w (mul_fit ha.lo ha.hi hb.lo hb.hi) (mul_fit hc.lo hc.hi hd.lo hd.hi) hf
  unfold wv at *
  generalize a * b - c * d = r at *
  generalize a * b = p at *
  generalize c * d = q at *
  clear ha hb hc hd hf
  have KZ := Lib.hid (Blk.of (vs := #[.int .i64 0, .int .u64 0]) (t := 51) (w := w) (b := w.heap.size) (by simp))
  have HB := Lib.hid ((Below.refl w.heap.size w).alloc (by simp; try omega) (.cells #[.int .i64 0, .int .u64 0] 51))
  go_enter Try.func40, Try.ntmps40
  go_wp2_with fail
  generalize w.alloc (.cells #[.int .i64 0, .int .u64 0] 51) = w0 at *
  refine (MA.out _).mono ?_
  rintro e1 w1 ⟨rfl, hb1⟩
  replace HB := Lib.hid (HB.out.trans (hb1.mono HB.out.size))
  replace KZ := Lib.hid (KZ.out.below hb1)
  clear hb1
  go_wp2_with fail
  refine (MC.out _).mono ?_
  rintro e2 w2 ⟨rfl, hb2⟩
  replace HB := Lib.hid (HB.out.trans (hb2.mono HB.out.size))
  replace KZ := Lib.hid (KZ.out.below hb2)
  clear hb2
  go_wp2_with fail
  refine (SB.out _).mono ?_
  rintro e3 w3 ⟨rfl, hb3⟩
  replace HB := Lib.hid (HB.out.trans (hb3.mono HB.out.size))
  replace KZ := Lib.hid (KZ.out.below hb3)
  clear hb3
  have yZ := KZ.out
  have yZ_0 := yZ.c 0 _ rfl
  have yZ_1 := yZ.c 1 _ rfl
  have yZ_z := yZ.lt
  have yZ_f0 := yZ.f 0 _ rfl
  have yZ_f1 := yZ.f 1 _ rfl
  clear yZ
  go_wp2
  replace KZ := Lib.hid (blk_set (blk_set KZ.out (j := 0) (by simp) (.int .i64 (hiW r))) (j := 1) (by simp) (.int .u64 (loW r)))
  replace HB := Lib.hid ((HB.out.setCell (p := ⟨w.heap.size, 0, none⟩) (show w.heap.size ≤ w.heap.size by omega) (.int .i64 (hiW r))).setCell (p := ⟨w.heap.size, 1, none⟩) (show w.heap.size ≤ w.heap.size by omega) (.int .u64 (loW r)))
  clear yZ_0 yZ_1 yZ_z yZ_f0 yZ_f1
  generalize (w3.setCell ⟨w.heap.size, 0, none⟩ (.int .i64 (hiW r))).setCell ⟨w.heap.size, 1, none⟩ (.int .u64 (loW r)) = w4 at *
  simp only [List.set] at KZ
  have KV := Lib.hid (Blk.of (vs := #[.int .i64 (hiW r), .int .u64 (loW r)]) (t := 51) (w := w4) (b := w4.heap.size) rfl)
  have hb5 : Below w4.heap.size w4 (w4.alloc (.cells #[.int .i64 (hiW r), .int .u64 (loW r)] 51)) := (Below.refl _ _).alloc (Nat.le_refl _) _
  have hnV := HB.out.size
  have nzV_Z := KZ.out.lt
  replace HB := Lib.hid (HB.out.trans (hb5.mono HB.out.size))
  replace KZ := Lib.hid (KZ.out.below hb5)
  clear hb5
  generalize w4.alloc (.cells #[.int .i64 (hiW r), .int .u64 (loW r)] 51) = w5 at *
  generalize w4.heap.size = bV at *
  have neV_Z : bV ≠ w.heap.size := by omega
  clear nzV_Z
  have yZ := KZ.out
  have yZ_0 := yZ.c 0 _ rfl
  have yZ_1 := yZ.c 1 _ rfl
  have yZ_z := yZ.lt
  clear yZ
  refine bodyPost_ret (v := .agg #[.int .i64 (hiW r), .int .u64 (loW r)]) (by simp [results, Try.results40, go_sem, yZ_0, yZ_1]) rfl ⟨rfl, HB.out⟩
set_option maxHeartbeats 8000000 in
set_option maxRecDepth 100000 in
theorem integrity_less (a b c d : Int) (w : World) (ha : I64 a) (hb : I64 b) (hc : I64 c) (hd : I64 d) (hf : FitW (a * b - c * d)) :
    Calls Try.prog 42 #[.int .i64 a, .int .i64 b, .int .i64 c, .int .i64 d] w fun e w' => e = .returned (wv (a * b - c * d)) ∧ Below w.heap.size w w' := by
  have MA := Lib.hid fun w => wmul_any a b w ha.lo ha.hi hb.lo hb.hi
  have MC := Lib.hid fun w => wmul_any c d w hc.lo hc.hi hd.lo hd.hi
  have SB := Lib.hid fun w => wsub_any (a * b) (c * d) w (mul_fit ha.lo ha.hi hb.lo hb.hi) (mul_fit hc.lo hc.hi hd.lo hd.hi) hf
  unfold wv at *
  generalize a * b - c * d = r at *
  generalize a * b = p at *
  generalize c * d = q at *
  clear ha hb hc hd hf
  have KZ := Lib.hid (Blk.of (vs := #[.int .i64 0, .int .u64 0]) (t := 51) (w := w) (b := w.heap.size) (by simp))
  have HB := Lib.hid ((Below.refl w.heap.size w).alloc (by simp; try omega) (.cells #[.int .i64 0, .int .u64 0] 51))
  go_enter Try.func42, Try.ntmps42
  go_wp2_with fail
  generalize w.alloc (.cells #[.int .i64 0, .int .u64 0] 51) = w0 at *
  refine (MA.out _).mono ?_
  rintro e1 w1 ⟨rfl, hb1⟩
  replace HB := Lib.hid (HB.out.trans (hb1.mono HB.out.size))
  replace KZ := Lib.hid (KZ.out.below hb1)
  clear hb1
  go_wp2_with fail
  refine (MC.out _).mono ?_
  rintro e2 w2 ⟨rfl, hb2⟩
  replace HB := Lib.hid (HB.out.trans (hb2.mono HB.out.size))
  replace KZ := Lib.hid (KZ.out.below hb2)
  clear hb2
  go_wp2_with fail
  refine (SB.out _).mono ?_
  rintro e3 w3 ⟨rfl, hb3⟩
  replace HB := Lib.hid (HB.out.trans (hb3.mono HB.out.size))
  replace KZ := Lib.hid (KZ.out.below hb3)
  clear hb3
  have yZ := KZ.out
  have yZ_0 := yZ.c 0 _ rfl
  have yZ_1 := yZ.c 1 _ rfl
  have yZ_z := yZ.lt
  have yZ_f0 := yZ.f 0 _ rfl
  have yZ_f1 := yZ.f 1 _ rfl
  clear yZ
  go_wp2
  replace KZ := Lib.hid (blk_set (blk_set KZ.out (j := 0) (by simp) (.int .i64 (hiW r))) (j := 1) (by simp) (.int .u64 (loW r)))
  replace HB := Lib.hid ((HB.out.setCell (p := ⟨w.heap.size, 0, none⟩) (show w.heap.size ≤ w.heap.size by omega) (.int .i64 (hiW r))).setCell (p := ⟨w.heap.size, 1, none⟩) (show w.heap.size ≤ w.heap.size by omega) (.int .u64 (loW r)))
  clear yZ_0 yZ_1 yZ_z yZ_f0 yZ_f1
  generalize (w3.setCell ⟨w.heap.size, 0, none⟩ (.int .i64 (hiW r))).setCell ⟨w.heap.size, 1, none⟩ (.int .u64 (loW r)) = w4 at *
  simp only [List.set] at KZ
  have KV := Lib.hid (Blk.of (vs := #[.int .i64 (hiW r), .int .u64 (loW r)]) (t := 51) (w := w4) (b := w4.heap.size) rfl)
  have hb5 : Below w4.heap.size w4 (w4.alloc (.cells #[.int .i64 (hiW r), .int .u64 (loW r)] 51)) := (Below.refl _ _).alloc (Nat.le_refl _) _
  have hnV := HB.out.size
  have nzV_Z := KZ.out.lt
  replace HB := Lib.hid (HB.out.trans (hb5.mono HB.out.size))
  replace KZ := Lib.hid (KZ.out.below hb5)
  clear hb5
  generalize w4.alloc (.cells #[.int .i64 (hiW r), .int .u64 (loW r)] 51) = w5 at *
  generalize w4.heap.size = bV at *
  have neV_Z : bV ≠ w.heap.size := by omega
  clear nzV_Z
  have yZ := KZ.out
  have yZ_0 := yZ.c 0 _ rfl
  have yZ_1 := yZ.c 1 _ rfl
  have yZ_z := yZ.lt
  clear yZ
  refine bodyPost_ret (v := .agg #[.int .i64 (hiW r), .int .u64 (loW r)]) (by simp [results, Try.results42, go_sem, yZ_0, yZ_1]) rfl ⟨rfl, HB.out⟩
set_option maxHeartbeats 8000000 in
set_option maxRecDepth 100000 in
theorem plus_any (x y : Int) (w : World) (hx : FitW x) (hy : FitW y) (hf : FitW (x + y)) :
    Calls Try.prog 43 #[wv x, wv y] w fun e w' => e = .returned (wv (x + y)) ∧ Below w.heap.size w w' := by
  have AD := Lib.hid fun w => wadd_any x y w hx hy hf
  unfold wv at *
  generalize x + y = r at *
  clear hx hy hf
  have KX := Lib.hid (((Blk.of (vs := #[.int .i64 (hiW x), .int .u64 (loW x)]) (t := 51) (w := w) (b := w.heap.size) (by simp)).alloc (.cells #[.int .i64 (hiW y), .int .u64 (loW y)] 51)).alloc (.cells #[.int .i64 0, .int .u64 0] 51))
  have KY := Lib.hid ((Blk.of (vs := #[.int .i64 (hiW y), .int .u64 (loW y)]) (t := 51) (w := (w.alloc (.cells #[.int .i64 (hiW x), .int .u64 (loW x)] 51))) (b := w.heap.size + 1) (by simp)).alloc (.cells #[.int .i64 0, .int .u64 0] 51))
  have KZ := Lib.hid (Blk.of (vs := #[.int .i64 0, .int .u64 0]) (t := 51) (w := ((w.alloc (.cells #[.int .i64 (hiW x), .int .u64 (loW x)] 51)).alloc (.cells #[.int .i64 (hiW y), .int .u64 (loW y)] 51))) (b := w.heap.size + 1 + 1) (by simp))
  have HB := Lib.hid ((((Below.refl w.heap.size w).alloc (by simp; try omega) (.cells #[.int .i64 (hiW x), .int .u64 (loW x)] 51)).alloc (by simp; try omega) (.cells #[.int .i64 (hiW y), .int .u64 (loW y)] 51)).alloc (by simp; try omega) (.cells #[.int .i64 0, .int .u64 0] 51))
  go_enter Try.func43, Try.ntmps43
  go_wp2_with fail
  generalize ((w.alloc (.cells #[.int .i64 (hiW x), .int .u64 (loW x)] 51)).alloc (.cells #[.int .i64 (hiW y), .int .u64 (loW y)] 51)).alloc (.cells #[.int .i64 0, .int .u64 0] 51) = w0 at *
  refine (AD.out _).mono ?_
  rintro e1 w1 ⟨rfl, hb1⟩
  replace HB := Lib.hid (HB.out.trans (hb1.mono HB.out.size))
  replace KX := Lib.hid (KX.out.below hb1)
  replace KY := Lib.hid (KY.out.below hb1)
  replace KZ := Lib.hid (KZ.out.below hb1)
  clear hb1
  have yZ := KZ.out
  have yZ_0 := yZ.c 0 _ rfl
  have yZ_1 := yZ.c 1 _ rfl
  have yZ_z := yZ.lt
  have yZ_f0 := yZ.f 0 _ rfl
  have yZ_f1 := yZ.f 1 _ rfl
  clear yZ
  go_wp2
  replace KX := Lib.hid (blk_other (b := w.heap.size) (n := (w.heap.size + 1 + 1)) (j := 1) (blk_other (b := w.heap.size) (n := (w.heap.size + 1 + 1)) (j := 0) KX.out (by omega) (.int .i64 (hiW r))) (by omega) (.int .u64 (loW r)))
  replace KY := Lib.hid (blk_other (b := (w.heap.size + 1)) (n := (w.heap.size + 1 + 1)) (j := 1) (blk_other (b := (w.heap.size + 1)) (n := (w.heap.size + 1 + 1)) (j := 0) KY.out (by omega) (.int .i64 (hiW r))) (by omega) (.int .u64 (loW r)))
  replace KZ := Lib.hid (blk_set (blk_set KZ.out (j := 0) (by simp) (.int .i64 (hiW r))) (j := 1) (by simp) (.int .u64 (loW r)))
  replace HB := Lib.hid ((HB.out.setCell (p := ⟨(w.heap.size + 1 + 1), 0, none⟩) (show w.heap.size ≤ (w.heap.size + 1 + 1) by omega) (.int .i64 (hiW r))).setCell (p := ⟨(w.heap.size + 1 + 1), 1, none⟩) (show w.heap.size ≤ (w.heap.size + 1 + 1) by omega) (.int .u64 (loW r)))
  clear yZ_0 yZ_1 yZ_z yZ_f0 yZ_f1
  generalize (w1.setCell ⟨(w.heap.size + 1 + 1), 0, none⟩ (.int .i64 (hiW r))).setCell ⟨(w.heap.size + 1 + 1), 1, none⟩ (.int .u64 (loW r)) = w2 at *
  simp only [List.set] at KZ
  have KV := Lib.hid (Blk.of (vs := #[.int .i64 (hiW r), .int .u64 (loW r)]) (t := 51) (w := w2) (b := w2.heap.size) rfl)
  have hb3 : Below w2.heap.size w2 (w2.alloc (.cells #[.int .i64 (hiW r), .int .u64 (loW r)] 51)) := (Below.refl _ _).alloc (Nat.le_refl _) _
  have hnV := HB.out.size
  have nzV_X := KX.out.lt
  have nzV_Y := KY.out.lt
  have nzV_Z := KZ.out.lt
  replace HB := Lib.hid (HB.out.trans (hb3.mono HB.out.size))
  replace KX := Lib.hid (KX.out.below hb3)
  replace KY := Lib.hid (KY.out.below hb3)
  replace KZ := Lib.hid (KZ.out.below hb3)
  clear hb3
  generalize w2.alloc (.cells #[.int .i64 (hiW r), .int .u64 (loW r)] 51) = w3 at *
  generalize w2.heap.size = bV at *
  have neV_X : bV ≠ w.heap.size := by omega
  have neV_Y : bV ≠ (w.heap.size + 1) := by omega
  have neV_Z : bV ≠ (w.heap.size + 1 + 1) := by omega
  clear nzV_X nzV_Y nzV_Z
  have yZ := KZ.out
  have yZ_0 := yZ.c 0 _ rfl
  have yZ_1 := yZ.c 1 _ rfl
  have yZ_z := yZ.lt
  clear yZ
  refine bodyPost_ret (v := .agg #[.int .i64 (hiW r), .int .u64 (loW r)]) (by simp [results, Try.results43, go_sem, yZ_0, yZ_1]) rfl ⟨rfl, HB.out⟩
end Go.Proofs.Ytplgdlooglnpmaa
