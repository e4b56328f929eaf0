/-
  Walks and laws of the layers below, gathered from several texts.
-/
import Derived.Lib.QuietBelow
import Derived.Test.YtidelghgjibndaaGreatTE3
namespace Go.Proofs.YtidelghgjibndaaGreat
set_option linter.unusedVariables false
open Go.RowKit
/-- a number of 64 bits -/
structure I64 (x : Int) : Prop where
  lo : -9223372036854775808 ≤ x
  hi : x ≤ 9223372036854775807
instance (x : Int) : Decidable (I64 x) := decidable_of_iff (-9223372036854775808 ≤ x ∧ x ≤ 9223372036854775807) ⟨fun h => ⟨h.1, h.2⟩, fun h => ⟨h.lo, h.hi⟩⟩
def wv1 (x : Int) : Value := .tuple #[wv x, .bool true]
set_option maxHeartbeats 8000000 in
set_option maxRecDepth 100000 in
theorem wneg_any (x : Int) (w : World) (hx : FitW x) (hn : FitW (-x)) :
    Calls Tryz.prog 118 #[wv x] w fun e w' => e = .returned (wv1 (-x)) ∧ Below w.heap.size w w' := by
  have SB := Lib.hid fun w => wsub_any 0 x w ⟨by omega, by omega⟩ hx (by rw [Int.zero_sub]; exact hn)
  unfold wv at SB
  simp only [show hiW 0 = 0 from rfl, show loW 0 = 0 from rfl, Int.zero_sub] at SB
  unfold wv1 wv
  generalize -x = r at *
  clear hx hn
  have KX := Lib.hid ((Blk.of (vs := #[.int .i64 (hiW x), .int .u64 (loW x)]) (t := 79) (w := w) (b := w.heap.size) (by simp)).alloc (.cells #[.int .i64 0, .int .u64 0] 79))
  have KZ := Lib.hid (Blk.of (vs := #[.int .i64 0, .int .u64 0]) (t := 79) (w := (w.alloc (.cells #[.int .i64 (hiW x), .int .u64 (loW x)] 79))) (b := w.heap.size + 1) (by simp))
  have HB := Lib.hid (((Below.refl w.heap.size w).alloc (by simp; try omega) (.cells #[.int .i64 (hiW x), .int .u64 (loW x)] 79)).alloc (by simp; try omega) (.cells #[.int .i64 0, .int .u64 0] 79))
  go_enter Tryz.func118, Tryz.ntmps118
  go_wp2_with fail
  generalize (w.alloc (.cells #[.int .i64 (hiW x), .int .u64 (loW x)] 79)).alloc (.cells #[.int .i64 0, .int .u64 0] 79) = w0 at *
  refine (SB.out _).mono ?_
  rintro e1 w1 ⟨rfl, hb1⟩
  replace HB := Lib.hid (HB.out.trans (hb1.mono HB.out.size))
  replace KX := Lib.hid (KX.out.below hb1)
  replace KZ := Lib.hid (KZ.out.below hb1)
  clear hb1
  have yZ := KZ.out
  have yZ_0 := yZ.c 0 _ rfl
  have yZ_1 := yZ.c 1 _ rfl
  have yZ_z := yZ.lt
  have yZ_f0 := yZ.f 0 _ rfl
  have yZ_f1 := yZ.f 1 _ rfl
  clear yZ
  go_wp2
  replace KX := Lib.hid (blk_other (b := w.heap.size) (n := (w.heap.size + 1)) (j := 1) (blk_other (b := w.heap.size) (n := (w.heap.size + 1)) (j := 0) KX.out (by omega) (.int .i64 (hiW r))) (by omega) (.int .u64 (loW r)))
  replace KZ := Lib.hid (blk_set (blk_set KZ.out (j := 0) (by simp) (.int .i64 (hiW r))) (j := 1) (by simp) (.int .u64 (loW r)))
  replace HB := Lib.hid ((HB.out.setCell (p := ⟨(w.heap.size + 1), 0, none⟩) (show w.heap.size ≤ (w.heap.size + 1) by omega) (.int .i64 (hiW r))).setCell (p := ⟨(w.heap.size + 1), 1, none⟩) (show w.heap.size ≤ (w.heap.size + 1) by omega) (.int .u64 (loW r)))
  clear yZ_0 yZ_1 yZ_z yZ_f0 yZ_f1
  generalize (w1.setCell ⟨(w.heap.size + 1), 0, none⟩ (.int .i64 (hiW r))).setCell ⟨(w.heap.size + 1), 1, none⟩ (.int .u64 (loW r)) = w2 at *
  simp only [List.set] at KZ
  have yZ := KZ.out
  have yZ_0 := yZ.c 0 _ rfl
  have yZ_1 := yZ.c 1 _ rfl
  have yZ_z := yZ.lt
  clear yZ
  refine bodyPost_ret (v := .tuple #[.agg #[.int .i64 (hiW r), .int .u64 (loW r)], .bool true]) (by simp [results, Tryz.results118, go_sem, yZ_0, yZ_1]) rfl ⟨rfl, HB.out⟩
set_option maxHeartbeats 8000000 in
set_option maxRecDepth 100000 in
theorem wwabs_any (x : Int) (w : World) (hx : FitW x) (hn : FitW (-x)) :
    Calls Tryz.prog 93 #[wv x] w fun e w' => e = .returned (wv1 (absZ x)) ∧ Below w.heap.size w w' := by
  by_cases h : x < 0
  · have NG := Lib.hid fun w => wneg_any x w hx hn
    have g : decide (hiW x < 0) = true := by have := (hi_neg x).2 h; simpa using this
    rw [show absZ x = -x by unfold absZ; rw [if_pos h]]
    unfold wv1 wv at *
    generalize -x = r at *
    clear hx hn h
    have KX := Lib.hid ((Blk.of (vs := #[.int .i64 (hiW x), .int .u64 (loW x)]) (t := 79) (w := w) (b := w.heap.size) (by simp)).alloc (.cells #[.int .i64 0, .int .u64 0] 79))
    have KZ := Lib.hid (Blk.of (vs := #[.int .i64 0, .int .u64 0]) (t := 79) (w := (w.alloc (.cells #[.int .i64 (hiW x), .int .u64 (loW x)] 79))) (b := w.heap.size + 1) (by simp))
    have HB := Lib.hid (((Below.refl w.heap.size w).alloc (by simp; try omega) (.cells #[.int .i64 (hiW x), .int .u64 (loW x)] 79)).alloc (by simp; try omega) (.cells #[.int .i64 0, .int .u64 0] 79))
    go_enter Tryz.func93, Tryz.ntmps93
    go_wp2_with fail
    generalize (w.alloc (.cells #[.int .i64 (hiW x), .int .u64 (loW x)] 79)).alloc (.cells #[.int .i64 0, .int .u64 0] 79) = w0 at *
    refine (NG.out _).mono ?_
    rintro e1 w1 ⟨rfl, hb1⟩
    replace HB := Lib.hid (HB.out.trans (hb1.mono HB.out.size))
    replace KX := Lib.hid (KX.out.below hb1)
    replace KZ := Lib.hid (KZ.out.below hb1)
    clear hb1
    have yZ := KZ.out
    have yZ_0 := yZ.c 0 _ rfl
    have yZ_1 := yZ.c 1 _ rfl
    have yZ_z := yZ.lt
    have yZ_f0 := yZ.f 0 _ rfl
    have yZ_f1 := yZ.f 1 _ rfl
    clear yZ
    go_wp2
    replace KX := Lib.hid (blk_other (b := w.heap.size) (n := (w.heap.size + 1)) (j := 1) (blk_other (b := w.heap.size) (n := (w.heap.size + 1)) (j := 0) KX.out (by omega) (.int .i64 (hiW r))) (by omega) (.int .u64 (loW r)))
    replace KZ := Lib.hid (blk_set (blk_set KZ.out (j := 0) (by simp) (.int .i64 (hiW r))) (j := 1) (by simp) (.int .u64 (loW r)))
    replace HB := Lib.hid ((HB.out.setCell (p := ⟨(w.heap.size + 1), 0, none⟩) (show w.heap.size ≤ (w.heap.size + 1) by omega) (.int .i64 (hiW r))).setCell (p := ⟨(w.heap.size + 1), 1, none⟩) (show w.heap.size ≤ (w.heap.size + 1) by omega) (.int .u64 (loW r)))
    clear yZ_0 yZ_1 yZ_z yZ_f0 yZ_f1
    generalize (w1.setCell ⟨(w.heap.size + 1), 0, none⟩ (.int .i64 (hiW r))).setCell ⟨(w.heap.size + 1), 1, none⟩ (.int .u64 (loW r)) = w2 at *
    simp only [List.set] at KZ
    have yZ := KZ.out
    have yZ_0 := yZ.c 0 _ rfl
    have yZ_1 := yZ.c 1 _ rfl
    have yZ_z := yZ.lt
    clear yZ
    refine bodyPost_ret (v := .tuple #[.agg #[.int .i64 (hiW r), .int .u64 (loW r)], .bool true]) (by simp [results, Tryz.results93, go_sem, yZ_0, yZ_1]) rfl ⟨rfl, HB.out⟩
  · have g : decide (hiW x < 0) = false := by have := hi_neg x; simp; omega
    rw [show absZ x = x by unfold absZ; rw [if_neg h]]
    unfold wv1 wv
    clear hx hn h
    have KX := Lib.hid ((Blk.of (vs := #[.int .i64 (hiW x), .int .u64 (loW x)]) (t := 79) (w := w) (b := w.heap.size) (by simp)).alloc (.cells #[.int .i64 0, .int .u64 0] 79))
    have KZ := Lib.hid (Blk.of (vs := #[.int .i64 0, .int .u64 0]) (t := 79) (w := (w.alloc (.cells #[.int .i64 (hiW x), .int .u64 (loW x)] 79))) (b := w.heap.size + 1) (by simp))
    have HB := Lib.hid (((Below.refl w.heap.size w).alloc (by simp; try omega) (.cells #[.int .i64 (hiW x), .int .u64 (loW x)] 79)).alloc (by simp; try omega) (.cells #[.int .i64 0, .int .u64 0] 79))
    go_enter Tryz.func93, Tryz.ntmps93
    go_wp2
    refine bodyPost_ret (v := .tuple #[.agg #[.int .i64 (hiW x), .int .u64 (loW x)], .bool true]) (by simp [results, Tryz.results93, go_sem]) rfl ⟨rfl, ?_⟩
    exact ((Below.refl _ _).alloc (Nat.le_refl _) _).alloc (by simp) _
set_option maxHeartbeats 8000000 in
set_option maxRecDepth 100000 in
theorem lsq_less (a b c d : Int) (w : World) (ha : I64 a) (hb : I64 b) (hc : I64 c) (hd : I64 d) (hf : FitW (a * b - c * d)) :
    Calls Tryz.prog 54 #[.int .i64 a, .int .i64 b, .int .i64 c, .int .i64 d] w fun e w' => e = .returned (wv (a * b - c * d)) ∧ Below w.heap.size w w' := by
  have MA := Lib.hid fun w => wmul_any a b w ha.lo ha.hi hb.lo hb.hi
  have MC := Lib.hid fun w => wmul_any c d w hc.lo hc.hi hd.lo hd.hi
  have SB := Lib.hid fun w => wsub_any (a * b) (c * d) w (mul_fit ha.lo ha.hi hb.lo hb.hi) (mul_fit hc.lo hc.hi hd.lo hd.hi) hf
  unfold wv at *
  generalize a * b - c * d = r at *
  generalize a * b = p at *
  generalize c * d = q at *
  clear ha hb hc hd hf
  have KZ := Lib.hid (Blk.of (vs := #[.int .i64 0, .int .u64 0]) (t := 79) (w := w) (b := w.heap.size) (by simp))
  have HB := Lib.hid ((Below.refl w.heap.size w).alloc (by simp; try omega) (.cells #[.int .i64 0, .int .u64 0] 79))
  go_enter Tryz.func54, Tryz.ntmps54
  go_wp2_with fail
  generalize w.alloc (.cells #[.int .i64 0, .int .u64 0] 79) = w0 at *
  refine (MA.out _).mono ?_
  rintro e1 w1 ⟨rfl, hb1⟩
  replace HB := Lib.hid (HB.out.trans (hb1.mono HB.out.size))
  replace KZ := Lib.hid (KZ.out.below hb1)
  clear hb1
  go_wp2_with fail
  refine (MC.out _).mono ?_
  rintro e2 w2 ⟨rfl, hb2⟩
  replace HB := Lib.hid (HB.out.trans (hb2.mono HB.out.size))
  replace KZ := Lib.hid (KZ.out.below hb2)
  clear hb2
  go_wp2_with fail
  refine (SB.out _).mono ?_
  rintro e3 w3 ⟨rfl, hb3⟩
  replace HB := Lib.hid (HB.out.trans (hb3.mono HB.out.size))
  replace KZ := Lib.hid (KZ.out.below hb3)
  clear hb3
  have yZ := KZ.out
  have yZ_0 := yZ.c 0 _ rfl
  have yZ_1 := yZ.c 1 _ rfl
  have yZ_z := yZ.lt
  have yZ_f0 := yZ.f 0 _ rfl
  have yZ_f1 := yZ.f 1 _ rfl
  clear yZ
  go_wp2
  replace KZ := Lib.hid (blk_set (blk_set KZ.out (j := 0) (by simp) (.int .i64 (hiW r))) (j := 1) (by simp) (.int .u64 (loW r)))
  replace HB := Lib.hid ((HB.out.setCell (p := ⟨w.heap.size, 0, none⟩) (show w.heap.size ≤ w.heap.size by omega) (.int .i64 (hiW r))).setCell (p := ⟨w.heap.size, 1, none⟩) (show w.heap.size ≤ w.heap.size by omega) (.int .u64 (loW r)))
  clear yZ_0 yZ_1 yZ_z yZ_f0 yZ_f1
  generalize (w3.setCell ⟨w.heap.size, 0, none⟩ (.int .i64 (hiW r))).setCell ⟨w.heap.size, 1, none⟩ (.int .u64 (loW r)) = w4 at *
  simp only [List.set] at KZ
  have KV := Lib.hid (Blk.of (vs := #[.int .i64 (hiW r), .int .u64 (loW r)]) (t := 79) (w := w4) (b := w4.heap.size) rfl)
  have hb5 : Below w4.heap.size w4 (w4.alloc (.cells #[.int .i64 (hiW r), .int .u64 (loW r)] 79)) := (Below.refl _ _).alloc (Nat.le_refl _) _
  have hnV := HB.out.size
  have nzV_Z := KZ.out.lt
  replace HB := Lib.hid (HB.out.trans (hb5.mono HB.out.size))
  replace KZ := Lib.hid (KZ.out.below hb5)
  clear hb5
  generalize w4.alloc (.cells #[.int .i64 (hiW r), .int .u64 (loW r)] 79) = w5 at *
  generalize w4.heap.size = bV at *
  have neV_Z : bV ≠ w.heap.size := by omega
  clear nzV_Z
  have yZ := KZ.out
  have yZ_0 := yZ.c 0 _ rfl
  have yZ_1 := yZ.c 1 _ rfl
  have yZ_z := yZ.lt
  clear yZ
  refine bodyPost_ret (v := .agg #[.int .i64 (hiW r), .int .u64 (loW r)]) (by simp [results, Tryz.results54, go_sem, yZ_0, yZ_1]) rfl ⟨rfl, HB.out⟩
set_option maxHeartbeats 8000000 in
set_option maxRecDepth 100000 in
theorem integrity_less (a b c d : Int) (w : World) (ha : I64 a) (hb : I64 b) (hc : I64 c) (hd : I64 d) (hf : FitW (a * b - c * d)) :
    Calls Tryz.prog 58 #[.int .i64 a, .int .i64 b, .int .i64 c, .int .i64 d] w fun e w' => e = .returned (wv (a * b - c * d)) ∧ Below w.heap.size w w' := by
  have MA := Lib.hid fun w => wmul_any a b w ha.lo ha.hi hb.lo hb.hi
  have MC := Lib.hid fun w => wmul_any c d w hc.lo hc.hi hd.lo hd.hi
  have SB := Lib.hid fun w => wsub_any (a * b) (c * d) w (mul_fit ha.lo ha.hi hb.lo hb.hi) (mul_fit hc.lo hc.hi hd.lo hd.hi) hf
  unfold wv at *
  generalize a * b - c * d = r at *
  generalize a * b = p at *
  generalize c * d = q at *
  clear ha hb hc hd hf
  have KZ := Lib.hid (Blk.of (vs := #[.int .i64 0, .int .u64 0]) (t := 79) (w := w) (b := w.heap.size) (by simp))
  have HB := Lib.hid ((Below.refl w.heap.size w).alloc (by simp; try omega) (.cells #[.int .i64 0, .int .u64 0] 79))
  go_enter Tryz.func58, Tryz.ntmps58
  go_wp2_with fail
  generalize w.alloc (.cells #[.int .i64 0, .int .u64 0] 79) = w0 at *
  refine (MA.out _).mono ?_
  rintro e1 w1 ⟨rfl, hb1⟩
  replace HB := Lib.hid (HB.out.trans (hb1.mono HB.out.size))
  replace KZ := Lib.hid (KZ.out.below hb1)
  clear hb1
  go_wp2_with fail
  refine (MC.out _).mono ?_
  rintro e2 w2 ⟨rfl, hb2⟩
  replace HB := Lib.hid (HB.out.trans (hb2.mono HB.out.size))
  replace KZ := Lib.hid (KZ.out.below hb2)
  clear hb2
  go_wp2_with fail
  refine (SB.out _).mono ?_
  rintro e3 w3 ⟨rfl, hb3⟩
  replace HB := Lib.hid (HB.out.trans (hb3.mono HB.out.size))
  replace KZ := Lib.hid (KZ.out.below hb3)
  clear hb3
  have yZ := KZ.out
  have yZ_0 := yZ.c 0 _ rfl
  have yZ_1 := yZ.c 1 _ rfl
  have yZ_z := yZ.lt
  have yZ_f0 := yZ.f 0 _ rfl
  have yZ_f1 := yZ.f 1 _ rfl
  clear yZ
  go_wp2
  replace KZ := Lib.hid (blk_set (blk_set KZ.out (j := 0) (by simp) (.int .i64 (hiW r))) (j := 1) (by simp) (.int .u64 (loW r)))
  replace HB := Lib.hid ((HB.out.setCell (p := ⟨w.heap.size, 0, none⟩) (show w.heap.size ≤ w.heap.size by omega) (.int .i64 (hiW r))).setCell (p := ⟨w.heap.size, 1, none⟩) (show w.heap.size ≤ w.heap.size by omega) (.int .u64 (loW r)))
  clear yZ_0 yZ_1 yZ_z yZ_f0 yZ_f1
  generalize (w3.setCell ⟨w.heap.size, 0, none⟩ (.int .i64 (hiW r))).setCell ⟨w.heap.size, 1, none⟩ (.int .u64 (loW r)) = w4 at *
  simp only [List.set] at KZ
  have KV := Lib.hid (Blk.of (vs := #[.int .i64 (hiW r), .int .u64 (loW r)]) (t := 79) (w := w4) (b := w4.heap.size) rfl)
  have hb5 : Below w4.heap.size w4 (w4.alloc (.cells #[.int .i64 (hiW r), .int .u64 (loW r)] 79)) := (Below.refl _ _).alloc (Nat.le_refl _) _
  have hnV := HB.out.size
  have nzV_Z := KZ.out.lt
  replace HB := Lib.hid (HB.out.trans (hb5.mono HB.out.size))
  replace KZ := Lib.hid (KZ.out.below hb5)
  clear hb5
  generalize w4.alloc (.cells #[.int .i64 (hiW r), .int .u64 (loW r)] 79) = w5 at *
  generalize w4.heap.size = bV at *
  have neV_Z : bV ≠ w.heap.size := by omega
  clear nzV_Z
  have yZ := KZ.out
  have yZ_0 := yZ.c 0 _ rfl
  have yZ_1 := yZ.c 1 _ rfl
  have yZ_z := yZ.lt
  clear yZ
  refine bodyPost_ret (v := .agg #[.int .i64 (hiW r), .int .u64 (loW r)]) (by simp [results, Tryz.results58, go_sem, yZ_0, yZ_1]) rfl ⟨rfl, HB.out⟩
set_option maxHeartbeats 8000000 in
set_option maxRecDepth 100000 in
theorem plus_any (x y : Int) (w : World) (hx : FitW x) (hy : FitW y) (hf : FitW (x + y)) :
    Calls Tryz.prog 59 #[wv x, wv y] w fun e w' => e = .returned (wv (x + y)) ∧ Below w.heap.size w w' := by
  have AD := Lib.hid fun w => wadd_any x y w hx hy hf
  unfold wv at *
  generalize x + y = r at *
  clear hx hy hf
  have KX := Lib.hid (((Blk.of (vs := #[.int .i64 (hiW x), .int .u64 (loW x)]) (t := 79) (w := w) (b := w.heap.size) (by simp)).alloc (.cells #[.int .i64 (hiW y), .int .u64 (loW y)] 79)).alloc (.cells #[.int .i64 0, .int .u64 0] 79))
  have KY := Lib.hid ((Blk.of (vs := #[.int .i64 (hiW y), .int .u64 (loW y)]) (t := 79) (w := (w.alloc (.cells #[.int .i64 (hiW x), .int .u64 (loW x)] 79))) (b := w.heap.size + 1) (by simp)).alloc (.cells #[.int .i64 0, .int .u64 0] 79))
  have KZ := Lib.hid (Blk.of (vs := #[.int .i64 0, .int .u64 0]) (t := 79) (w := ((w.alloc (.cells #[.int .i64 (hiW x), .int .u64 (loW x)] 79)).alloc (.cells #[.int .i64 (hiW y), .int .u64 (loW y)] 79))) (b := w.heap.size + 1 + 1) (by simp))
  have HB := Lib.hid ((((Below.refl w.heap.size w).alloc (by simp; try omega) (.cells #[.int .i64 (hiW x), .int .u64 (loW x)] 79)).alloc (by simp; try omega) (.cells #[.int .i64 (hiW y), .int .u64 (loW y)] 79)).alloc (by simp; try omega) (.cells #[.int .i64 0, .int .u64 0] 79))
  go_enter Tryz.func59, Tryz.ntmps59
  go_wp2_with fail
  generalize ((w.alloc (.cells #[.int .i64 (hiW x), .int .u64 (loW x)] 79)).alloc (.cells #[.int .i64 (hiW y), .int .u64 (loW y)] 79)).alloc (.cells #[.int .i64 0, .int .u64 0] 79) = w0 at *
  refine (AD.out _).mono ?_
  rintro e1 w1 ⟨rfl, hb1⟩
  replace HB := Lib.hid (HB.out.trans (hb1.mono HB.out.size))
  replace KX := Lib.hid (KX.out.below hb1)
  replace KY := Lib.hid (KY.out.below hb1)
  replace KZ := Lib.hid (KZ.out.below hb1)
  clear hb1
  have yZ := KZ.out
  have yZ_0 := yZ.c 0 _ rfl
  have yZ_1 := yZ.c 1 _ rfl
  have yZ_z := yZ.lt
  have yZ_f0 := yZ.f 0 _ rfl
  have yZ_f1 := yZ.f 1 _ rfl
  clear yZ
  go_wp2
  replace KX := Lib.hid (blk_other (b := w.heap.size) (n := (w.heap.size + 1 + 1)) (j := 1) (blk_other (b := w.heap.size) (n := (w.heap.size + 1 + 1)) (j := 0) KX.out (by omega) (.int .i64 (hiW r))) (by omega) (.int .u64 (loW r)))
  replace KY := Lib.hid (blk_other (b := (w.heap.size + 1)) (n := (w.heap.size + 1 + 1)) (j := 1) (blk_other (b := (w.heap.size + 1)) (n := (w.heap.size + 1 + 1)) (j := 0) KY.out (by omega) (.int .i64 (hiW r))) (by omega) (.int .u64 (loW r)))
  replace KZ := Lib.hid (blk_set (blk_set KZ.out (j := 0) (by simp) (.int .i64 (hiW r))) (j := 1) (by simp) (.int .u64 (loW r)))
  replace HB := Lib.hid ((HB.out.setCell (p := ⟨(w.heap.size + 1 + 1), 0, none⟩) (show w.heap.size ≤ (w.heap.size + 1 + 1) by omega) (.int .i64 (hiW r))).setCell (p := ⟨(w.heap.size + 1 + 1), 1, none⟩) (show w.heap.size ≤ (w.heap.size + 1 + 1) by omega) (.int .u64 (loW r)))
  clear yZ_0 yZ_1 yZ_z yZ_f0 yZ_f1
  generalize (w1.setCell ⟨(w.heap.size + 1 + 1), 0, none⟩ (.int .i64 (hiW r))).setCell ⟨(w.heap.size + 1 + 1), 1, none⟩ (.int .u64 (loW r)) = w2 at *
  simp only [List.set] at KZ
  have KV := Lib.hid (Blk.of (vs := #[.int .i64 (hiW r), .int .u64 (loW r)]) (t := 79) (w := w2) (b := w2.heap.size) rfl)
  have hb3 : Below w2.heap.size w2 (w2.alloc (.cells #[.int .i64 (hiW r), .int .u64 (loW r)] 79)) := (Below.refl _ _).alloc (Nat.le_refl _) _
  have hnV := HB.out.size
  have nzV_X := KX.out.lt
  have nzV_Y := KY.out.lt
  have nzV_Z := KZ.out.lt
  replace HB := Lib.hid (HB.out.trans (hb3.mono HB.out.size))
  replace KX := Lib.hid (KX.out.below hb3)
  replace KY := Lib.hid (KY.out.below hb3)
  replace KZ := Lib.hid (KZ.out.below hb3)
  clear hb3
  generalize w2.alloc (.cells #[.int .i64 (hiW r), .int .u64 (loW r)] 79) = w3 at *
  generalize w2.heap.size = bV at *
  have neV_X : bV ≠ w.heap.size := by omega
  have neV_Y : bV ≠ (w.heap.size + 1) := by omega
  have neV_Z : bV ≠ (w.heap.size + 1 + 1) := by omega
  clear nzV_X nzV_Y nzV_Z
  have yZ := KZ.out
  have yZ_0 := yZ.c 0 _ rfl
  have yZ_1 := yZ.c 1 _ rfl
  have yZ_z := yZ.lt
  clear yZ
  refine bodyPost_ret (v := .agg #[.int .i64 (hiW r), .int .u64 (loW r)]) (by simp [results, Tryz.results59, go_sem, yZ_0, yZ_1]) rfl ⟨rfl, HB.out⟩
end Go.Proofs.YtidelghgjibndaaGreat
namespace Go.Proofs.YtidelghgjibndaaGreat
set_option linter.unusedVariables false
open Go.RowKit
theorem kv_set2n {w W : World} {u0 u1 : Value} {b : Nat} (v0 v1 : Value) (h : w.heap.size ≤ b ∧ Blk [u0, u1] b W) (hb : Below w.heap.size w W) :
    Below w.heap.size w ((W.setCell ⟨b, 0, none⟩ v0).setCell ⟨b, 1, none⟩ v1) ∧ Blk [v0, v1] b ((W.setCell ⟨b, 0, none⟩ v0).setCell ⟨b, 1, none⟩ v1) ∧ w.heap.size ≤ b :=
  ⟨((hb.setCell (p := ⟨b, 0, none⟩) h.1 v0).setCell (p := ⟨b, 1, none⟩) h.1 v1), (blk_set (blk_set h.2 (j := 0) (by simp) v0) (j := 1) (by simp) v1), h.1⟩
theorem kv_set7 {w W : World} {u0 u1 u2 u3 u4 u5 u6 : Value} {b : Nat} (v0 v1 v2 v3 v4 v5 v6 : Value) (h : w.heap.size ≤ b ∧ Blk [u0, u1, u2, u3, u4, u5, u6] b W) (hb : Below w.heap.size w W) :
    Below w.heap.size w (((((((W.setCell ⟨b, 0, none⟩ v0).setCell ⟨b, 1, none⟩ v1).setCell ⟨b, 2, none⟩ v2).setCell ⟨b, 3, none⟩ v3).setCell ⟨b, 4, none⟩ v4).setCell ⟨b, 5, none⟩ v5).setCell ⟨b, 6, none⟩ v6) ∧ Blk [v0, v1, v2, v3, v4, v5, v6] b (((((((W.setCell ⟨b, 0, none⟩ v0).setCell ⟨b, 1, none⟩ v1).setCell ⟨b, 2, none⟩ v2).setCell ⟨b, 3, none⟩ v3).setCell ⟨b, 4, none⟩ v4).setCell ⟨b, 5, none⟩ v5).setCell ⟨b, 6, none⟩ v6) ∧ w.heap.size ≤ b :=
  ⟨(((((((hb.setCell (p := ⟨b, 0, none⟩) h.1 v0).setCell (p := ⟨b, 1, none⟩) h.1 v1).setCell (p := ⟨b, 2, none⟩) h.1 v2).setCell (p := ⟨b, 3, none⟩) h.1 v3).setCell (p := ⟨b, 4, none⟩) h.1 v4).setCell (p := ⟨b, 5, none⟩) h.1 v5).setCell (p := ⟨b, 6, none⟩) h.1 v6), (blk_set (blk_set (blk_set (blk_set (blk_set (blk_set (blk_set h.2 (j := 0) (by simp) v0) (j := 1) (by simp) v1) (j := 2) (by simp) v2) (j := 3) (by simp) v3) (j := 4) (by simp) v4) (j := 5) (by simp) v5) (j := 6) (by simp) v6), h.1⟩
theorem kv_set9 {w W : World} {u0 u1 u2 u3 u4 u5 u6 u7 u8 : Value} {b : Nat} (v0 v1 v2 v3 v4 v5 v6 v7 v8 : Value) (h : w.heap.size ≤ b ∧ Blk [u0, u1, u2, u3, u4, u5, u6, u7, u8] b W) (hb : Below w.heap.size w W) :
    Below w.heap.size w (((((((((W.setCell ⟨b, 0, none⟩ v0).setCell ⟨b, 1, none⟩ v1).setCell ⟨b, 2, none⟩ v2).setCell ⟨b, 3, none⟩ v3).setCell ⟨b, 4, none⟩ v4).setCell ⟨b, 5, none⟩ v5).setCell ⟨b, 6, none⟩ v6).setCell ⟨b, 7, none⟩ v7).setCell ⟨b, 8, none⟩ v8) ∧ Blk [v0, v1, v2, v3, v4, v5, v6, v7, v8] b (((((((((W.setCell ⟨b, 0, none⟩ v0).setCell ⟨b, 1, none⟩ v1).setCell ⟨b, 2, none⟩ v2).setCell ⟨b, 3, none⟩ v3).setCell ⟨b, 4, none⟩ v4).setCell ⟨b, 5, none⟩ v5).setCell ⟨b, 6, none⟩ v6).setCell ⟨b, 7, none⟩ v7).setCell ⟨b, 8, none⟩ v8) ∧ w.heap.size ≤ b :=
  ⟨(((((((((hb.setCell (p := ⟨b, 0, none⟩) h.1 v0).setCell (p := ⟨b, 1, none⟩) h.1 v1).setCell (p := ⟨b, 2, none⟩) h.1 v2).setCell (p := ⟨b, 3, none⟩) h.1 v3).setCell (p := ⟨b, 4, none⟩) h.1 v4).setCell (p := ⟨b, 5, none⟩) h.1 v5).setCell (p := ⟨b, 6, none⟩) h.1 v6).setCell (p := ⟨b, 7, none⟩) h.1 v7).setCell (p := ⟨b, 8, none⟩) h.1 v8), (blk_set (blk_set (blk_set (blk_set (blk_set (blk_set (blk_set (blk_set (blk_set h.2 (j := 0) (by simp) v0) (j := 1) (by simp) v1) (j := 2) (by simp) v2) (j := 3) (by simp) v3) (j := 4) (by simp) v4) (j := 5) (by simp) v5) (j := 6) (by simp) v6) (j := 7) (by simp) v7) (j := 8) (by simp) v8), h.1⟩
theorem kv_putn {w W : World} {vs : Array Value} {t : TypeId} (hb : Below w.heap.size w W) : Below w.heap.size w (W.alloc (.cells vs t)) ∧ Blk vs.toList W.heap.size (W.alloc (.cells vs t)) ∧ w.heap.size ≤ W.heap.size :=
  ⟨hb.alloc hb.size _, Blk.new vs W t, hb.size⟩
theorem near_bd {x d : Int} (hd : 0 < d) (h0 : -85070591730234615865843651857942052864 < x) (h1 : x < 85070591730234615865843651857942052864) (hd1 : d ≤ 9223372036854775807) : FitW (nearI2 x d) := by
  unfold nearI2
  have e := Int.mul_ediv_add_emod (2 * x + d) (2 * d)
  have r0 := Int.emod_nonneg (2 * x + d) (show 2 * d ≠ 0 by omega)
  have r1 := Int.emod_lt_of_pos (2 * x + d) (show 0 < 2 * d by omega)
  generalize (2 * x + d) / (2 * d) = q at *
  generalize (2 * x + d) % (2 * d) = r at *
  have e2 : 2 * d * q = 2 * (d * q) := Int.mul_assoc _ _ _
  rw [e2] at e
  constructor
  · rcases Int.le_total 0 q with h | h
    · omega
    · have := Int.mul_le_mul_of_nonpos_right (show 1 ≤ d by omega) h
      omega
  · rcases Int.le_total 0 q with h | h
    · have := Int.mul_le_mul_of_nonneg_right (show 1 ≤ d by omega) h
      omega
    · omega
theorem ceil_bd {x d : Int} (hd : 0 < d) (h0 : 0 ≤ x) : 0 ≤ ceilI x d ∧ ceilI x d ≤ x := by
  unfold ceilI
  have h1 : -x / d < 1 := Int.ediv_lt_of_lt_mul hd (by omega)
  have h2 : -x ≤ -x / d := Int.le_ediv_of_mul_le hd (by
    have := Int.mul_le_mul_of_nonneg_left (show 1 ≤ d by omega) h0
    rw [Int.neg_mul]
    omega)
  omega
theorem near_int {x : Int} (w : World) (hf : FitW x) : Calls Tryz.prog 85 #[wv x] w fun e w' => e = .returned (.tuple #[.int .i64 (if I64 x then x else 0), .bool (decide (I64 x))]) ∧ Below w.heap.size w w' := by
  by_cases h : I64 x
  · rw [if_pos h, decide_eq_true h]
    exact wint_any x w h.lo (by have := h.hi; omega)
  · rw [if_neg h, decide_eq_false h]
    refine wint_out x w hf ?_
    rcases Int.lt_or_le x (-9223372036854775808) with a | a
    · exact .inl a
    · rcases Int.lt_or_le 9223372036854775807 x with b | b
      · exact .inr b
      · exact absurd ⟨a, b⟩ h
set_option maxHeartbeats 8000000 in
set_option maxRecDepth 100000 in
theorem nearest_any (x d : Int) (w : World) (hx0 : -85070591730234615865843651857942052864 < x) (hx : x < 85070591730234615865843651857942052864) (hd : 0 < d) (hd1 : d ≤ 9223372036854775807) :
    Calls Tryz.prog 55 #[wv x, .int .i64 d] w fun e w' => e = .returned (.tuple #[.int .i64 (if I64 (nearI2 x d) then nearI2 x d else 0), .bool (decide (I64 (nearI2 x d)))]) ∧ Below w.heap.size w w' := by
  have OF := Lib.hid fun w => wof_any d w (by omega) hd1
  have DV := Lib.hid fun w => wnear_any x d w hx0 hx hd (by omega)
  have IN := Lib.hid fun w => near_int (x := nearI2 x d) w (near_bd hd hx0 hx hd1)
  generalize decide (I64 (nearI2 x d)) = ok at *
  generalize (if I64 (nearI2 x d) then nearI2 x d else 0) = u at *
  generalize nearI2 x d = v at *
  unfold wv at *
  clear hx0 hx hd hd1
  have KX := Lib.hid (Blk.of (vs := #[.int .i64 (hiW x), .int .u64 (loW x)]) (t := 79) (w := w) (b := w.heap.size) (by simp))
  have HB := Lib.hid ((Below.refl w.heap.size w).alloc (by simp; try omega) (.cells #[.int .i64 (hiW x), .int .u64 (loW x)] 79))
  go_enter Tryz.func55, Tryz.ntmps55
  go_wp2_with fail
  generalize w.alloc (.cells #[.int .i64 (hiW x), .int .u64 (loW x)] 79) = w0 at *
  have BD := Lib.hid (show Below w0.heap.size w0 w0.drew from ⟨rfl, rfl, rfl, Nat.le_refl _, fun _ _ => rfl⟩)
  have BD2 := Lib.hid (below_drew_alloc w0 (.cells #[.int .i64 0, .int .u64 0] 79))
  have DOF := Lib.hid fun W (h : Below w0.heap.size w0 W) => (OF.out W).mono fun e w' ⟨h1, h2⟩ => show _ ∧ Below w0.heap.size w0 w' ∧ Below W.heap.size W w' from ⟨h1, h.trans (h2.mono h.size), h2⟩
  have DDV := Lib.hid fun W (h : Below w0.heap.size w0 W) => (DV.out W).mono fun e w' ⟨h1, h2⟩ => show _ ∧ Below w0.heap.size w0 w' ∧ Below W.heap.size W w' from ⟨h1, h.trans (h2.mono h.size), h2⟩
  have yX := KX.out
  have yX_0 := yX.c 0 _ rfl
  have yX_1 := yX.c 1 _ rfl
  have yX_z := yX.lt
  clear yX
  go_region_held3 (fun w' => w'.cell? ⟨w.heap.size, 0, none⟩ = some (.int .i64 (hiW x)) ∧ w'.cell? ⟨w.heap.size, 1, none⟩ = some (.int .u64 (loW x))) (first | (refine ⟨?_, ?_⟩ <;> first | assumption | (rw [far2 KV.out.1 yX_z]; assumption)) | go_keep)
    (first
      | (go_at_call 84; with_reducible refine Calls.mono (DOF.out _ (by first | exact BD.out | exact BD2.out | exact HX.out | exact HX.out.alloc HX.out.size _)) ?_; rintro e9 w9 ⟨rfl, hb9, hc9⟩; have pX := KX.out.below hb9; have qX0 := pX.c 0 _ rfl; have qX1 := pX.c 1 _ rfl; clear pX; (first | (with_reducible have KV := Lib.hid (kv_drew (vs := #[.int .i64 0, .int .u64 0]) (t := 79) hc9); have pV := KV.out.2; have v0 := pV.c 0 _ rfl; have vf0 := pV.f 0 _ rfl; have v1 := pV.c 1 _ rfl; have vf1 := pV.f 1 _ rfl; have v9 := pV.lt; clear pV) | (with_reducible have KV := Lib.hid (kv_new (vs := #[.int .i64 0, .int .u64 0]) (t := 79) HX.out hc9); have pV := KV.out.2; have v0 := pV.c 0 _ rfl; have vf0 := pV.f 0 _ rfl; have v1 := pV.c 1 _ rfl; have vf1 := pV.f 1 _ rfl; have v9 := pV.lt; clear pV) | (with_reducible have KV := Lib.hid (kv_old KV.out hc9); have pV := KV.out.2; have v0 := pV.c 0 _ rfl; have vf0 := pV.f 0 _ rfl; have v1 := pV.c 1 _ rfl; have vf1 := pV.f 1 _ rfl; have v9 := pV.lt; clear pV) | skip); have HX := Lib.hid hb9; clear hb9 hc9)
      | (go_at_call 83; with_reducible refine Calls.mono (DDV.out _ (by first | exact BD.out | exact BD2.out | exact HX.out | exact HX.out.alloc HX.out.size _)) ?_; rintro e9 w9 ⟨rfl, hb9, hc9⟩; have pX := KX.out.below hb9; have qX0 := pX.c 0 _ rfl; have qX1 := pX.c 1 _ rfl; clear pX; (first | (with_reducible have KV := Lib.hid (kv_drew (vs := #[.int .i64 0, .int .u64 0]) (t := 79) hc9); have pV := KV.out.2; have v0 := pV.c 0 _ rfl; have vf0 := pV.f 0 _ rfl; have v1 := pV.c 1 _ rfl; have vf1 := pV.f 1 _ rfl; have v9 := pV.lt; clear pV) | (with_reducible have KV := Lib.hid (kv_new (vs := #[.int .i64 0, .int .u64 0]) (t := 79) HX.out hc9); have pV := KV.out.2; have v0 := pV.c 0 _ rfl; have vf0 := pV.f 0 _ rfl; have v1 := pV.c 1 _ rfl; have vf1 := pV.f 1 _ rfl; have v9 := pV.lt; clear pV) | (with_reducible have KV := Lib.hid (kv_old KV.out hc9); have pV := KV.out.2; have v0 := pV.c 0 _ rfl; have vf0 := pV.f 0 _ rfl; have v1 := pV.c 1 _ rfl; have vf1 := pV.f 1 _ rfl; have v9 := pV.lt; clear pV) | skip); have HX := Lib.hid hb9; clear hb9 hc9))
  all_goals
    first
      | (have FN := kv_set2n (.int .i64 (hiW v)) (.int .u64 (loW v)) KV.out HX.out; have FB := Lib.hid FN.1; have KN := Lib.hid FN.2.1; have n0N := FN.2.2; clear FN; generalize World.setCell (World.setCell _ _ (.int .i64 (hiW v))) _ (.int .u64 (loW v)) = w1 at *)
      | (have FN := kv_putn (vs := #[.int .i64 (hiW v), .int .u64 (loW v)]) (t := 79) HX.out; have FB := Lib.hid FN.1; have KN := Lib.hid FN.2.1; have n0N := FN.2.2; clear FN; generalize (World.alloc _ (.cells #[.int .i64 (hiW v), .int .u64 (loW v)] 79)) = w1 at *)
    have nN := Nat.le_trans HB.out.size n0N
    have neN_X := Nat.ne_of_gt (Nat.lt_of_lt_of_le KX.out.lt n0N)
    replace HB := Lib.hid (HB.out.trans (FB.out.mono HB.out.size))
    replace KX := Lib.hid (KX.out.below FB.out)
    have yN := KN.out
    have yN_0 := yN.c 0 _ rfl
    have yN_1 := yN.c 1 _ rfl
    have yN_z := yN.lt
    clear yN
    go_wp2_with fail
    refine (IN.out _).mono ?_
    rintro e2 w2 ⟨rfl, hb2⟩
    replace HB := Lib.hid (HB.out.trans (hb2.mono HB.out.size))
    replace KX := Lib.hid (KX.out.below hb2)
    replace KN := Lib.hid (KN.out.below hb2)
    clear yN_0 yN_1 yN_z
    clear hb2
    go_wp2
    all_goals go_ret2
    all_goals exact ⟨rfl, HB.out⟩
set_option maxHeartbeats 8000000 in
set_option maxRecDepth 100000 in
theorem size_any (x d : Int) (w : World) (hx0 : 0 ≤ x) (hx : x < 85070591730234615865843651857942052864) (hd : 0 < d) (hd1 : d ≤ 9223372036854775807) :
    Calls Tryz.prog 92 #[wv x, .int .i64 d] w fun e w' => e = .returned (if ceilI x d ≤ 8000000 then .tuple #[.int .i64 (ceilI x d), .bool true] else .tuple #[.int .i64 0, .bool false]) ∧ Below w.heap.size w w' := by
  obtain ⟨b0, b1⟩ := ceil_bd hd hx0
  have OF := Lib.hid fun w => wof_any d w (by omega) hd1
  have DV := Lib.hid fun w => wdivup_any x d w hx0 hx hd (by omega)
  have IN := Lib.hid fun w => near_int (x := ceilI x d) w ⟨by omega, by omega⟩
  have IB : ceilI x d ≤ 8000000 → I64 (ceilI x d) := fun h => ⟨by omega, by omega⟩
  generalize ceilI x d = v at *
  unfold wv at *
  clear hx0 hx hd hd1 b0 b1
  by_cases h : v ≤ 8000000
  · have g : decide (8000000 < v) = false := by simp; omega
    rw [if_pos (IB h), decide_eq_true (IB h)] at IN
    rw [if_pos h]
    clear h IB
    have KX := Lib.hid (Blk.of (vs := #[.int .i64 (hiW x), .int .u64 (loW x)]) (t := 79) (w := w) (b := w.heap.size) (by simp))
    have HB := Lib.hid ((Below.refl w.heap.size w).alloc (by simp; try omega) (.cells #[.int .i64 (hiW x), .int .u64 (loW x)] 79))
    go_enter Tryz.func92, Tryz.ntmps92
    go_wp2_with fail
    generalize w.alloc (.cells #[.int .i64 (hiW x), .int .u64 (loW x)] 79) = w0 at *
    have BD := Lib.hid (show Below w0.heap.size w0 w0.drew from ⟨rfl, rfl, rfl, Nat.le_refl _, fun _ _ => rfl⟩)
    have BD2 := Lib.hid (below_drew_alloc w0 (.cells #[.int .i64 0, .int .u64 0] 79))
    have DOF := Lib.hid fun W (h : Below w0.heap.size w0 W) => (OF.out W).mono fun e w' ⟨h1, h2⟩ => show _ ∧ Below w0.heap.size w0 w' ∧ Below W.heap.size W w' from ⟨h1, h.trans (h2.mono h.size), h2⟩
    have DDV := Lib.hid fun W (h : Below w0.heap.size w0 W) => (DV.out W).mono fun e w' ⟨h1, h2⟩ => show _ ∧ Below w0.heap.size w0 w' ∧ Below W.heap.size W w' from ⟨h1, h.trans (h2.mono h.size), h2⟩
    have yX := KX.out
    have yX_0 := yX.c 0 _ rfl
    have yX_1 := yX.c 1 _ rfl
    have yX_z := yX.lt
    clear yX
    go_region_held3 (fun w' => w'.cell? ⟨w.heap.size, 0, none⟩ = some (.int .i64 (hiW x)) ∧ w'.cell? ⟨w.heap.size, 1, none⟩ = some (.int .u64 (loW x))) (first | (refine ⟨?_, ?_⟩ <;> first | assumption | (rw [far2 KV.out.1 yX_z]; assumption)) | go_keep)
      (first
        | (go_at_call 84; with_reducible refine Calls.mono (DOF.out _ (by first | exact BD.out | exact BD2.out | exact HX.out | exact HX.out.alloc HX.out.size _)) ?_; rintro e9 w9 ⟨rfl, hb9, hc9⟩; have pX := KX.out.below hb9; have qX0 := pX.c 0 _ rfl; have qX1 := pX.c 1 _ rfl; clear pX; (first | (with_reducible have KV := Lib.hid (kv_drew (vs := #[.int .i64 0, .int .u64 0]) (t := 79) hc9); have pV := KV.out.2; have v0 := pV.c 0 _ rfl; have vf0 := pV.f 0 _ rfl; have v1 := pV.c 1 _ rfl; have vf1 := pV.f 1 _ rfl; have v9 := pV.lt; clear pV) | (with_reducible have KV := Lib.hid (kv_new (vs := #[.int .i64 0, .int .u64 0]) (t := 79) HX.out hc9); have pV := KV.out.2; have v0 := pV.c 0 _ rfl; have vf0 := pV.f 0 _ rfl; have v1 := pV.c 1 _ rfl; have vf1 := pV.f 1 _ rfl; have v9 := pV.lt; clear pV) | (with_reducible have KV := Lib.hid (kv_old KV.out hc9); have pV := KV.out.2; have v0 := pV.c 0 _ rfl; have vf0 := pV.f 0 _ rfl; have v1 := pV.c 1 _ rfl; have vf1 := pV.f 1 _ rfl; have v9 := pV.lt; clear pV) | skip); have HX := Lib.hid hb9; clear hb9 hc9)
        | (go_at_call 117; with_reducible refine Calls.mono (DDV.out _ (by first | exact BD.out | exact BD2.out | exact HX.out | exact HX.out.alloc HX.out.size _)) ?_; rintro e9 w9 ⟨rfl, hb9, hc9⟩; have pX := KX.out.below hb9; have qX0 := pX.c 0 _ rfl; have qX1 := pX.c 1 _ rfl; clear pX; (first | (with_reducible have KV := Lib.hid (kv_drew (vs := #[.int .i64 0, .int .u64 0]) (t := 79) hc9); have pV := KV.out.2; have v0 := pV.c 0 _ rfl; have vf0 := pV.f 0 _ rfl; have v1 := pV.c 1 _ rfl; have vf1 := pV.f 1 _ rfl; have v9 := pV.lt; clear pV) | (with_reducible have KV := Lib.hid (kv_new (vs := #[.int .i64 0, .int .u64 0]) (t := 79) HX.out hc9); have pV := KV.out.2; have v0 := pV.c 0 _ rfl; have vf0 := pV.f 0 _ rfl; have v1 := pV.c 1 _ rfl; have vf1 := pV.f 1 _ rfl; have v9 := pV.lt; clear pV) | (with_reducible have KV := Lib.hid (kv_old KV.out hc9); have pV := KV.out.2; have v0 := pV.c 0 _ rfl; have vf0 := pV.f 0 _ rfl; have v1 := pV.c 1 _ rfl; have vf1 := pV.f 1 _ rfl; have v9 := pV.lt; clear pV) | skip); have HX := Lib.hid hb9; clear hb9 hc9))
    all_goals
      first
        | (have FN := kv_set2n (.int .i64 (hiW v)) (.int .u64 (loW v)) KV.out HX.out; have FB := Lib.hid FN.1; have KN := Lib.hid FN.2.1; have n0N := FN.2.2; clear FN; generalize World.setCell (World.setCell _ _ (.int .i64 (hiW v))) _ (.int .u64 (loW v)) = w1 at *)
        | (have FN := kv_putn (vs := #[.int .i64 (hiW v), .int .u64 (loW v)]) (t := 79) HX.out; have FB := Lib.hid FN.1; have KN := Lib.hid FN.2.1; have n0N := FN.2.2; clear FN; generalize (World.alloc _ (.cells #[.int .i64 (hiW v), .int .u64 (loW v)] 79)) = w1 at *)
      have nN := Nat.le_trans HB.out.size n0N
      have neN_X := Nat.ne_of_gt (Nat.lt_of_lt_of_le KX.out.lt n0N)
      replace HB := Lib.hid (HB.out.trans (FB.out.mono HB.out.size))
      replace KX := Lib.hid (KX.out.below FB.out)
      have yN := KN.out
      have yN_0 := yN.c 0 _ rfl
      have yN_1 := yN.c 1 _ rfl
      have yN_z := yN.lt
      clear yN
      go_wp2_with fail
      refine (IN.out _).mono ?_
      rintro e2 w2 ⟨rfl, hb2⟩
      replace HB := Lib.hid (HB.out.trans (hb2.mono HB.out.size))
      replace KX := Lib.hid (KX.out.below hb2)
      replace KN := Lib.hid (KN.out.below hb2)
      clear yN_0 yN_1 yN_z
      clear hb2
      go_wp2
      all_goals go_ret2
      all_goals exact ⟨rfl, HB.out⟩
  · rw [if_neg h]
    by_cases k : I64 v
    · have g : decide (8000000 < v) = true := by simp; omega
      rw [if_pos k, decide_eq_true k] at IN
      clear h IB k
      have KX := Lib.hid (Blk.of (vs := #[.int .i64 (hiW x), .int .u64 (loW x)]) (t := 79) (w := w) (b := w.heap.size) (by simp))
      have HB := Lib.hid ((Below.refl w.heap.size w).alloc (by simp; try omega) (.cells #[.int .i64 (hiW x), .int .u64 (loW x)] 79))
      go_enter Tryz.func92, Tryz.ntmps92
      go_wp2_with fail
      generalize w.alloc (.cells #[.int .i64 (hiW x), .int .u64 (loW x)] 79) = w0 at *
      have BD := Lib.hid (show Below w0.heap.size w0 w0.drew from ⟨rfl, rfl, rfl, Nat.le_refl _, fun _ _ => rfl⟩)
      have BD2 := Lib.hid (below_drew_alloc w0 (.cells #[.int .i64 0, .int .u64 0] 79))
      have DOF := Lib.hid fun W (h : Below w0.heap.size w0 W) => (OF.out W).mono fun e w' ⟨h1, h2⟩ => show _ ∧ Below w0.heap.size w0 w' ∧ Below W.heap.size W w' from ⟨h1, h.trans (h2.mono h.size), h2⟩
      have DDV := Lib.hid fun W (h : Below w0.heap.size w0 W) => (DV.out W).mono fun e w' ⟨h1, h2⟩ => show _ ∧ Below w0.heap.size w0 w' ∧ Below W.heap.size W w' from ⟨h1, h.trans (h2.mono h.size), h2⟩
      have yX := KX.out
      have yX_0 := yX.c 0 _ rfl
      have yX_1 := yX.c 1 _ rfl
      have yX_z := yX.lt
      clear yX
      go_region_held3 (fun w' => w'.cell? ⟨w.heap.size, 0, none⟩ = some (.int .i64 (hiW x)) ∧ w'.cell? ⟨w.heap.size, 1, none⟩ = some (.int .u64 (loW x))) (first | (refine ⟨?_, ?_⟩ <;> first | assumption | (rw [far2 KV.out.1 yX_z]; assumption)) | go_keep)
        (first
          | (go_at_call 84; with_reducible refine Calls.mono (DOF.out _ (by first | exact BD.out | exact BD2.out | exact HX.out | exact HX.out.alloc HX.out.size _)) ?_; rintro e9 w9 ⟨rfl, hb9, hc9⟩; have pX := KX.out.below hb9; have qX0 := pX.c 0 _ rfl; have qX1 := pX.c 1 _ rfl; clear pX; (first | (with_reducible have KV := Lib.hid (kv_drew (vs := #[.int .i64 0, .int .u64 0]) (t := 79) hc9); have pV := KV.out.2; have v0 := pV.c 0 _ rfl; have vf0 := pV.f 0 _ rfl; have v1 := pV.c 1 _ rfl; have vf1 := pV.f 1 _ rfl; have v9 := pV.lt; clear pV) | (with_reducible have KV := Lib.hid (kv_new (vs := #[.int .i64 0, .int .u64 0]) (t := 79) HX.out hc9); have pV := KV.out.2; have v0 := pV.c 0 _ rfl; have vf0 := pV.f 0 _ rfl; have v1 := pV.c 1 _ rfl; have vf1 := pV.f 1 _ rfl; have v9 := pV.lt; clear pV) | (with_reducible have KV := Lib.hid (kv_old KV.out hc9); have pV := KV.out.2; have v0 := pV.c 0 _ rfl; have vf0 := pV.f 0 _ rfl; have v1 := pV.c 1 _ rfl; have vf1 := pV.f 1 _ rfl; have v9 := pV.lt; clear pV) | skip); have HX := Lib.hid hb9; clear hb9 hc9)
          | (go_at_call 117; with_reducible refine Calls.mono (DDV.out _ (by first | exact BD.out | exact BD2.out | exact HX.out | exact HX.out.alloc HX.out.size _)) ?_; rintro e9 w9 ⟨rfl, hb9, hc9⟩; have pX := KX.out.below hb9; have qX0 := pX.c 0 _ rfl; have qX1 := pX.c 1 _ rfl; clear pX; (first | (with_reducible have KV := Lib.hid (kv_drew (vs := #[.int .i64 0, .int .u64 0]) (t := 79) hc9); have pV := KV.out.2; have v0 := pV.c 0 _ rfl; have vf0 := pV.f 0 _ rfl; have v1 := pV.c 1 _ rfl; have vf1 := pV.f 1 _ rfl; have v9 := pV.lt; clear pV) | (with_reducible have KV := Lib.hid (kv_new (vs := #[.int .i64 0, .int .u64 0]) (t := 79) HX.out hc9); have pV := KV.out.2; have v0 := pV.c 0 _ rfl; have vf0 := pV.f 0 _ rfl; have v1 := pV.c 1 _ rfl; have vf1 := pV.f 1 _ rfl; have v9 := pV.lt; clear pV) | (with_reducible have KV := Lib.hid (kv_old KV.out hc9); have pV := KV.out.2; have v0 := pV.c 0 _ rfl; have vf0 := pV.f 0 _ rfl; have v1 := pV.c 1 _ rfl; have vf1 := pV.f 1 _ rfl; have v9 := pV.lt; clear pV) | skip); have HX := Lib.hid hb9; clear hb9 hc9))
      all_goals
        first
          | (have FN := kv_set2n (.int .i64 (hiW v)) (.int .u64 (loW v)) KV.out HX.out; have FB := Lib.hid FN.1; have KN := Lib.hid FN.2.1; have n0N := FN.2.2; clear FN; generalize World.setCell (World.setCell _ _ (.int .i64 (hiW v))) _ (.int .u64 (loW v)) = w1 at *)
          | (have FN := kv_putn (vs := #[.int .i64 (hiW v), .int .u64 (loW v)]) (t := 79) HX.out; have FB := Lib.hid FN.1; have KN := Lib.hid FN.2.1; have n0N := FN.2.2; clear FN; generalize (World.alloc _ (.cells #[.int .i64 (hiW v), .int .u64 (loW v)] 79)) = w1 at *)
        have nN := Nat.le_trans HB.out.size n0N
        have neN_X := Nat.ne_of_gt (Nat.lt_of_lt_of_le KX.out.lt n0N)
        replace HB := Lib.hid (HB.out.trans (FB.out.mono HB.out.size))
        replace KX := Lib.hid (KX.out.below FB.out)
        have yN := KN.out
        have yN_0 := yN.c 0 _ rfl
        have yN_1 := yN.c 1 _ rfl
        have yN_z := yN.lt
        clear yN
        go_wp2_with fail
        refine (IN.out _).mono ?_
        rintro e2 w2 ⟨rfl, hb2⟩
        replace HB := Lib.hid (HB.out.trans (hb2.mono HB.out.size))
        replace KX := Lib.hid (KX.out.below hb2)
        replace KN := Lib.hid (KN.out.below hb2)
        clear yN_0 yN_1 yN_z
        clear hb2
        go_wp2
        all_goals go_ret2
        all_goals exact ⟨rfl, HB.out⟩
    · rw [if_neg k, decide_eq_false k] at IN
      clear h IB k
      have KX := Lib.hid (Blk.of (vs := #[.int .i64 (hiW x), .int .u64 (loW x)]) (t := 79) (w := w) (b := w.heap.size) (by simp))
      have HB := Lib.hid ((Below.refl w.heap.size w).alloc (by simp; try omega) (.cells #[.int .i64 (hiW x), .int .u64 (loW x)] 79))
      go_enter Tryz.func92, Tryz.ntmps92
      go_wp2_with fail
      generalize w.alloc (.cells #[.int .i64 (hiW x), .int .u64 (loW x)] 79) = w0 at *
      have BD := Lib.hid (show Below w0.heap.size w0 w0.drew from ⟨rfl, rfl, rfl, Nat.le_refl _, fun _ _ => rfl⟩)
      have BD2 := Lib.hid (below_drew_alloc w0 (.cells #[.int .i64 0, .int .u64 0] 79))
      have DOF := Lib.hid fun W (h : Below w0.heap.size w0 W) => (OF.out W).mono fun e w' ⟨h1, h2⟩ => show _ ∧ Below w0.heap.size w0 w' ∧ Below W.heap.size W w' from ⟨h1, h.trans (h2.mono h.size), h2⟩
      have DDV := Lib.hid fun W (h : Below w0.heap.size w0 W) => (DV.out W).mono fun e w' ⟨h1, h2⟩ => show _ ∧ Below w0.heap.size w0 w' ∧ Below W.heap.size W w' from ⟨h1, h.trans (h2.mono h.size), h2⟩
      have yX := KX.out
      have yX_0 := yX.c 0 _ rfl
      have yX_1 := yX.c 1 _ rfl
      have yX_z := yX.lt
      clear yX
      go_region_held3 (fun w' => w'.cell? ⟨w.heap.size, 0, none⟩ = some (.int .i64 (hiW x)) ∧ w'.cell? ⟨w.heap.size, 1, none⟩ = some (.int .u64 (loW x))) (first | (refine ⟨?_, ?_⟩ <;> first | assumption | (rw [far2 KV.out.1 yX_z]; assumption)) | go_keep)
        (first
          | (go_at_call 84; with_reducible refine Calls.mono (DOF.out _ (by first | exact BD.out | exact BD2.out | exact HX.out | exact HX.out.alloc HX.out.size _)) ?_; rintro e9 w9 ⟨rfl, hb9, hc9⟩; have pX := KX.out.below hb9; have qX0 := pX.c 0 _ rfl; have qX1 := pX.c 1 _ rfl; clear pX; (first | (with_reducible have KV := Lib.hid (kv_drew (vs := #[.int .i64 0, .int .u64 0]) (t := 79) hc9); have pV := KV.out.2; have v0 := pV.c 0 _ rfl; have vf0 := pV.f 0 _ rfl; have v1 := pV.c 1 _ rfl; have vf1 := pV.f 1 _ rfl; have v9 := pV.lt; clear pV) | (with_reducible have KV := Lib.hid (kv_new (vs := #[.int .i64 0, .int .u64 0]) (t := 79) HX.out hc9); have pV := KV.out.2; have v0 := pV.c 0 _ rfl; have vf0 := pV.f 0 _ rfl; have v1 := pV.c 1 _ rfl; have vf1 := pV.f 1 _ rfl; have v9 := pV.lt; clear pV) | (with_reducible have KV := Lib.hid (kv_old KV.out hc9); have pV := KV.out.2; have v0 := pV.c 0 _ rfl; have vf0 := pV.f 0 _ rfl; have v1 := pV.c 1 _ rfl; have vf1 := pV.f 1 _ rfl; have v9 := pV.lt; clear pV) | skip); have HX := Lib.hid hb9; clear hb9 hc9)
          | (go_at_call 117; with_reducible refine Calls.mono (DDV.out _ (by first | exact BD.out | exact BD2.out | exact HX.out | exact HX.out.alloc HX.out.size _)) ?_; rintro e9 w9 ⟨rfl, hb9, hc9⟩; have pX := KX.out.below hb9; have qX0 := pX.c 0 _ rfl; have qX1 := pX.c 1 _ rfl; clear pX; (first | (with_reducible have KV := Lib.hid (kv_drew (vs := #[.int .i64 0, .int .u64 0]) (t := 79) hc9); have pV := KV.out.2; have v0 := pV.c 0 _ rfl; have vf0 := pV.f 0 _ rfl; have v1 := pV.c 1 _ rfl; have vf1 := pV.f 1 _ rfl; have v9 := pV.lt; clear pV) | (with_reducible have KV := Lib.hid (kv_new (vs := #[.int .i64 0, .int .u64 0]) (t := 79) HX.out hc9); have pV := KV.out.2; have v0 := pV.c 0 _ rfl; have vf0 := pV.f 0 _ rfl; have v1 := pV.c 1 _ rfl; have vf1 := pV.f 1 _ rfl; have v9 := pV.lt; clear pV) | (with_reducible have KV := Lib.hid (kv_old KV.out hc9); have pV := KV.out.2; have v0 := pV.c 0 _ rfl; have vf0 := pV.f 0 _ rfl; have v1 := pV.c 1 _ rfl; have vf1 := pV.f 1 _ rfl; have v9 := pV.lt; clear pV) | skip); have HX := Lib.hid hb9; clear hb9 hc9))
      all_goals
        first
          | (have FN := kv_set2n (.int .i64 (hiW v)) (.int .u64 (loW v)) KV.out HX.out; have FB := Lib.hid FN.1; have KN := Lib.hid FN.2.1; have n0N := FN.2.2; clear FN; generalize World.setCell (World.setCell _ _ (.int .i64 (hiW v))) _ (.int .u64 (loW v)) = w1 at *)
          | (have FN := kv_putn (vs := #[.int .i64 (hiW v), .int .u64 (loW v)]) (t := 79) HX.out; have FB := Lib.hid FN.1; have KN := Lib.hid FN.2.1; have n0N := FN.2.2; clear FN; generalize (World.alloc _ (.cells #[.int .i64 (hiW v), .int .u64 (loW v)] 79)) = w1 at *)
        have nN := Nat.le_trans HB.out.size n0N
        have neN_X := Nat.ne_of_gt (Nat.lt_of_lt_of_le KX.out.lt n0N)
        replace HB := Lib.hid (HB.out.trans (FB.out.mono HB.out.size))
        replace KX := Lib.hid (KX.out.below FB.out)
        have yN := KN.out
        have yN_0 := yN.c 0 _ rfl
        have yN_1 := yN.c 1 _ rfl
        have yN_z := yN.lt
        clear yN
        go_wp2_with fail
        refine (IN.out _).mono ?_
        rintro e2 w2 ⟨rfl, hb2⟩
        replace HB := Lib.hid (HB.out.trans (hb2.mono HB.out.size))
        replace KX := Lib.hid (KX.out.below hb2)
        replace KN := Lib.hid (KN.out.below hb2)
        clear yN_0 yN_1 yN_z
        clear hb2
        go_wp2
        all_goals go_ret2
        all_goals exact ⟨rfl, HB.out⟩
set_option maxHeartbeats 8000000 in
set_option maxRecDepth 100000 in
theorem apart_any (p x d : Int) (w : World) (hp : I64 p) (hd : I64 d) (hx : FitW x) (h1 : FitW (p * d - x)) (h2 : FitW (-(p * d - x))) :
    Calls Tryz.prog 62 #[.int .i64 p, wv x, .int .i64 d] w fun e w' => e = .returned (wv (absZ (p * d - x))) ∧ Below w.heap.size w w' := by
  have MU := Lib.hid fun w => wmul_any p d w hp.lo hp.hi hd.lo hd.hi
  have SB := Lib.hid fun w => wsub_any (p * d) x w (mul_fit hp.lo hp.hi hd.lo hd.hi) hx h1
  have AB := Lib.hid fun w => wwabs_any (p * d - x) w h1 h2
  unfold wv1 at AB
  clear hp hd hx h1 h2
  generalize absZ (p * d - x) = r at *
  generalize p * d - x = v at *
  generalize p * d = q at *
  unfold wv at *
  have KX := Lib.hid ((Blk.of (vs := #[.int .i64 (hiW x), .int .u64 (loW x)]) (t := 79) (w := w) (b := w.heap.size) (by simp)).alloc (.cells #[.int .i64 0, .int .u64 0] 79))
  have KZ := Lib.hid (Blk.of (vs := #[.int .i64 0, .int .u64 0]) (t := 79) (w := (w.alloc (.cells #[.int .i64 (hiW x), .int .u64 (loW x)] 79))) (b := w.heap.size + 1) (by simp))
  have HB := Lib.hid (((Below.refl w.heap.size w).alloc (by simp; try omega) (.cells #[.int .i64 (hiW x), .int .u64 (loW x)] 79)).alloc (by simp; try omega) (.cells #[.int .i64 0, .int .u64 0] 79))
  go_enter Tryz.func62, Tryz.ntmps62
  go_wp2_with fail
  generalize (w.alloc (.cells #[.int .i64 (hiW x), .int .u64 (loW x)] 79)).alloc (.cells #[.int .i64 0, .int .u64 0] 79) = w0 at *
  have BD := Lib.hid (show Below w0.heap.size w0 w0.drew from ⟨rfl, rfl, rfl, Nat.le_refl _, fun _ _ => rfl⟩)
  have BD2 := Lib.hid (below_drew_alloc w0 (.cells #[.int .i64 0, .int .u64 0] 79))
  have DMU := Lib.hid fun W (h : Below w0.heap.size w0 W) => (MU.out W).mono fun e w' ⟨h1, h2⟩ => show _ ∧ Below w0.heap.size w0 w' ∧ Below W.heap.size W w' from ⟨h1, h.trans (h2.mono h.size), h2⟩
  have DSB := Lib.hid fun W (h : Below w0.heap.size w0 W) => (SB.out W).mono fun e w' ⟨h1, h2⟩ => show _ ∧ Below w0.heap.size w0 w' ∧ Below W.heap.size W w' from ⟨h1, h.trans (h2.mono h.size), h2⟩
  have yX := KX.out
  have yX_0 := yX.c 0 _ rfl
  have yX_1 := yX.c 1 _ rfl
  have yX_z := yX.lt
  clear yX
  go_region_held3 (fun w' => w'.cell? ⟨w.heap.size, 0, none⟩ = some (.int .i64 (hiW x)) ∧ w'.cell? ⟨w.heap.size, 1, none⟩ = some (.int .u64 (loW x))) (first | (refine ⟨?_, ?_⟩ <;> first | assumption | (rw [far2 KV.out.1 yX_z]; assumption)) | go_keep)
    (first
      | (go_at_call 60; with_reducible refine Calls.mono (DMU.out _ (by first | exact BD.out | exact BD2.out | exact HX.out | exact HX.out.alloc HX.out.size _)) ?_; rintro e9 w9 ⟨rfl, hb9, hc9⟩; have pX := KX.out.below hb9; have qX0 := pX.c 0 _ rfl; have qX1 := pX.c 1 _ rfl; clear pX; (first | (with_reducible have KV := Lib.hid (kv_drew (vs := #[.int .i64 0, .int .u64 0]) (t := 79) hc9); have pV := KV.out.2; have v0 := pV.c 0 _ rfl; have vf0 := pV.f 0 _ rfl; have v1 := pV.c 1 _ rfl; have vf1 := pV.f 1 _ rfl; have v9 := pV.lt; clear pV) | (with_reducible have KV := Lib.hid (kv_new (vs := #[.int .i64 0, .int .u64 0]) (t := 79) HX.out hc9); have pV := KV.out.2; have v0 := pV.c 0 _ rfl; have vf0 := pV.f 0 _ rfl; have v1 := pV.c 1 _ rfl; have vf1 := pV.f 1 _ rfl; have v9 := pV.lt; clear pV) | (with_reducible have KV := Lib.hid (kv_old KV.out hc9); have pV := KV.out.2; have v0 := pV.c 0 _ rfl; have vf0 := pV.f 0 _ rfl; have v1 := pV.c 1 _ rfl; have vf1 := pV.f 1 _ rfl; have v9 := pV.lt; clear pV) | skip); have HX := Lib.hid hb9; clear hb9 hc9)
      | (go_at_call 82; with_reducible refine Calls.mono (DSB.out _ (by first | exact BD.out | exact BD2.out | exact HX.out | exact HX.out.alloc HX.out.size _)) ?_; rintro e9 w9 ⟨rfl, hb9, hc9⟩; have pX := KX.out.below hb9; have qX0 := pX.c 0 _ rfl; have qX1 := pX.c 1 _ rfl; clear pX; (first | (with_reducible have KV := Lib.hid (kv_drew (vs := #[.int .i64 0, .int .u64 0]) (t := 79) hc9); have pV := KV.out.2; have v0 := pV.c 0 _ rfl; have vf0 := pV.f 0 _ rfl; have v1 := pV.c 1 _ rfl; have vf1 := pV.f 1 _ rfl; have v9 := pV.lt; clear pV) | (with_reducible have KV := Lib.hid (kv_new (vs := #[.int .i64 0, .int .u64 0]) (t := 79) HX.out hc9); have pV := KV.out.2; have v0 := pV.c 0 _ rfl; have vf0 := pV.f 0 _ rfl; have v1 := pV.c 1 _ rfl; have vf1 := pV.f 1 _ rfl; have v9 := pV.lt; clear pV) | (with_reducible have KV := Lib.hid (kv_old KV.out hc9); have pV := KV.out.2; have v0 := pV.c 0 _ rfl; have vf0 := pV.f 0 _ rfl; have v1 := pV.c 1 _ rfl; have vf1 := pV.f 1 _ rfl; have v9 := pV.lt; clear pV) | skip); have HX := Lib.hid hb9; clear hb9 hc9))
  all_goals
    first
      | (have FN := kv_set2n (.int .i64 (hiW v)) (.int .u64 (loW v)) KV.out HX.out; have FB := Lib.hid FN.1; have KN := Lib.hid FN.2.1; have n0N := FN.2.2; clear FN; generalize World.setCell (World.setCell _ _ (.int .i64 (hiW v))) _ (.int .u64 (loW v)) = w1 at *)
      | (have FN := kv_putn (vs := #[.int .i64 (hiW v), .int .u64 (loW v)]) (t := 79) HX.out; have FB := Lib.hid FN.1; have KN := Lib.hid FN.2.1; have n0N := FN.2.2; clear FN; generalize (World.alloc _ (.cells #[.int .i64 (hiW v), .int .u64 (loW v)] 79)) = w1 at *)
    have nN := Nat.le_trans HB.out.size n0N
    have neN_X := Nat.ne_of_gt (Nat.lt_of_lt_of_le KX.out.lt n0N)
    have neN_Z := Nat.ne_of_gt (Nat.lt_of_lt_of_le KZ.out.lt n0N)
    replace HB := Lib.hid (HB.out.trans (FB.out.mono HB.out.size))
    replace KX := Lib.hid (KX.out.below FB.out)
    replace KZ := Lib.hid (KZ.out.below FB.out)
    have yN := KN.out
    have yN_0 := yN.c 0 _ rfl
    have yN_1 := yN.c 1 _ rfl
    have yN_z := yN.lt
    clear yN
    go_wp2_with fail
    refine (AB.out _).mono ?_
    rintro e2 w2 ⟨rfl, hb2⟩
    replace HB := Lib.hid (HB.out.trans (hb2.mono HB.out.size))
    replace KX := Lib.hid (KX.out.below hb2)
    replace KZ := Lib.hid (KZ.out.below hb2)
    replace KN := Lib.hid (KN.out.below hb2)
    clear yN_0 yN_1 yN_z
    clear hb2
    have yZ := KZ.out
    have yZ_0 := yZ.c 0 _ rfl
    have yZ_1 := yZ.c 1 _ rfl
    have yZ_z := yZ.lt
    have yZ_f0 := yZ.f 0 _ rfl
    have yZ_f1 := yZ.f 1 _ rfl
    clear yZ
    have yN := KN.out
    have yN_0 := yN.c 0 _ rfl
    have yN_1 := yN.c 1 _ rfl
    have yN_z := yN.lt
    have yN_f0 := yN.f 0 _ rfl
    have yN_f1 := yN.f 1 _ rfl
    clear yN
    go_wp2
    replace KX := Lib.hid (blk_other (j := 1) (blk_other (j := 0) KX.out neN_X (.int .i64 (hiW r))) neN_X (.int .u64 (loW r)))
    replace KZ := Lib.hid (blk_other (j := 1) (blk_other (j := 0) KZ.out neN_Z (.int .i64 (hiW r))) neN_Z (.int .u64 (loW r)))
    replace KN := Lib.hid (blk_set (blk_set KN.out (j := 0) (by simp) (.int .i64 (hiW r))) (j := 1) (by simp) (.int .u64 (loW r)))
    replace HB := Lib.hid ((HB.out.setCell (p := ⟨_, 0, none⟩) nN (.int .i64 (hiW r))).setCell (p := ⟨_, 1, none⟩) nN (.int .u64 (loW r)))
    clear yZ_0 yZ_1 yZ_z yZ_f0 yZ_f1 yN_0 yN_1 yN_z yN_f0 yN_f1
    generalize World.setCell (World.setCell _ _ (.int .i64 (hiW r))) _ (.int .u64 (loW r)) = w3 at *
    simp only [List.set] at KN
    replace KX := Lib.hid (blk_other (b := w.heap.size) (n := (w.heap.size + 1)) (j := 1) (blk_other (b := w.heap.size) (n := (w.heap.size + 1)) (j := 0) KX.out (by omega) (.int .i64 (hiW r))) (by omega) (.int .u64 (loW r)))
    replace KZ := Lib.hid (blk_set (blk_set KZ.out (j := 0) (by simp) (.int .i64 (hiW r))) (j := 1) (by simp) (.int .u64 (loW r)))
    replace KN := Lib.hid (blk_other (j := 1) (blk_other (j := 0) KN.out (Ne.symm neN_Z) (.int .i64 (hiW r))) (Ne.symm neN_Z) (.int .u64 (loW r)))
    replace HB := Lib.hid ((HB.out.setCell (p := ⟨(w.heap.size + 1), 0, none⟩) (show w.heap.size ≤ (w.heap.size + 1) by omega) (.int .i64 (hiW r))).setCell (p := ⟨(w.heap.size + 1), 1, none⟩) (show w.heap.size ≤ (w.heap.size + 1) by omega) (.int .u64 (loW r)))
    generalize (w3.setCell ⟨(w.heap.size + 1), 0, none⟩ (.int .i64 (hiW r))).setCell ⟨(w.heap.size + 1), 1, none⟩ (.int .u64 (loW r)) = w4 at *
    simp only [List.set] at KZ
    have yZ := KZ.out
    have yZ_0 := yZ.c 0 _ rfl
    have yZ_1 := yZ.c 1 _ rfl
    have yZ_z := yZ.lt
    clear yZ
    refine bodyPost_ret (v := .agg #[.int .i64 (hiW r), .int .u64 (loW r)]) (by simp [results, Tryz.results62, go_sem, yZ_0, yZ_1]) rfl ⟨rfl, HB.out⟩
end Go.Proofs.YtidelghgjibndaaGreat
namespace Go.Proofs.YtidelghgjibndaaGreat
set_option linter.unusedVariables false
open Go.RowKit
def absI (x : Int) : Int := if x < 0 then -x else x
theorem abs_any (x : Int) (w : World) (_h0 : -9223372036854775807 ≤ x) (_h1 : x ≤ 9223372036854775807) :
    Calls Tryz.prog 43 #[.int .i64 x] w fun e w' => e = .returned (.int .i64 (absI x)) ∧ w = w' := by
  have h2 : (x == -9223372036854775808) = false := by simp; omega
  go_enter Tryz.func43, Tryz.ntmps43
  go_wp2
  all_goals go_ret
  · exact ⟨ret_int (by unfold absI; rw [if_pos (by assumption)]), rfl⟩
  · exact ⟨ret_int (by unfold absI; rw [if_neg (by omega)]), rfl⟩
def vldP (x y : Int) : Bool := decide (-2000000 ≤ x ∧ x ≤ 2000000 ∧ -2000000 ≤ y ∧ y ≤ 2000000)
theorem vldP_iff {x y : Int} : vldP x y = true ↔ -2000000 ≤ x ∧ x ≤ 2000000 ∧ -2000000 ≤ y ∧ y ≤ 2000000 := by unfold vldP; rw [decide_eq_true_iff]
set_option maxHeartbeats 4000000 in
theorem vldP_any (x y : Int) (w : World) : Calls Tryz.prog 22 #[.agg #[.int .i64 x, .int .i64 y]] w fun e w' => e = .returned (.bool (vldP x y)) ∧ Below w.heap.size w w' := by
  have key : (decide (-2000000 ≤ x) = false ∧ vldP x y = false) ∨ (decide (-2000000 ≤ x) = true ∧ decide (x ≤ 2000000) = false ∧ vldP x y = false) ∨ (decide (-2000000 ≤ x) = true ∧ decide (x ≤ 2000000) = true ∧ decide (-2000000 ≤ y) = false ∧ vldP x y = false) ∨ (decide (-2000000 ≤ x) = true ∧ decide (x ≤ 2000000) = true ∧ decide (-2000000 ≤ y) = true ∧ decide (y ≤ 2000000) = false ∧ vldP x y = false) ∨ (decide (-2000000 ≤ x) = true ∧ decide (x ≤ 2000000) = true ∧ decide (-2000000 ≤ y) = true ∧ decide (y ≤ 2000000) = true ∧ vldP x y = true) := by
    unfold vldP
    simp only [decide_eq_true_eq, decide_eq_false_iff_not]
    omega
  rcases key with ⟨g0, E⟩ | ⟨g0, g1, E⟩ | ⟨g0, g1, g2, E⟩ | ⟨g0, g1, g2, g3, E⟩ | ⟨g0, g1, g2, g3, E⟩
  all_goals
    rw [E]
    clear E
    go_enter Tryz.func22, Tryz.ntmps22
    go_wp2
    go_ret
    exact ⟨rfl, (Below.refl _ _).alloc (Nat.le_refl _) _⟩
theorem regrown_drewN {B : Nat} {w w' : World} {P : Program} {f : FuncId} {args : Array Value} {v : Value} (h : Calls P f args w fun e w' => e = .returned v ∧ w = w') : Calls P f args w fun e w' => e = .returned v ∧ Below w.heap.size w w' :=
  h.mono fun e w' ⟨h1, h2⟩ => ⟨h1, by rw [← h2]; exact Below.refl _ _⟩
theorem lst_form {l : List Ms} {v : Value} {w : World} (h : LstAt l v w) : ∃ p cap, v = .slice p l.length cap := by
  rcases h with ⟨rfl, rfl⟩ | ⟨b, o, cap, rfl, _⟩
  · exact ⟨none, 0, rfl⟩
  · exact ⟨_, _, rfl⟩
theorem lst_at {l : List Ms} {p : Option Addr} {cap : Nat} {w : World} (h : LstAt l (.slice p l.length cap) w) {k : Nat} (q : k < l.length) : ∃ b o, p = some ⟨b, o, none⟩ ∧ l.length ≤ cap ∧ cap ≤ 9223372036854775807 ∧ MsAt l b o w := by
  rcases h with ⟨_, rfl⟩ | ⟨b, o, cap', e, h2, h3, h4⟩
  · exact absurd q (by simp)
  · injection e with e1 e2 e3
    subst e3
    exact ⟨b, o, e1, h2, h3, h4⟩
theorem ex_blk {vs : List Value} {b : Nat} {W : World} (_ : Hid (Blk vs b W)) : ∃ b', b' = b := ⟨b, rfl⟩
end Go.Proofs.YtidelghgjibndaaGreat
namespace Go.Proofs.YtidelghgjibndaaGreat
set_option linter.unusedVariables false
open Go.RowKit
theorem vld_pv (x y : Int) : vldP x y = S41.pvB x y := by
  rw [Bool.eq_iff_iff, vldP_iff, S41.pvB_iff]
noncomputable def slwB (P : List Pt) (sp : Int) : Bool := @decide (SlowP P sp) (Classical.propDecidable _)
theorem slw_iff {P : List Pt} {sp : Int} : slwB P sp = true ↔ SlowP P sp := by unfold slwB; exact @decide_eq_true_iff (SlowP P sp) (Classical.propDecidable _)
theorem slw_true {P : List Pt} {sp : Int} (h : SlowP P sp) : slwB P sp = true := slw_iff.2 h
theorem slw_no {P : List Pt} {sp : Int} (h : ¬ SlowP P sp) : slwB P sp = false := by rw [← Bool.not_eq_true, slw_iff]; exact h
theorem slw_val {P : List Pt} {sp : Int} {k : Nat} (q : k < P.length) (h : S41.pvB (nthP P k).x (nthP P k).y = false) : slwB P sp = false := slw_no fun s => by rw [s.val k q] at h; cases h
theorem slw_step {P : List Pt} {sp : Int} {j : Nat} (q : j + 1 < P.length) (h : sp * sp < ((nthP P (j + 1)).x - (nthP P j).x) * ((nthP P (j + 1)).x - (nthP P j).x) + ((nthP P (j + 1)).y - (nthP P j).y) * ((nthP P (j + 1)).y - (nthP P j).y)) : slwB P sp = false := slw_no fun s => by have := s.step j q; omega
theorem slw_ne {P : List Pt} {sp : Int} (h : ¬ 0 < P.length) : slwB P sp = false := slw_no fun s => h s.ne
/-- the path's first points are as they should be -/
structure SlI (P : List Pt) (sp : Int) (k : Nat) : Prop where
  val : ∀ i, i < k → S41.pvB (nthP P i).x (nthP P i).y = true
  step : ∀ i, i + 1 < k → ((nthP P (i + 1)).x - (nthP P i).x) * ((nthP P (i + 1)).x - (nthP P i).x) + ((nthP P (i + 1)).y - (nthP P i).y) * ((nthP P (i + 1)).y - (nthP P i).y) ≤ sp * sp
theorem sl_zero (P : List Pt) (sp : Int) : SlI P sp 0 := ⟨fun i hi => absurd hi (by omega), fun i hi => absurd hi (by omega)⟩
theorem sl_one {P : List Pt} {sp : Int} (hv : S41.pvB (nthP P 0).x (nthP P 0).y = true) : SlI P sp 1 := ⟨fun i hi => by rw [show i = 0 by omega]; exact hv, fun i hi => absurd hi (by omega)⟩
theorem sl_succ {P : List Pt} {sp : Int} {j : Nat} (h : SlI P sp (j + 1)) (hv : S41.pvB (nthP P (j + 1)).x (nthP P (j + 1)).y = true) (hs : ((nthP P (j + 1)).x - (nthP P j).x) * ((nthP P (j + 1)).x - (nthP P j).x) + ((nthP P (j + 1)).y - (nthP P j).y) * ((nthP P (j + 1)).y - (nthP P j).y) ≤ sp * sp) : SlI P sp (j + 1 + 1) := by
  refine ⟨fun i hi => ?_, fun i hi => ?_⟩
  · by_cases e : i = j + 1
    · rw [e]; exact hv
    · exact h.val i (by omega)
  · by_cases e : i = j
    · rw [e]; exact hs
    · exact h.step i (by omega)
theorem sl_end {P : List Pt} {sp : Int} (h : SlI P sp P.length) (hn : 0 < P.length) : SlowP P sp := ⟨hn, h.val, h.step⟩
theorem sq_bd {d B : Int} (h0 : -B ≤ d) (h1 : d ≤ B) (hB : 0 ≤ B) : 0 ≤ d * d ∧ d * d ≤ B * B := by
  refine ⟨by rcases Int.le_total 0 d with k | k; exact Int.mul_nonneg k k; have := Int.mul_nonneg (show 0 ≤ -d by omega) (show 0 ≤ -d by omega); rwa [Int.neg_mul_neg] at this, ?_⟩
  have a := Int.mul_nonneg (show 0 ≤ B - d by omega) (show 0 ≤ B + d by omega)
  have e : (B - d) * (B + d) = B * B - d * d := by grind
  omega
def SlR (P : List Pt) (sp : Int) (w : World) (u : Value) (wr : World) : Prop := ∃ k : Nat, u = .int .i64 k ∧ k ≤ P.length ∧ Hid (Below w.heap.size w wr) ∧ Hid (SlI P sp k)
set_option maxHeartbeats 40000000 in
set_option maxRecDepth 100000 in
theorem slow_any (P : List Pt) (v : Value) (sp : Int) (w : World) (h : PlAt P v w) (hs0 : 0 ≤ sp) (hs1 : sp ≤ 1000) :
    Calls Tryz.prog 9 #[v, .int .i64 sp] w fun e w' => e = .returned (.bool (slwB P sp)) ∧ Below w.heap.size w w' := by
  obtain ⟨p, cap, rfl⟩ := pl_form h
  have H0 := Lib.hid h
  have HB := Lib.hid (Below.refl w.heap.size w)
  go_enter Tryz.func9, Tryz.ntmps9
  clear h
  go_wp2
  go_loopw [11] (SlR P sp w) (fun i _ => P.length - (intOf i).toNat)
  case atStart => exact ⟨0, rfl, Nat.zero_le _, Lib.hid (Below.refl _ _), Lib.hid (sl_zero P sp)⟩
  case round =>
    clear HB
    obtain ⟨k, rfl, hk, HB, HS⟩ := hrel
    by_cases q : k < P.length
    · have q' : decide (k < P.length) = true := by simpa using q
      obtain ⟨b, o, rfl, hcap, hmax, RA⟩ := pl_at (H0.out.below HB.out) q
      have HR := Lib.hid RA
      have c0 := RA.c0 k q
      have c1 := RA.c1 k q
      have clt := RA.lt
      clear RA
      obtain ⟨dd, hdd⟩ : ∃ z, nthP P k = z := ⟨_, rfl⟩
      rw [hdd] at c0 c1
      have HD := Lib.hid hdd
      clear hdd
      obtain ⟨dx, dy⟩ := dd
      simp only at c0 c1
      have VP := Lib.hid fun w => vldP_any dx dy w
      go_wp2_with fail
      have KD := Lib.hid (Blk.of (vs := #[.int .i64 dx, .int .i64 dy]) (t := 24) (w := wr) (b := wr.heap.size) rfl)
      have hb11 : Below wr.heap.size wr (wr.alloc (.cells #[.int .i64 dx, .int .i64 dy] 24)) := (Below.refl _ _).alloc (Nat.le_refl _) _
      have hnD := HB.out.size
      replace HB := Lib.hid (HB.out.trans (hb11.mono HB.out.size))
      replace HR := Lib.hid (HR.out.below hb11)
      clear hb11
      generalize wr.alloc (.cells #[.int .i64 dx, .int .i64 dy] 24) = w11 at *
      generalize wr.heap.size = bD at *
      clear c0 c1 clt
      refine (VP.out _).mono ?_
      rintro e12 w12 ⟨rfl, hb12⟩
      replace HB := Lib.hid (HB.out.trans (hb12.mono HB.out.size))
      replace KD := Lib.hid (KD.out.below hb12)
      replace HR := Lib.hid (HR.out.below hb12)
      clear hb12
      cases hv : vldP dx dy with
      | false =>
        have NV := Lib.hid (slw_val (sp := sp) q (by rw [HD.out, ← vld_pv]; exact hv))
        clear hv
        go_wp2
        go_ret
        exact ⟨by rw [NV.out]; rfl, HB.out⟩
      | true =>
        have PV := Lib.hid (show S41.pvB dx dy = true by rw [← vld_pv]; exact hv)
        clear hv VP
        cases k with
        | zero =>
          go_wp2
          exact ⟨⟨1, by go_num, by omega, HB, Lib.hid (sl_one (by rw [HD.out]; exact PV.out))⟩, by simp [intOf]; omega⟩
        | succ j =>
          have d0 := HR.out.c0 j (by omega)
          have d1 := HR.out.c1 j (by omega)
          have PJ := Lib.hid (HS.out.val j (by omega))
          have SN := Lib.hid fun hs => sl_succ HS.out (by rw [HD.out]; exact PV.out) hs
          rw [HD.out] at SN
          have NS := Lib.hid fun hs => slw_step (P := P) (sp := sp) (j := j) q hs
          rw [HD.out] at NS
          generalize nthP P j = ee at *
          obtain ⟨ex, ey⟩ := ee
          simp only at d0 d1 PJ SN NS
          have pv := S41.pvB_iff.1 PV.out
          have pj := S41.pvB_iff.1 PJ.out
          have s0 : IntKind.i64.wrap (dx - ex) = dx - ex := IntWalk.i64_in _ (by omega)
          have s1 : IntKind.i64.wrap (dy - ey) = dy - ey := IntWalk.i64_in _ (by omega)
          have b0 := sq_bd (d := dx - ex) (B := 4000000) (by omega) (by omega) (by omega)
          have b1 := sq_bd (d := dy - ey) (B := 4000000) (by omega) (by omega) (by omega)
          have b2 := sq_bd (d := sp) (B := 1000) (by omega) (by omega) (by omega)
          have s2 : IntKind.i64.wrap ((dx - ex) * (dx - ex)) = (dx - ex) * (dx - ex) := IntWalk.i64_in _ (by omega)
          have s3 : IntKind.i64.wrap ((dy - ey) * (dy - ey)) = (dy - ey) * (dy - ey) := IntWalk.i64_in _ (by omega)
          have s4 : IntKind.i64.wrap ((dx - ex) * (dx - ex) + (dy - ey) * (dy - ey)) = (dx - ex) * (dx - ex) + (dy - ey) * (dy - ey) := IntWalk.i64_in _ (by omega)
          have s5 : IntKind.i64.wrap (sp * sp) = sp * sp := IntWalk.i64_in _ (by omega)
          have q2 : decide (j < P.length) = true := by simp; omega
          have q3 : j < P.length := by omega
          have sj : IntKind.i64.wrap (j : Int) = j := IntWalk.i64_in _ (by omega)
          clear pv pj b0 b1 b2 PV PJ
          have yD := KD.out
          have yD_0 := yD.c 0 _ rfl
          have yD_1 := yD.c 1 _ rfl
          have yD_z := yD.lt
          clear yD
          go_wp2_with fail
          have gd0 := fun d os => cell_regrown d0 d os
          have gd1 := fun d os => cell_regrown d1 d os
          have gD_0 := fun d os => cell_regrown (KD.out.c 0 _ rfl) d os
          have gD_1 := fun d os => cell_regrown (KD.out.c 1 _ rfl) d os
          clear yD_0 yD_1 yD_z
          refine wp_region_quiet_below (by kernel_rfl) (by kernel_rfl) ?_
          repeat (quiet_step (fail))
          refine wpQuiet_nil ?_
          intro w30 hw30
          have hb30 : Below w12.heap.size w12 w30 := by
            obtain ⟨⟨dq, osq⟩, hw2⟩ := hw30
            rw [hw2]; exact below_regrown _ dq osq
          clear gd0 gd1 gD_0 gD_1 hw30 d0 d1
          replace HB := Lib.hid (HB.out.trans (hb30.mono HB.out.size))
          replace KD := Lib.hid (KD.out.below hb30)
          replace HR := Lib.hid (HR.out.below hb30)
          clear hb30
          by_cases hs : sp * sp < (dx - ex) * (dx - ex) + (dy - ey) * (dy - ey)
          · have g : decide (sp * sp < (dx - ex) * (dx - ex) + (dy - ey) * (dy - ey)) = true := by simpa using hs
            have NV := Lib.hid (NS.out hs)
            clear hs SN NS
            go_wp2
            go_ret
            exact ⟨by rw [NV.out]; rfl, HB.out⟩
          · have g : decide (sp * sp < (dx - ex) * (dx - ex) + (dy - ey) * (dy - ey)) = false := by simpa using hs
            have SN2 := Lib.hid (SN.out (by omega))
            clear hs SN NS
            go_wp2
            exact ⟨⟨j + 1 + 1, by go_num, by omega, HB, SN2⟩, by simp [intOf]; omega⟩
    · obtain rfl : k = P.length := by omega
      have q' : decide (P.length < P.length) = false := by simp
      by_cases hn : 0 < P.length
      · have g : decide (0 < P.length) = true := by simpa using hn
        have SE := Lib.hid (sl_end HS.out hn)
        clear hn
        go_wp2
        go_ret
        exact ⟨by rw [slw_true SE.out]; rfl, HB.out⟩
      · have g : decide (0 < P.length) = false := by simpa using hn
        have NV := Lib.hid (slw_ne (sp := sp) hn)
        clear hn
        go_wp2
        go_ret
        exact ⟨by rw [NV.out]; rfl, HB.out⟩
end Go.Proofs.YtidelghgjibndaaGreat
namespace Go.Proofs.YtidelghgjibndaaGreat
set_option linter.unusedVariables false
open Go.RowKit
theorem agN_any (r : Rp) (px py : Int) (w : World) (k0 : 0 ≤ r.k) (k1 : r.k ≤ 255) : Calls Tryz.prog 23 #[.agg #[.int .i64 r.s, .int .u8 r.k, .int .i64 r.x, .int .i64 r.y, .int .i64 r.v, .int .i64 r.b, .int .i64 r.wt, .int .i64 r.t], .agg #[.int .i64 px, .int .i64 py]] w fun e w' => e = .returned (.bool (agN r px py)) ∧ Below w.heap.size w w' := S41.agrees_any r.s r.k r.x r.y r.v r.b r.wt r.t px py w k0 k1
theorem inN_any (cx cy bx b2 px py : Int) (w : World) : Calls Tryz.prog 10 #[.agg #[.int .i64 cx, .int .i64 cy, .int .i64 bx, .int .i64 b2], .agg #[.int .i64 px, .int .i64 py]] w fun e w' => e = .returned (.bool (inN cx cy bx b2 px py)) ∧ Below w.heap.size w w' := S41.inside_any cx cy bx b2 px py w
end Go.Proofs.YtidelghgjibndaaGreat
namespace Go.Proofs.YtidelghgjibndaaGreat
set_option linter.unusedVariables false
open Go.RowKit
/-- one measurement more: the sums without an overflow -/
structure NStep (l : List Ms) (k : Nat) (m : Ms) : Prop where
  wa : IntKind.i64.wrap (m.w * m.a) = m.w * m.a
  wb : IntKind.i64.wrap (m.w * m.b) = m.w * m.b
  waa : IntKind.i64.wrap (m.w * m.a * m.a) = m.w * m.a * m.a
  wab : IntKind.i64.wrap (m.w * m.a * m.b) = m.w * m.a * m.b
  wbb : IntKind.i64.wrap (m.w * m.b * m.b) = m.w * m.b * m.b
  waz : IntKind.i64.wrap (m.w * m.a * m.z) = m.w * m.a * m.z
  wbz : IntKind.i64.wrap (m.w * m.b * m.z) = m.w * m.b * m.z
  xx : IntKind.i64.wrap (nXX (l.take k) + m.w * m.a * m.a) = nXX (l.take (k + 1))
  xy : IntKind.i64.wrap (nXY (l.take k) + m.w * m.a * m.b) = nXY (l.take (k + 1))
  yy : IntKind.i64.wrap (nYY (l.take k) + m.w * m.b * m.b) = nYY (l.take (k + 1))
  xz : IntKind.i64.wrap (nXZ (l.take k) + m.w * m.a * m.z) = nXZ (l.take (k + 1))
  yz : IntKind.i64.wrap (nYZ (l.take k) + m.w * m.b * m.z) = nYZ (l.take (k + 1))
theorem nstep {l : List Ms} (h : OkL l) {k : Nat} (q : k < l.length) : NStep l k (nth l k) := by
  have o := h.ok _ (nth_mem q)
  have B := nrm_bd (h.take (k + 1))
  have xx0 : nXX (l.take (k + 1)) = nXX (l.take k) + (nth l k).w * (nth l k).a * (nth l k).a := sum_take _ q
  have xy0 : nXY (l.take (k + 1)) = nXY (l.take k) + (nth l k).w * (nth l k).a * (nth l k).b := sum_take _ q
  have yy0 : nYY (l.take (k + 1)) = nYY (l.take k) + (nth l k).w * (nth l k).b * (nth l k).b := sum_take _ q
  have xz0 : nXZ (l.take (k + 1)) = nXZ (l.take k) + (nth l k).w * (nth l k).a * (nth l k).z := sum_take _ q
  have yz0 : nYZ (l.take (k + 1)) = nYZ (l.take k) + (nth l k).w * (nth l k).b * (nth l k).z := sum_take _ q
  generalize nth l k = m at *
  have p1 := mulb (X := 16) (Y := 256) (x := m.w) (y := m.a) (by omega) (by have := o.w0; omega) o.w1 o.a0 o.a1
  have p2 := mulb (X := 16) (Y := 256) (x := m.w) (y := m.b) (by omega) (by have := o.w0; omega) o.w1 o.b0 o.b1
  have t1 := term2 (A := 256) (B := 256) (by omega) o.w0 o.w1 o.a0 o.a1 o.a0 o.a1
  have t2 := term2 (A := 256) (B := 256) (by omega) o.w0 o.w1 o.a0 o.a1 o.b0 o.b1
  have t3 := term2 (A := 256) (B := 256) (by omega) o.w0 o.w1 o.b0 o.b1 o.b0 o.b1
  have t4 := term2 (A := 256) (B := 4294967296) (by omega) o.w0 o.w1 o.a0 o.a1 o.z0 o.z1
  have t5 := term2 (A := 256) (B := 4294967296) (by omega) o.w0 o.w1 o.b0 o.b1 o.z0 o.z1
  obtain ⟨⟨a0, a1⟩, ⟨b0, b1⟩, ⟨c0, c1⟩, ⟨d0, d1⟩, ⟨e0, e1⟩⟩ := B
  exact ⟨IntWalk.i64_in _ (by omega), IntWalk.i64_in _ (by omega), IntWalk.i64_in _ (by omega), IntWalk.i64_in _ (by omega), IntWalk.i64_in _ (by omega), IntWalk.i64_in _ (by omega), IntWalk.i64_in _ (by omega),
    by rw [← xx0]; exact IntWalk.i64_in _ (by omega), by rw [← xy0]; exact IntWalk.i64_in _ (by omega), by rw [← yy0]; exact IntWalk.i64_in _ (by omega), by rw [← xz0]; exact IntWalk.i64_in _ (by omega), by rw [← yz0]; exact IntWalk.i64_in _ (by omega)⟩
def NrR (l : List Ms) (p : Option Addr) (cap : Nat) (w : World) (bn : Nat) (u : Value) (wr : World) : Prop := ∃ k : Nat, u = .int .i64 k ∧ k ≤ l.length ∧ Hid (Below w.heap.size w wr) ∧ Hid (Blk [.int .i64 (nXX (l.take k)), .int .i64 (nXY (l.take k)), .int .i64 (nYY (l.take k)), .int .i64 (nXZ (l.take k)), .int .i64 (nYZ (l.take k))] bn wr) ∧ Hid (Blk [.int .i64 0, .int .i64 0, .int .i64 0, .int .i64 0, .int .i64 0] w.heap.size wr)
set_option maxHeartbeats 8000000 in
set_option maxRecDepth 100000 in
theorem normal_any (l : List Ms) (v : Value) (w : World) (h : LstAt l v w) (hc : chkL l = 0) :
    Calls Tryz.prog 53 #[v] w fun e w' => e = .returned (.tuple #[.agg #[.int .i64 (nXX l), .int .i64 (nXY l), .int .i64 (nYY l), .int .i64 (nXZ l), .int .i64 (nYZ l)], .int .i64 0]) ∧ Below w.heap.size w w' := by
  obtain ⟨p, cap, rfl⟩ := lst_form h
  have OL := Lib.hid (okL_of hc)
  have CH := Lib.hid fun w h => check_any l (.slice p l.length cap) w h
  rw [hc] at CH
  clear hc
  have H0 := Lib.hid h
  have KZ := Lib.hid (Blk.of (vs := #[.int .i64 0, .int .i64 0, .int .i64 0, .int .i64 0, .int .i64 0]) (t := 112) (w := w) (b := w.heap.size) (by simp))
  have HB := Lib.hid ((Below.refl w.heap.size w).alloc (by simp; try omega) (.cells #[.int .i64 0, .int .i64 0, .int .i64 0, .int .i64 0, .int .i64 0] 112))
  go_enter Tryz.func53, Tryz.ntmps53
  clear h
  go_wp2_with fail
  generalize w.alloc (.cells #[.int .i64 0, .int .i64 0, .int .i64 0, .int .i64 0, .int .i64 0] 112) = w0 at *
  refine (CH.out _ (H0.out.below HB.out)).mono ?_
  rintro e1 w1 ⟨rfl, hb1⟩
  replace HB := Lib.hid (HB.out.trans (hb1.mono HB.out.size))
  replace KZ := Lib.hid (KZ.out.below hb1)
  clear hb1
  go_wp2
  have KN := Lib.hid (Blk.of (vs := #[.int .i64 0, .int .i64 0, .int .i64 0, .int .i64 0, .int .i64 0]) (t := 112) (w := w1) (b := w1.heap.size) rfl)
  have hb2 : Below w1.heap.size w1 (w1.alloc (.cells #[.int .i64 0, .int .i64 0, .int .i64 0, .int .i64 0, .int .i64 0] 112)) := (Below.refl _ _).alloc (Nat.le_refl _) _
  have hnN := HB.out.size
  have nzN_Z := KZ.out.lt
  replace HB := Lib.hid (HB.out.trans (hb2.mono HB.out.size))
  replace KZ := Lib.hid (KZ.out.below hb2)
  clear hb2
  generalize w1.alloc (.cells #[.int .i64 0, .int .i64 0, .int .i64 0, .int .i64 0, .int .i64 0] 112) = w2 at *
  generalize w1.heap.size = bN at *
  have neN_Z : bN ≠ w.heap.size := by omega
  clear nzN_Z
  go_loopw [16] (NrR l p cap w bN) (fun i _ => l.length - (intOf i).toNat)
  case atStart => exact ⟨0, rfl, Nat.zero_le _, HB, KN, KZ⟩
  case round =>
    clear HB KN KZ
    obtain ⟨k, rfl, hk, HB, KN, KZ⟩ := hrel
    by_cases q : k < l.length
    · have q' : decide (k < l.length) = true := by simpa using q
      obtain ⟨b, o, rfl, hcap, hmax, MM⟩ := lst_at (H0.out.below HB.out) q
      have c0 := MM.c0 k q
      have c1 := MM.c1 k q
      have c2 := MM.c2 k q
      have c3 := MM.c3 k q
      have c4 := MM.c4 k q
      have c5 := MM.c5 k q
      have clt := MM.lt
      have NS := nstep OL.out q
      obtain ⟨s0, s1, s2, s3, s4, s5, s6, s7, s8, s9, s10, s11⟩ := NS
      clear MM
      generalize nth l k = m at *
      generalize nXX (l.take k) = A at *
      generalize nXY (l.take k) = B at *
      generalize nYY (l.take k) = C at *
      generalize nXZ (l.take k) = D at *
      generalize nYZ (l.take k) = E at *
      obtain ⟨A1, EA⟩ : ∃ x, nXX (l.take (k + 1)) = x := ⟨_, rfl⟩
      obtain ⟨B1, EB⟩ : ∃ x, nXY (l.take (k + 1)) = x := ⟨_, rfl⟩
      obtain ⟨C1, EC⟩ : ∃ x, nYY (l.take (k + 1)) = x := ⟨_, rfl⟩
      obtain ⟨D1, ED⟩ : ∃ x, nXZ (l.take (k + 1)) = x := ⟨_, rfl⟩
      obtain ⟨E1, EE⟩ : ∃ x, nYZ (l.take (k + 1)) = x := ⟨_, rfl⟩
      rw [EA] at s7
      rw [EB] at s8
      rw [EC] at s9
      rw [ED] at s10
      rw [EE] at s11
      have HA := Lib.hid EA
      have HBB := Lib.hid EB
      have HC := Lib.hid EC
      have HD := Lib.hid ED
      have HE := Lib.hid EE
      clear EA EB EC ED EE
      have yN := KN.out
      have yN_0 := yN.c 0 _ rfl
      have yN_1 := yN.c 1 _ rfl
      have yN_2 := yN.c 2 _ rfl
      have yN_3 := yN.c 3 _ rfl
      have yN_4 := yN.c 4 _ rfl
      have yN_z := yN.lt
      have yN_f0 := yN.f 0 _ rfl
      have yN_f1 := yN.f 1 _ rfl
      have yN_f2 := yN.f 2 _ rfl
      have yN_f3 := yN.f 3 _ rfl
      have yN_f4 := yN.f 4 _ rfl
      clear yN
      have yN := KN.out
      have yN_0 := yN.c 0 _ rfl
      have yN_1 := yN.c 1 _ rfl
      have yN_2 := yN.c 2 _ rfl
      have yN_3 := yN.c 3 _ rfl
      have yN_4 := yN.c 4 _ rfl
      have yN_z := yN.lt
      have yN_f0 := yN.f 0 _ rfl
      have yN_f1 := yN.f 1 _ rfl
      have yN_f2 := yN.f 2 _ rfl
      have yN_f3 := yN.f 3 _ rfl
      have yN_f4 := yN.f 4 _ rfl
      clear yN
      go_wp2
      replace KZ := Lib.hid (blk_other (b := w.heap.size) (n := bN) (j := 4) (blk_other (b := w.heap.size) (n := bN) (j := 3) (blk_other (b := w.heap.size) (n := bN) (j := 2) (blk_other (b := w.heap.size) (n := bN) (j := 1) (blk_other (b := w.heap.size) (n := bN) (j := 0) KZ.out (by omega) (.int .i64 A1)) (by omega) (.int .i64 B1)) (by omega) (.int .i64 C1)) (by omega) (.int .i64 D1)) (by omega) (.int .i64 E1))
      replace KN := Lib.hid (blk_set (blk_set (blk_set (blk_set (blk_set KN.out (j := 0) (by simp) (.int .i64 A1)) (j := 1) (by simp) (.int .i64 B1)) (j := 2) (by simp) (.int .i64 C1)) (j := 3) (by simp) (.int .i64 D1)) (j := 4) (by simp) (.int .i64 E1))
      replace HB := Lib.hid (((((HB.out.setCell (p := ⟨bN, 0, none⟩) (show w.heap.size ≤ bN by omega) (.int .i64 A1)).setCell (p := ⟨bN, 1, none⟩) (show w.heap.size ≤ bN by omega) (.int .i64 B1)).setCell (p := ⟨bN, 2, none⟩) (show w.heap.size ≤ bN by omega) (.int .i64 C1)).setCell (p := ⟨bN, 3, none⟩) (show w.heap.size ≤ bN by omega) (.int .i64 D1)).setCell (p := ⟨bN, 4, none⟩) (show w.heap.size ≤ bN by omega) (.int .i64 E1))
      clear yN_0 yN_1 yN_2 yN_3 yN_4 yN_z yN_f0 yN_f1 yN_f2 yN_f3 yN_f4
      generalize ((((wr.setCell ⟨bN, 0, none⟩ (.int .i64 A1)).setCell ⟨bN, 1, none⟩ (.int .i64 B1)).setCell ⟨bN, 2, none⟩ (.int .i64 C1)).setCell ⟨bN, 3, none⟩ (.int .i64 D1)).setCell ⟨bN, 4, none⟩ (.int .i64 E1) = w51 at *
      simp only [List.set] at KN
      have KM := Lib.hid (Blk.of (vs := #[.int .i64 m.s, .int .i64 m.a, .int .i64 m.b, .int .i64 m.z, .int .i64 m.d, .int .i64 m.w]) (t := 59) (w := w51) (b := w51.heap.size) rfl)
      have hb52 : Below w51.heap.size w51 (w51.alloc (.cells #[.int .i64 m.s, .int .i64 m.a, .int .i64 m.b, .int .i64 m.z, .int .i64 m.d, .int .i64 m.w] 59)) := (Below.refl _ _).alloc (Nat.le_refl _) _
      have hnM := HB.out.size
      have nzM_Z := KZ.out.lt
      have nzM_N := KN.out.lt
      replace HB := Lib.hid (HB.out.trans (hb52.mono HB.out.size))
      replace KZ := Lib.hid (KZ.out.below hb52)
      replace KN := Lib.hid (KN.out.below hb52)
      clear hb52
      generalize w51.alloc (.cells #[.int .i64 m.s, .int .i64 m.a, .int .i64 m.b, .int .i64 m.z, .int .i64 m.d, .int .i64 m.w] 59) = w52 at *
      generalize w51.heap.size = bM at *
      have neM_Z : bM ≠ w.heap.size := by omega
      have neM_N : bM ≠ bN := by omega
      clear nzM_Z nzM_N
      exact ⟨⟨k + 1, by go_num, by omega, HB, by rw [HA.out, HBB.out, HC.out, HD.out, HE.out]; exact KN, KZ⟩, by simp [intOf]; omega⟩
    · obtain rfl : k = l.length := by omega
      rw [List.take_length] at KN
      obtain ⟨A, EA⟩ : ∃ x, nXX l = x := ⟨_, rfl⟩
      rw [EA] at KN
      have HA := Lib.hid EA
      clear EA
      obtain ⟨B, EB⟩ : ∃ x, nXY l = x := ⟨_, rfl⟩
      rw [EB] at KN
      have HBB := Lib.hid EB
      clear EB
      obtain ⟨C, EC⟩ : ∃ x, nYY l = x := ⟨_, rfl⟩
      rw [EC] at KN
      have HC := Lib.hid EC
      clear EC
      obtain ⟨D, ED⟩ : ∃ x, nXZ l = x := ⟨_, rfl⟩
      rw [ED] at KN
      have HD := Lib.hid ED
      clear ED
      obtain ⟨E, EE⟩ : ∃ x, nYZ l = x := ⟨_, rfl⟩
      rw [EE] at KN
      have HE := Lib.hid EE
      clear EE
      have yZ := KZ.out
      have yZ_0 := yZ.c 0 _ rfl
      have yZ_1 := yZ.c 1 _ rfl
      have yZ_2 := yZ.c 2 _ rfl
      have yZ_3 := yZ.c 3 _ rfl
      have yZ_4 := yZ.c 4 _ rfl
      have yZ_z := yZ.lt
      have yZ_f0 := yZ.f 0 _ rfl
      have yZ_f1 := yZ.f 1 _ rfl
      have yZ_f2 := yZ.f 2 _ rfl
      have yZ_f3 := yZ.f 3 _ rfl
      have yZ_f4 := yZ.f 4 _ rfl
      clear yZ
      have yN := KN.out
      have yN_0 := yN.c 0 _ rfl
      have yN_1 := yN.c 1 _ rfl
      have yN_2 := yN.c 2 _ rfl
      have yN_3 := yN.c 3 _ rfl
      have yN_4 := yN.c 4 _ rfl
      have yN_z := yN.lt
      clear yN
      go_wp2
      replace KZ := Lib.hid (blk_set (blk_set (blk_set (blk_set (blk_set KZ.out (j := 0) (by simp) (.int .i64 A)) (j := 1) (by simp) (.int .i64 B)) (j := 2) (by simp) (.int .i64 C)) (j := 3) (by simp) (.int .i64 D)) (j := 4) (by simp) (.int .i64 E))
      replace KN := Lib.hid (blk_other (b := bN) (n := w.heap.size) (j := 4) (blk_other (b := bN) (n := w.heap.size) (j := 3) (blk_other (b := bN) (n := w.heap.size) (j := 2) (blk_other (b := bN) (n := w.heap.size) (j := 1) (blk_other (b := bN) (n := w.heap.size) (j := 0) KN.out (by omega) (.int .i64 A)) (by omega) (.int .i64 B)) (by omega) (.int .i64 C)) (by omega) (.int .i64 D)) (by omega) (.int .i64 E))
      replace HB := Lib.hid (((((HB.out.setCell (p := ⟨w.heap.size, 0, none⟩) (show w.heap.size ≤ w.heap.size by omega) (.int .i64 A)).setCell (p := ⟨w.heap.size, 1, none⟩) (show w.heap.size ≤ w.heap.size by omega) (.int .i64 B)).setCell (p := ⟨w.heap.size, 2, none⟩) (show w.heap.size ≤ w.heap.size by omega) (.int .i64 C)).setCell (p := ⟨w.heap.size, 3, none⟩) (show w.heap.size ≤ w.heap.size by omega) (.int .i64 D)).setCell (p := ⟨w.heap.size, 4, none⟩) (show w.heap.size ≤ w.heap.size by omega) (.int .i64 E))
      clear yZ_0 yZ_1 yZ_2 yZ_3 yZ_4 yZ_z yZ_f0 yZ_f1 yZ_f2 yZ_f3 yZ_f4 yN_0 yN_1 yN_2 yN_3 yN_4 yN_z
      generalize ((((wr.setCell ⟨w.heap.size, 0, none⟩ (.int .i64 A)).setCell ⟨w.heap.size, 1, none⟩ (.int .i64 B)).setCell ⟨w.heap.size, 2, none⟩ (.int .i64 C)).setCell ⟨w.heap.size, 3, none⟩ (.int .i64 D)).setCell ⟨w.heap.size, 4, none⟩ (.int .i64 E) = w51 at *
      simp only [List.set] at KZ
      have yZ := KZ.out
      have yZ_0 := yZ.c 0 _ rfl
      have yZ_1 := yZ.c 1 _ rfl
      have yZ_2 := yZ.c 2 _ rfl
      have yZ_3 := yZ.c 3 _ rfl
      have yZ_4 := yZ.c 4 _ rfl
      have yZ_z := yZ.lt
      clear yZ
      refine bodyPost_ret (v := .tuple #[.agg #[.int .i64 A, .int .i64 B, .int .i64 C, .int .i64 D, .int .i64 E], .int .i64 0]) (by simp [results, Tryz.results53, go_sem, yZ_0, yZ_1, yZ_2, yZ_3, yZ_4]) rfl ⟨by rw [HA.out, HBB.out, HC.out, HD.out, HE.out], HB.out⟩
set_option maxHeartbeats 8000000 in
set_option maxRecDepth 100000 in
theorem normal_bad (l : List Ms) (v : Value) (w : World) (h : LstAt l v w) (hc : chkL l ≠ 0) :
    Calls Tryz.prog 53 #[v] w fun e w' => e = .returned (.tuple #[.agg #[.int .i64 0, .int .i64 0, .int .i64 0, .int .i64 0, .int .i64 0], .int .i64 (chkL l)]) ∧ Below w.heap.size w w' := by
  obtain ⟨p, cap, rfl⟩ := lst_form h
  have CH := Lib.hid fun w h => check_any l (.slice p l.length cap) w h
  have g : (chkL l != 0) = true := by simpa using hc
  have g' : (chkL l == 0) = false := by simpa using hc
  clear hc
  generalize chkL l = c at *
  have H0 := Lib.hid h
  have KZ := Lib.hid (Blk.of (vs := #[.int .i64 0, .int .i64 0, .int .i64 0, .int .i64 0, .int .i64 0]) (t := 112) (w := w) (b := w.heap.size) (by simp))
  have HB := Lib.hid ((Below.refl w.heap.size w).alloc (by simp; try omega) (.cells #[.int .i64 0, .int .i64 0, .int .i64 0, .int .i64 0, .int .i64 0] 112))
  go_enter Tryz.func53, Tryz.ntmps53
  clear h
  go_wp2_with fail
  generalize w.alloc (.cells #[.int .i64 0, .int .i64 0, .int .i64 0, .int .i64 0, .int .i64 0] 112) = w0 at *
  refine (CH.out _ (H0.out.below HB.out)).mono ?_
  rintro e1 w1 ⟨rfl, hb1⟩
  replace HB := Lib.hid (HB.out.trans (hb1.mono HB.out.size))
  replace KZ := Lib.hid (KZ.out.below hb1)
  clear hb1
  have yZ := KZ.out
  have yZ_0 := yZ.c 0 _ rfl
  have yZ_1 := yZ.c 1 _ rfl
  have yZ_2 := yZ.c 2 _ rfl
  have yZ_3 := yZ.c 3 _ rfl
  have yZ_4 := yZ.c 4 _ rfl
  have yZ_z := yZ.lt
  have yZ_f0 := yZ.f 0 _ rfl
  have yZ_f1 := yZ.f 1 _ rfl
  have yZ_f2 := yZ.f 2 _ rfl
  have yZ_f3 := yZ.f 3 _ rfl
  have yZ_f4 := yZ.f 4 _ rfl
  clear yZ
  go_wp2
  replace KZ := Lib.hid (blk_set (blk_set (blk_set (blk_set (blk_set KZ.out (j := 0) (by simp) (.int .i64 0)) (j := 1) (by simp) (.int .i64 0)) (j := 2) (by simp) (.int .i64 0)) (j := 3) (by simp) (.int .i64 0)) (j := 4) (by simp) (.int .i64 0))
  replace HB := Lib.hid (((((HB.out.setCell (p := ⟨w.heap.size, 0, none⟩) (show w.heap.size ≤ w.heap.size by omega) (.int .i64 0)).setCell (p := ⟨w.heap.size, 1, none⟩) (show w.heap.size ≤ w.heap.size by omega) (.int .i64 0)).setCell (p := ⟨w.heap.size, 2, none⟩) (show w.heap.size ≤ w.heap.size by omega) (.int .i64 0)).setCell (p := ⟨w.heap.size, 3, none⟩) (show w.heap.size ≤ w.heap.size by omega) (.int .i64 0)).setCell (p := ⟨w.heap.size, 4, none⟩) (show w.heap.size ≤ w.heap.size by omega) (.int .i64 0))
  clear yZ_0 yZ_1 yZ_2 yZ_3 yZ_4 yZ_z yZ_f0 yZ_f1 yZ_f2 yZ_f3 yZ_f4
  generalize ((((w1.setCell ⟨w.heap.size, 0, none⟩ (.int .i64 0)).setCell ⟨w.heap.size, 1, none⟩ (.int .i64 0)).setCell ⟨w.heap.size, 2, none⟩ (.int .i64 0)).setCell ⟨w.heap.size, 3, none⟩ (.int .i64 0)).setCell ⟨w.heap.size, 4, none⟩ (.int .i64 0) = w2 at *
  simp only [List.set] at KZ
  have yZ := KZ.out
  have yZ_0 := yZ.c 0 _ rfl
  have yZ_1 := yZ.c 1 _ rfl
  have yZ_2 := yZ.c 2 _ rfl
  have yZ_3 := yZ.c 3 _ rfl
  have yZ_4 := yZ.c 4 _ rfl
  have yZ_z := yZ.lt
  clear yZ
  refine bodyPost_ret (v := .tuple #[.agg #[.int .i64 0, .int .i64 0, .int .i64 0, .int .i64 0, .int .i64 0], .int .i64 c]) (by simp [results, Tryz.results53, go_sem, yZ_0, yZ_1, yZ_2, yZ_3, yZ_4]) rfl ⟨rfl, HB.out⟩
end Go.Proofs.YtidelghgjibndaaGreat
namespace Go.Proofs.YtidelghgjibndaaGreat
set_option linter.unusedVariables false
open Go.RowKit
/-- what reach asks of its numbers -/
structure ReachB (cx cy X Y NX NY D : Int) : Prop where
  c : -2000000 ≤ cx ∧ cx ≤ 2000000 ∧ -2000000 ≤ cy ∧ cy ≤ 2000000
  x : -9444732965739290427392 ≤ X ∧ X ≤ 9444732965739290427392
  y : -9444732965739290427392 ≤ Y ∧ Y ≤ 9444732965739290427392
  nx : 0 ≤ NX ∧ NX ≤ 9444732965739290427392
  ny : 0 ≤ NY ∧ NY ≤ 9444732965739290427392
  d : 0 < D ∧ D ≤ 562949953421312
set_option maxHeartbeats 8000000 in
set_option maxRecDepth 100000 in
theorem sizes_any (x y d : Int) (w : World) (hx0 : 0 ≤ x) (hx : x < 85070591730234615865843651857942052864) (hy0 : 0 ≤ y) (hy : y < 85070591730234615865843651857942052864) (hd : 0 < d) (hd1 : d ≤ 9223372036854775807) :
    Calls Tryz.prog 61 #[wv x, wv y, .int .i64 d] w fun e w' => e = .returned (.tuple #[.int .i64 (pairF x y d).1.1, .int .i64 (pairF x y d).1.2, .int .i64 (pairF x y d).2]) ∧ Below w.heap.size w w' := by
  have SX := Lib.hid fun w => size_any x d w hx0 hx hd hd1
  have SY := Lib.hid fun w => size_any y d w hy0 hy hd hd1
  have E0 : pairF x y d = if ceilI x d ≤ 8000000 ∧ ceilI y d ≤ 8000000 then ((ceilI x d, ceilI y d), 0) else ((0, 0), 2) := rfl
  clear hx0 hx hy0 hy hd hd1
  generalize pairF x y d = P at *
  generalize ceilI x d = u at *
  generalize ceilI y d = v at *
  unfold wv at *
  by_cases h : u ≤ 8000000
  · rw [if_pos h] at SX
    by_cases k : v ≤ 8000000
    · rw [if_pos k] at SY
      have E := Lib.hid (E0.trans (if_pos ⟨h, k⟩))
      clear E0 h k
      have KX := Lib.hid ((Blk.of (vs := #[.int .i64 (hiW x), .int .u64 (loW x)]) (t := 79) (w := w) (b := w.heap.size) (by simp)).alloc (.cells #[.int .i64 (hiW y), .int .u64 (loW y)] 79))
      have KY := Lib.hid (Blk.of (vs := #[.int .i64 (hiW y), .int .u64 (loW y)]) (t := 79) (w := (w.alloc (.cells #[.int .i64 (hiW x), .int .u64 (loW x)] 79))) (b := w.heap.size + 1) (by simp))
      have HB := Lib.hid (((Below.refl w.heap.size w).alloc (by simp; try omega) (.cells #[.int .i64 (hiW x), .int .u64 (loW x)] 79)).alloc (by simp; try omega) (.cells #[.int .i64 (hiW y), .int .u64 (loW y)] 79))
      go_enter Tryz.func61, Tryz.ntmps61
      go_wp2_with fail
      generalize (w.alloc (.cells #[.int .i64 (hiW x), .int .u64 (loW x)] 79)).alloc (.cells #[.int .i64 (hiW y), .int .u64 (loW y)] 79) = w0 at *
      refine (SX.out _).mono ?_
      rintro e1 w1 ⟨rfl, hb1⟩
      replace HB := Lib.hid (HB.out.trans (hb1.mono HB.out.size))
      replace KX := Lib.hid (KX.out.below hb1)
      replace KY := Lib.hid (KY.out.below hb1)
      clear hb1
      have yY := KY.out
      have yY_0 := yY.c 0 _ rfl
      have yY_1 := yY.c 1 _ rfl
      have yY_z := yY.lt
      clear yY
      go_wp2_with fail
      refine (SY.out _).mono ?_
      rintro e2 w2 ⟨rfl, hb2⟩
      replace HB := Lib.hid (HB.out.trans (hb2.mono HB.out.size))
      replace KX := Lib.hid (KX.out.below hb2)
      replace KY := Lib.hid (KY.out.below hb2)
      clear yY_0 yY_1 yY_z
      clear hb2
      go_wp2
      refine bodyPost_ret (v := .tuple #[.int .i64 u, .int .i64 v, .int .i64 0]) (by simp [results, Tryz.results61, go_sem]) rfl ⟨by rw [E.out], HB.out⟩
    · rw [if_neg k] at SY
      have E := Lib.hid (E0.trans (if_neg fun q => k q.2))
      clear E0 h k
      have KX := Lib.hid ((Blk.of (vs := #[.int .i64 (hiW x), .int .u64 (loW x)]) (t := 79) (w := w) (b := w.heap.size) (by simp)).alloc (.cells #[.int .i64 (hiW y), .int .u64 (loW y)] 79))
      have KY := Lib.hid (Blk.of (vs := #[.int .i64 (hiW y), .int .u64 (loW y)]) (t := 79) (w := (w.alloc (.cells #[.int .i64 (hiW x), .int .u64 (loW x)] 79))) (b := w.heap.size + 1) (by simp))
      have HB := Lib.hid (((Below.refl w.heap.size w).alloc (by simp; try omega) (.cells #[.int .i64 (hiW x), .int .u64 (loW x)] 79)).alloc (by simp; try omega) (.cells #[.int .i64 (hiW y), .int .u64 (loW y)] 79))
      go_enter Tryz.func61, Tryz.ntmps61
      go_wp2_with fail
      generalize (w.alloc (.cells #[.int .i64 (hiW x), .int .u64 (loW x)] 79)).alloc (.cells #[.int .i64 (hiW y), .int .u64 (loW y)] 79) = w0 at *
      refine (SX.out _).mono ?_
      rintro e1 w1 ⟨rfl, hb1⟩
      replace HB := Lib.hid (HB.out.trans (hb1.mono HB.out.size))
      replace KX := Lib.hid (KX.out.below hb1)
      replace KY := Lib.hid (KY.out.below hb1)
      clear hb1
      have yY := KY.out
      have yY_0 := yY.c 0 _ rfl
      have yY_1 := yY.c 1 _ rfl
      have yY_z := yY.lt
      clear yY
      go_wp2_with fail
      refine (SY.out _).mono ?_
      rintro e2 w2 ⟨rfl, hb2⟩
      replace HB := Lib.hid (HB.out.trans (hb2.mono HB.out.size))
      replace KX := Lib.hid (KX.out.below hb2)
      replace KY := Lib.hid (KY.out.below hb2)
      clear yY_0 yY_1 yY_z
      clear hb2
      go_wp2
      refine bodyPost_ret (v := .tuple #[.int .i64 0, .int .i64 0, .int .i64 2]) (by simp [results, Tryz.results61, go_sem]) rfl ⟨by rw [E.out], HB.out⟩
  · rw [if_neg h] at SX
    by_cases k : v ≤ 8000000
    · rw [if_pos k] at SY
      have E := Lib.hid (E0.trans (if_neg fun q => h q.1))
      clear E0 h k
      have KX := Lib.hid ((Blk.of (vs := #[.int .i64 (hiW x), .int .u64 (loW x)]) (t := 79) (w := w) (b := w.heap.size) (by simp)).alloc (.cells #[.int .i64 (hiW y), .int .u64 (loW y)] 79))
      have KY := Lib.hid (Blk.of (vs := #[.int .i64 (hiW y), .int .u64 (loW y)]) (t := 79) (w := (w.alloc (.cells #[.int .i64 (hiW x), .int .u64 (loW x)] 79))) (b := w.heap.size + 1) (by simp))
      have HB := Lib.hid (((Below.refl w.heap.size w).alloc (by simp; try omega) (.cells #[.int .i64 (hiW x), .int .u64 (loW x)] 79)).alloc (by simp; try omega) (.cells #[.int .i64 (hiW y), .int .u64 (loW y)] 79))
      go_enter Tryz.func61, Tryz.ntmps61
      go_wp2_with fail
      generalize (w.alloc (.cells #[.int .i64 (hiW x), .int .u64 (loW x)] 79)).alloc (.cells #[.int .i64 (hiW y), .int .u64 (loW y)] 79) = w0 at *
      refine (SX.out _).mono ?_
      rintro e1 w1 ⟨rfl, hb1⟩
      replace HB := Lib.hid (HB.out.trans (hb1.mono HB.out.size))
      replace KX := Lib.hid (KX.out.below hb1)
      replace KY := Lib.hid (KY.out.below hb1)
      clear hb1
      have yY := KY.out
      have yY_0 := yY.c 0 _ rfl
      have yY_1 := yY.c 1 _ rfl
      have yY_z := yY.lt
      clear yY
      go_wp2_with fail
      refine (SY.out _).mono ?_
      rintro e2 w2 ⟨rfl, hb2⟩
      replace HB := Lib.hid (HB.out.trans (hb2.mono HB.out.size))
      replace KX := Lib.hid (KX.out.below hb2)
      replace KY := Lib.hid (KY.out.below hb2)
      clear yY_0 yY_1 yY_z
      clear hb2
      go_wp2
      refine bodyPost_ret (v := .tuple #[.int .i64 0, .int .i64 0, .int .i64 2]) (by simp [results, Tryz.results61, go_sem]) rfl ⟨by rw [E.out], HB.out⟩
    · rw [if_neg k] at SY
      have E := Lib.hid (E0.trans (if_neg fun q => h q.1))
      clear E0 h k
      have KX := Lib.hid ((Blk.of (vs := #[.int .i64 (hiW x), .int .u64 (loW x)]) (t := 79) (w := w) (b := w.heap.size) (by simp)).alloc (.cells #[.int .i64 (hiW y), .int .u64 (loW y)] 79))
      have KY := Lib.hid (Blk.of (vs := #[.int .i64 (hiW y), .int .u64 (loW y)]) (t := 79) (w := (w.alloc (.cells #[.int .i64 (hiW x), .int .u64 (loW x)] 79))) (b := w.heap.size + 1) (by simp))
      have HB := Lib.hid (((Below.refl w.heap.size w).alloc (by simp; try omega) (.cells #[.int .i64 (hiW x), .int .u64 (loW x)] 79)).alloc (by simp; try omega) (.cells #[.int .i64 (hiW y), .int .u64 (loW y)] 79))
      go_enter Tryz.func61, Tryz.ntmps61
      go_wp2_with fail
      generalize (w.alloc (.cells #[.int .i64 (hiW x), .int .u64 (loW x)] 79)).alloc (.cells #[.int .i64 (hiW y), .int .u64 (loW y)] 79) = w0 at *
      refine (SX.out _).mono ?_
      rintro e1 w1 ⟨rfl, hb1⟩
      replace HB := Lib.hid (HB.out.trans (hb1.mono HB.out.size))
      replace KX := Lib.hid (KX.out.below hb1)
      replace KY := Lib.hid (KY.out.below hb1)
      clear hb1
      have yY := KY.out
      have yY_0 := yY.c 0 _ rfl
      have yY_1 := yY.c 1 _ rfl
      have yY_z := yY.lt
      clear yY
      go_wp2_with fail
      refine (SY.out _).mono ?_
      rintro e2 w2 ⟨rfl, hb2⟩
      replace HB := Lib.hid (HB.out.trans (hb2.mono HB.out.size))
      replace KX := Lib.hid (KX.out.below hb2)
      replace KY := Lib.hid (KY.out.below hb2)
      clear yY_0 yY_1 yY_z
      clear hb2
      go_wp2
      refine bodyPost_ret (v := .tuple #[.int .i64 0, .int .i64 0, .int .i64 2]) (by simp [results, Tryz.results61, go_sem]) rfl ⟨by rw [E.out], HB.out⟩
theorem apart_bd {p d x : Int} (hp0 : -2000000 ≤ p) (hp : p ≤ 2000000) (hd0 : 0 < d) (hd : d ≤ 562949953421312) (hx0 : -9444732965739290427392 ≤ x) (hx : x ≤ 9444732965739290427392) :
    -10570632872582575427392 ≤ p * d - x ∧ p * d - x ≤ 10570632872582575427392 ∧ 0 ≤ absZ (p * d - x) ∧ absZ (p * d - x) ≤ 10570632872582575427392 := by
  have h := mulb (X := 2000000) (Y := 562949953421312) (x := p) (y := d) (by omega) hp0 hp (by omega) hd
  have h1 : -10570632872582575427392 ≤ p * d - x := by omega
  have h2 : p * d - x ≤ 10570632872582575427392 := by omega
  exact ⟨h1, h2, absZ_ge _, absZ_le h1 h2⟩
set_option maxHeartbeats 8000000 in
set_option maxRecDepth 100000 in
theorem reach_any (cx cy X Y NX NY D : Int) (w : World) (h : ReachB cx cy X Y NX NY D) :
    Calls Tryz.prog 31 #[.agg #[.int .i64 cx, .int .i64 cy], .agg #[.int .i64 (hiW X), .int .u64 (loW X), .int .i64 (hiW Y), .int .u64 (loW Y), .int .i64 (hiW NX), .int .u64 (loW NX), .int .i64 (hiW NY), .int .u64 (loW NY), .int .i64 D]] w fun e w' => e = .returned (.tuple #[.int .i64 (pairF (apartI cx X D + NX) (apartI cy Y D + NY) D).1.1, .int .i64 (pairF (apartI cx X D + NX) (apartI cy Y D + NY) D).1.2, .int .i64 (pairF (apartI cx X D + NX) (apartI cy Y D + NY) D).2]) ∧ Below w.heap.size w w' := by
  obtain ⟨⟨c0, c1, c2, c3⟩, ⟨x0, x1⟩, ⟨y0, y1⟩, ⟨nx0, nx1⟩, ⟨ny0, ny1⟩, d0, d1⟩ := h
  obtain ⟨a0, a1, a2, a3⟩ := apart_bd c0 c1 d0 d1 x0 x1
  obtain ⟨b0, b1, b2, b3⟩ := apart_bd c2 c3 d0 d1 y0 y1
  have AX := Lib.hid fun w => apart_any cx X D w ⟨by omega, by omega⟩ ⟨by omega, by omega⟩ ⟨by omega, by omega⟩ ⟨by omega, by omega⟩ ⟨by omega, by omega⟩
  have AY := Lib.hid fun w => apart_any cy Y D w ⟨by omega, by omega⟩ ⟨by omega, by omega⟩ ⟨by omega, by omega⟩ ⟨by omega, by omega⟩ ⟨by omega, by omega⟩
  unfold apartI
  generalize absZ (cx * D - X) = u at *
  generalize absZ (cy * D - Y) = v at *
  have PX := Lib.hid fun w => plus_any u NX w ⟨by omega, by omega⟩ ⟨by omega, by omega⟩ ⟨by omega, by omega⟩
  have PY := Lib.hid fun w => plus_any v NY w ⟨by omega, by omega⟩ ⟨by omega, by omega⟩ ⟨by omega, by omega⟩
  have SZ := Lib.hid fun w => sizes_any (u + NX) (v + NY) D w (by omega) (by omega) (by omega) (by omega) d0 (by omega)
  generalize pairF (u + NX) (v + NY) D = q at *
  generalize u + NX = s at *
  generalize v + NY = t at *
  unfold wv at *
  clear c0 c1 c2 c3 x0 x1 y0 y1 nx0 nx1 ny0 ny1 d0 d1 a0 a1 a2 a3 b0 b1 b2 b3
  have KP := Lib.hid ((Blk.of (vs := #[.int .i64 cx, .int .i64 cy]) (t := 24) (w := w) (b := w.heap.size) (by simp)).alloc (.cells #[.int .i64 (hiW X), .int .u64 (loW X), .int .i64 (hiW Y), .int .u64 (loW Y), .int .i64 (hiW NX), .int .u64 (loW NX), .int .i64 (hiW NY), .int .u64 (loW NY), .int .i64 D] 88))
  have KS := Lib.hid (Blk.of (vs := #[.int .i64 (hiW X), .int .u64 (loW X), .int .i64 (hiW Y), .int .u64 (loW Y), .int .i64 (hiW NX), .int .u64 (loW NX), .int .i64 (hiW NY), .int .u64 (loW NY), .int .i64 D]) (t := 88) (w := (w.alloc (.cells #[.int .i64 cx, .int .i64 cy] 24))) (b := w.heap.size + 1) (by simp))
  have HB := Lib.hid (((Below.refl w.heap.size w).alloc (by simp; try omega) (.cells #[.int .i64 cx, .int .i64 cy] 24)).alloc (by simp; try omega) (.cells #[.int .i64 (hiW X), .int .u64 (loW X), .int .i64 (hiW Y), .int .u64 (loW Y), .int .i64 (hiW NX), .int .u64 (loW NX), .int .i64 (hiW NY), .int .u64 (loW NY), .int .i64 D] 88))
  go_enter Tryz.func31, Tryz.ntmps31
  go_wp2_with fail
  generalize (w.alloc (.cells #[.int .i64 cx, .int .i64 cy] 24)).alloc (.cells #[.int .i64 (hiW X), .int .u64 (loW X), .int .i64 (hiW Y), .int .u64 (loW Y), .int .i64 (hiW NX), .int .u64 (loW NX), .int .i64 (hiW NY), .int .u64 (loW NY), .int .i64 D] 88) = w0 at *
  have gP_0 := fun d os => cell_regrown (KP.out.c 0 _ rfl) d os
  have gP_1 := fun d os => cell_regrown (KP.out.c 1 _ rfl) d os
  have gS_0 := fun d os => cell_regrown (KS.out.c 0 _ rfl) d os
  have gS_1 := fun d os => cell_regrown (KS.out.c 1 _ rfl) d os
  have gS_2 := fun d os => cell_regrown (KS.out.c 2 _ rfl) d os
  have gS_3 := fun d os => cell_regrown (KS.out.c 3 _ rfl) d os
  have gS_4 := fun d os => cell_regrown (KS.out.c 4 _ rfl) d os
  have gS_5 := fun d os => cell_regrown (KS.out.c 5 _ rfl) d os
  have gS_6 := fun d os => cell_regrown (KS.out.c 6 _ rfl) d os
  have gS_7 := fun d os => cell_regrown (KS.out.c 7 _ rfl) d os
  have gS_8 := fun d os => cell_regrown (KS.out.c 8 _ rfl) d os
  have rv0 := Lib.hid (fun d os => Calls.regrown_of (AX.out (Go.Sort.grow (redrawn w0 d) os)))
  have rv1 := Lib.hid (fun d os => Calls.regrown_of (AY.out (Go.Sort.grow (redrawn w0 d) os)))
  have rv2 := Lib.hid (fun d os => Calls.regrown_of (PX.out (Go.Sort.grow (redrawn w0 d) os)))
  have rv3 := Lib.hid (fun d os => Calls.regrown_of (PY.out (Go.Sort.grow (redrawn w0 d) os)))
  have rv4 := Lib.hid (fun d os => Calls.regrown_of (SZ.out (Go.Sort.grow (redrawn w0 d) os)))
  refine wp_region_quiet_below (by kernel_rfl) (by kernel_rfl) ?_
  repeat (quiet_step (first | with_reducible exact rv0.out _ _ | with_reducible exact rv1.out _ _ | with_reducible exact rv2.out _ _ | with_reducible exact rv3.out _ _ | with_reducible exact rv4.out _ _))
  refine wpQuiet_nil ?_
  intro w1 hw1
  have hb1 : Below w0.heap.size w0 w1 := by
    obtain ⟨⟨dq, osq⟩, hw2⟩ := hw1
    rw [hw2]; exact below_regrown _ dq osq
  clear gP_0 gP_1 gS_0 gS_1 gS_2 gS_3 gS_4 gS_5 gS_6 gS_7 gS_8 rv0 rv1 rv2 rv3 rv4 hw1
  replace HB := Lib.hid (HB.out.trans (hb1.mono HB.out.size))
  replace KP := Lib.hid (KP.out.below hb1)
  replace KS := Lib.hid (KS.out.below hb1)
  clear hb1
  go_wp2
  refine bodyPost_ret (v := .tuple #[.int .i64 q.1.1, .int .i64 q.1.2, .int .i64 q.2]) (by simp [results, Tryz.results31, go_sem]) rfl ⟨rfl, HB.out⟩
end Go.Proofs.YtidelghgjibndaaGreat
