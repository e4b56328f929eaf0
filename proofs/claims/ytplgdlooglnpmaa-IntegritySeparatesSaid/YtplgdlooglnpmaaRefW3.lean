/-
  The walks of the reference's Neg and Abs of layer 2.
-/
import Derived.Test.YtplgdlooglnpmaaRefW2
namespace Go.Proofs.Ytplgdlooglnpmaa
set_option linter.unusedVariables false
open Go.RowKit

set_option maxHeartbeats 8000000 in
set_option maxRecDepth 100000 in
theorem rneg_any (x : Int) (w : World) (hx : FitW x) (hn : FitW (-x)) :
    Calls Try.prog 77 #[wv x] w fun e w' => e = .returned (wv1 (-x)) ∧ Below w.heap.size w w' := by
  have SB := Lib.hid fun w => rsub_any 0 x w ⟨by omega, by omega⟩ hx (by rw [Int.zero_sub]; exact hn)
  unfold wv at SB
  simp only [show hiW 0 = 0 from rfl, show loW 0 = 0 from rfl, Int.zero_sub] at SB
  unfold wv1 wv
  generalize -x = r at *
  clear hx hn
  have KX := Lib.hid ((Blk.of (vs := #[.int .i64 (hiW x), .int .u64 (loW x)]) (t := 51) (w := w) (b := w.heap.size) (by simp)).alloc (.cells #[.int .i64 0, .int .u64 0] 51))
  have KZ := Lib.hid (Blk.of (vs := #[.int .i64 0, .int .u64 0]) (t := 51) (w := (w.alloc (.cells #[.int .i64 (hiW x), .int .u64 (loW x)] 51))) (b := w.heap.size + 1) (by simp))
  have HB := Lib.hid (((Below.refl w.heap.size w).alloc (by simp; try omega) (.cells #[.int .i64 (hiW x), .int .u64 (loW x)] 51)).alloc (by simp; try omega) (.cells #[.int .i64 0, .int .u64 0] 51))
  go_enter Try.func77, Try.ntmps77
  go_wp2_with fail
  generalize (w.alloc (.cells #[.int .i64 (hiW x), .int .u64 (loW x)] 51)).alloc (.cells #[.int .i64 0, .int .u64 0] 51) = w0 at *
  refine (SB.out _).mono ?_
  rintro e1 w1 ⟨rfl, hb1⟩
  replace HB := Lib.hid (HB.out.trans (hb1.mono HB.out.size))
  replace KX := Lib.hid (KX.out.below hb1)
  replace KZ := Lib.hid (KZ.out.below hb1)
  clear hb1
  have yZ := KZ.out
  have yZ_0 := yZ.c 0 _ rfl
  have yZ_1 := yZ.c 1 _ rfl
  have yZ_z := yZ.lt
  have yZ_f0 := yZ.f 0 _ rfl
  have yZ_f1 := yZ.f 1 _ rfl
  clear yZ
  go_wp2
  replace KX := Lib.hid (blk_other (b := w.heap.size) (n := (w.heap.size + 1)) (j := 1) (blk_other (b := w.heap.size) (n := (w.heap.size + 1)) (j := 0) KX.out (by omega) (.int .i64 (hiW r))) (by omega) (.int .u64 (loW r)))
  replace KZ := Lib.hid (blk_set (blk_set KZ.out (j := 0) (by simp) (.int .i64 (hiW r))) (j := 1) (by simp) (.int .u64 (loW r)))
  replace HB := Lib.hid ((HB.out.setCell (p := ⟨(w.heap.size + 1), 0, none⟩) (show w.heap.size ≤ (w.heap.size + 1) by omega) (.int .i64 (hiW r))).setCell (p := ⟨(w.heap.size + 1), 1, none⟩) (show w.heap.size ≤ (w.heap.size + 1) by omega) (.int .u64 (loW r)))
  clear yZ_0 yZ_1 yZ_z yZ_f0 yZ_f1
  generalize (w1.setCell ⟨(w.heap.size + 1), 0, none⟩ (.int .i64 (hiW r))).setCell ⟨(w.heap.size + 1), 1, none⟩ (.int .u64 (loW r)) = w2 at *
  simp only [List.set] at KZ
  have yZ := KZ.out
  have yZ_0 := yZ.c 0 _ rfl
  have yZ_1 := yZ.c 1 _ rfl
  have yZ_z := yZ.lt
  clear yZ
  refine bodyPost_ret (v := .tuple #[.agg #[.int .i64 (hiW r), .int .u64 (loW r)], .bool true]) (by simp [results, Try.results77, go_sem, yZ_0, yZ_1]) rfl ⟨rfl, HB.out⟩
set_option maxHeartbeats 8000000 in
set_option maxRecDepth 100000 in
theorem rabs_any (x : Int) (w : World) (hx : FitW x) (hn : FitW (-x)) :
    Calls Try.prog 55 #[wv x] w fun e w' => e = .returned (wv1 (absZ x)) ∧ Below w.heap.size w w' := by
  by_cases h : x < 0
  · have NG := Lib.hid fun w => rneg_any x w hx hn
    have g : decide (hiW x < 0) = true := by have := (hi_neg x).2 h; simpa using this
    rw [show absZ x = -x by unfold absZ; rw [if_pos h]]
    unfold wv1 wv at *
    generalize -x = r at *
    clear hx hn h
    have KX := Lib.hid ((Blk.of (vs := #[.int .i64 (hiW x), .int .u64 (loW x)]) (t := 51) (w := w) (b := w.heap.size) (by simp)).alloc (.cells #[.int .i64 0, .int .u64 0] 51))
    have KZ := Lib.hid (Blk.of (vs := #[.int .i64 0, .int .u64 0]) (t := 51) (w := (w.alloc (.cells #[.int .i64 (hiW x), .int .u64 (loW x)] 51))) (b := w.heap.size + 1) (by simp))
    have HB := Lib.hid (((Below.refl w.heap.size w).alloc (by simp; try omega) (.cells #[.int .i64 (hiW x), .int .u64 (loW x)] 51)).alloc (by simp; try omega) (.cells #[.int .i64 0, .int .u64 0] 51))
    go_enter Try.func55, Try.ntmps55
    go_wp2_with fail
    generalize (w.alloc (.cells #[.int .i64 (hiW x), .int .u64 (loW x)] 51)).alloc (.cells #[.int .i64 0, .int .u64 0] 51) = w0 at *
    refine (NG.out _).mono ?_
    rintro e1 w1 ⟨rfl, hb1⟩
    replace HB := Lib.hid (HB.out.trans (hb1.mono HB.out.size))
    replace KX := Lib.hid (KX.out.below hb1)
    replace KZ := Lib.hid (KZ.out.below hb1)
    clear hb1
    have yZ := KZ.out
    have yZ_0 := yZ.c 0 _ rfl
    have yZ_1 := yZ.c 1 _ rfl
    have yZ_z := yZ.lt
    have yZ_f0 := yZ.f 0 _ rfl
    have yZ_f1 := yZ.f 1 _ rfl
    clear yZ
    go_wp2
    replace KX := Lib.hid (blk_other (b := w.heap.size) (n := (w.heap.size + 1)) (j := 1) (blk_other (b := w.heap.size) (n := (w.heap.size + 1)) (j := 0) KX.out (by omega) (.int .i64 (hiW r))) (by omega) (.int .u64 (loW r)))
    replace KZ := Lib.hid (blk_set (blk_set KZ.out (j := 0) (by simp) (.int .i64 (hiW r))) (j := 1) (by simp) (.int .u64 (loW r)))
    replace HB := Lib.hid ((HB.out.setCell (p := ⟨(w.heap.size + 1), 0, none⟩) (show w.heap.size ≤ (w.heap.size + 1) by omega) (.int .i64 (hiW r))).setCell (p := ⟨(w.heap.size + 1), 1, none⟩) (show w.heap.size ≤ (w.heap.size + 1) by omega) (.int .u64 (loW r)))
    clear yZ_0 yZ_1 yZ_z yZ_f0 yZ_f1
    generalize (w1.setCell ⟨(w.heap.size + 1), 0, none⟩ (.int .i64 (hiW r))).setCell ⟨(w.heap.size + 1), 1, none⟩ (.int .u64 (loW r)) = w2 at *
    simp only [List.set] at KZ
    have yZ := KZ.out
    have yZ_0 := yZ.c 0 _ rfl
    have yZ_1 := yZ.c 1 _ rfl
    have yZ_z := yZ.lt
    clear yZ
    refine bodyPost_ret (v := .tuple #[.agg #[.int .i64 (hiW r), .int .u64 (loW r)], .bool true]) (by simp [results, Try.results55, go_sem, yZ_0, yZ_1]) rfl ⟨rfl, HB.out⟩
  · have g : decide (hiW x < 0) = false := by have := hi_neg x; simp; omega
    rw [show absZ x = x by unfold absZ; rw [if_neg h]]
    unfold wv1 wv
    clear hx hn h
    have KX := Lib.hid ((Blk.of (vs := #[.int .i64 (hiW x), .int .u64 (loW x)]) (t := 51) (w := w) (b := w.heap.size) (by simp)).alloc (.cells #[.int .i64 0, .int .u64 0] 51))
    have KZ := Lib.hid (Blk.of (vs := #[.int .i64 0, .int .u64 0]) (t := 51) (w := (w.alloc (.cells #[.int .i64 (hiW x), .int .u64 (loW x)] 51))) (b := w.heap.size + 1) (by simp))
    have HB := Lib.hid (((Below.refl w.heap.size w).alloc (by simp; try omega) (.cells #[.int .i64 (hiW x), .int .u64 (loW x)] 51)).alloc (by simp; try omega) (.cells #[.int .i64 0, .int .u64 0] 51))
    go_enter Try.func55, Try.ntmps55
    go_wp2
    refine bodyPost_ret (v := .tuple #[.agg #[.int .i64 (hiW x), .int .u64 (loW x)], .bool true]) (by simp [results, Try.results55, go_sem]) rfl ⟨rfl, ?_⟩
    exact ((Below.refl _ _).alloc (Nat.le_refl _) _).alloc (by simp) _
end Go.Proofs.Ytplgdlooglnpmaa
