/-
  Walks and laws of the layers below, gathered from several texts.
-/
import Derived.Sort.OwnSortedInts
import Derived.StillTail
import Derived.StillTailTactics
import Derived.Lib.QuietBelow
import Derived.Test.YtplgdlooglnpmaaGreatSX5
namespace Go.Proofs.YtplgdlooglnpmaaGreat
set_option linter.unusedVariables false
open Go.RowKit
theorem pOk_iff {v : Int} : pOk v = true ↔ -2000000 ≤ v ∧ v ≤ 2000000 := by unfold pOk; rw [decide_eq_true_iff]
theorem det_pos {l : List Ms} (h : chkL l = 0) (hd : detN l ≠ 0) : 0 < detN l := by have := det_nonneg l (chk_w h); omega
theorem reachB_of {l : List Ms} (h : OkL l) (hd : 0 < detN l) {cx cy : Int} (h0 : pOk cx = true) (h1 : pOk cy = true) : ReachB cx cy (solX l) (solY l) (noiX l) (noiY l) (detN l) := by
  have a := pOk_iff.1 h0
  have b := pOk_iff.1 h1
  have s := sol_bd (nrm_bd h)
  have n := noi_bd h
  exact ⟨⟨a.1, a.2, b.1, b.2⟩, s.x, s.y, n.1, n.2, hd, s.det.2⟩
/-- reach of a list -/
theorem reachL_any {l : List Ms} (h : OkL l) (hd : 0 < detN l) {cx cy : Int} (h0 : pOk cx = true) (h1 : pOk cy = true) (w : World) :
    Calls Tryz.prog 24 #[.agg #[.int .i64 cx, .int .i64 cy], .agg #[.int .i64 (hiW (solX l)), .int .u64 (loW (solX l)), .int .i64 (hiW (solY l)), .int .u64 (loW (solY l)), .int .i64 (hiW (noiX l)), .int .u64 (loW (noiX l)), .int .i64 (hiW (noiY l)), .int .u64 (loW (noiY l)), .int .i64 ((detN l))]] w fun e w' => e = .returned (.tuple #[.int .i64 (reachF cx cy l).1.1, .int .i64 (reachF cx cy l).1.2, .int .i64 (reachF cx cy l).2]) ∧ Below w.heap.size w w' :=
  reach_any cx cy (solX l) (solY l) (noiX l) (noiY l) (detN l) w (reachB_of h hd h0 h1)
theorem pair_bad (x y d : Int) : (pairF x y d).2 = 0 ∨ pairF x y d = ((0, 0), 2) := by unfold pairF; split; exact .inl rfl; exact .inr rfl
theorem reach_bad (cx cy : Int) (l : List Ms) : (reachF cx cy l).2 = 0 ∨ reachF cx cy l = ((0, 0), 2) := pair_bad _ _ _
def boxV (b : BoxI) : Value := .agg #[.int .i64 b.cx, .int .i64 b.cy, .int .i64 b.x, .int .i64 b.y]
set_option maxHeartbeats 40000000 in
set_option maxRecDepth 100000 in
theorem acc_any (l : List Ms) (v : Value) (w : World) (h : LstAt l v w) :
    Calls Tryz.prog 12 #[v] w fun e w' => e = .returned (.tuple #[boxV (accF l).1, .int .i64 (accF l).2]) ∧ Below w.heap.size w w' := by
  obtain ⟨p, cap, rfl⟩ := lst_form h
  by_cases hs : solE l = 0
  · obtain ⟨hc, hd, hx, hy⟩ := sol_chk hs
    have SO := Lib.hid fun w h => sol_ok l (.slice p l.length cap) w h hs
    have SV := Lib.hid fun w h => solve_any l (.slice p l.length cap) w h hc
    have RE := Lib.hid fun w => reachL_any (okL_of hc) (det_pos hc hd) hx hy w
    have EV : accF l = if (reachF (cenX l) (cenY l) l).2 = 0 then (⟨cenX l, cenY l, (reachF (cenX l) (cenY l) l).1.1, (reachF (cenX l) (cenY l) l).1.2⟩, 0) else (box0, 2) := by unfold accF; rw [if_pos hs]
    have RB := reach_bad (cenX l) (cenY l) l
    obtain ⟨R, hR⟩ : ∃ x, reachF (cenX l) (cenY l) l = x := ⟨_, rfl⟩
    rw [hR] at EV RE RB
    clear hR hs hc hd hx hy
    generalize solX l = X at *
    generalize solY l = Y at *
    generalize noiX l = U at *
    generalize noiY l = V at *
    generalize detN l = T at *
    generalize cenX l = cx at *
    generalize cenY l = cy at *
    rcases RB with RB | rfl
    · obtain ⟨⟨rx, ry⟩, re⟩ := R
      simp only at RB
      subst RB
      have HV := Lib.hid (EV.trans (if_pos rfl))
      clear EV
      have H0 := Lib.hid h
      have KZ := Lib.hid (Blk.of (vs := #[.int .i64 0, .int .i64 0, .int .i64 0, .int .i64 0]) (t := 28) (w := w) (b := w.heap.size) (by simp))
      have HB := Lib.hid ((Below.refl w.heap.size w).alloc (by simp; try omega) (.cells #[.int .i64 0, .int .i64 0, .int .i64 0, .int .i64 0] 28))
      go_enter Tryz.func12, Tryz.ntmps12
      clear h
      go_wp2_with fail
      generalize w.alloc (.cells #[.int .i64 0, .int .i64 0, .int .i64 0, .int .i64 0] 28) = w0 at *
      refine (SO.out _ (H0.out.below HB.out)).mono ?_
      rintro e1 w1 ⟨rfl, hb1⟩
      replace HB := Lib.hid (HB.out.trans (hb1.mono HB.out.size))
      replace KZ := Lib.hid (KZ.out.below hb1)
      clear hb1
      go_wp2_with fail
      have KS := Lib.hid (Blk.of (vs := #[.int .i64 (hiW X), .int .u64 (loW X), .int .i64 (hiW Y), .int .u64 (loW Y), .int .i64 T, .int .i64 cx, .int .i64 cy]) (t := 51) (w := w1) (b := w1.heap.size) rfl)
      have hb2 : Below w1.heap.size w1 (w1.alloc (.cells #[.int .i64 (hiW X), .int .u64 (loW X), .int .i64 (hiW Y), .int .u64 (loW Y), .int .i64 T, .int .i64 cx, .int .i64 cy] 51)) := (Below.refl _ _).alloc (Nat.le_refl _) _
      have hnS := HB.out.size
      have nzS_Z := KZ.out.lt
      replace HB := Lib.hid (HB.out.trans (hb2.mono HB.out.size))
      replace KZ := Lib.hid (KZ.out.below hb2)
      clear hb2
      generalize w1.alloc (.cells #[.int .i64 (hiW X), .int .u64 (loW X), .int .i64 (hiW Y), .int .u64 (loW Y), .int .i64 T, .int .i64 cx, .int .i64 cy] 51) = w2 at *
      generalize w1.heap.size = bS at *
      have neS_Z : bS ≠ w.heap.size := by omega
      clear nzS_Z
      have SVW := Lib.hid fun w1 (h : Below w2.heap.size w2 w1) => SV.out w1 (H0.out.below (HB.out.trans (h.mono HB.out.size)))
      have gS_5 := fun d os => cell_regrown (KS.out.c 5 _ rfl) d os
      have gS_6 := fun d os => cell_regrown (KS.out.c 6 _ rfl) d os
      have rv0 := Lib.hid (fun d os => Calls.regrown_of (SVW.out (Go.Sort.grow (redrawn w2 d) os) (below_regrown w2 d os)))
      have rv1 := Lib.hid (fun d os => Calls.regrown_of (RE.out (Go.Sort.grow (redrawn w2 d) os)))
      refine wp_region_quiet_below (by kernel_rfl) (by kernel_rfl) ?_
      repeat (quiet_step (first | with_reducible exact rv0.out _ _ | with_reducible exact rv1.out _ _))
      refine wpQuiet_nil ?_
      intro w9 hw9
      have hb9 : Below w2.heap.size w2 w9 := by
        obtain ⟨⟨dq, osq⟩, hw2⟩ := hw9
        rw [hw2]; exact below_regrown _ dq osq
      clear gS_5 gS_6 rv0 rv1 hw9 SVW
      replace HB := Lib.hid (HB.out.trans (hb9.mono HB.out.size))
      replace KZ := Lib.hid (KZ.out.below hb9)
      replace KS := Lib.hid (KS.out.below hb9)
      clear hb9
      have yZ := KZ.out
      have yZ_0 := yZ.c 0 _ rfl
      have yZ_1 := yZ.c 1 _ rfl
      have yZ_2 := yZ.c 2 _ rfl
      have yZ_3 := yZ.c 3 _ rfl
      have yZ_z := yZ.lt
      have yZ_f0 := yZ.f 0 _ rfl
      have yZ_f1 := yZ.f 1 _ rfl
      have yZ_f2 := yZ.f 2 _ rfl
      have yZ_f3 := yZ.f 3 _ rfl
      clear yZ
      have yS := KS.out
      have yS_0 := yS.c 0 _ rfl
      have yS_1 := yS.c 1 _ rfl
      have yS_2 := yS.c 2 _ rfl
      have yS_3 := yS.c 3 _ rfl
      have yS_4 := yS.c 4 _ rfl
      have yS_5 := yS.c 5 _ rfl
      have yS_6 := yS.c 6 _ rfl
      have yS_z := yS.lt
      clear yS
      go_wp2
      replace KZ := Lib.hid (blk_set (blk_set (blk_set (blk_set KZ.out (j := 0) (by simp) (.int .i64 cx)) (j := 1) (by simp) (.int .i64 cy)) (j := 2) (by simp) (.int .i64 rx)) (j := 3) (by simp) (.int .i64 ry))
      replace KS := Lib.hid (blk_other (b := bS) (n := w.heap.size) (j := 3) (blk_other (b := bS) (n := w.heap.size) (j := 2) (blk_other (b := bS) (n := w.heap.size) (j := 1) (blk_other (b := bS) (n := w.heap.size) (j := 0) KS.out (by omega) (.int .i64 cx)) (by omega) (.int .i64 cy)) (by omega) (.int .i64 rx)) (by omega) (.int .i64 ry))
      replace HB := Lib.hid ((((HB.out.setCell (p := ⟨w.heap.size, 0, none⟩) (show w.heap.size ≤ w.heap.size by omega) (.int .i64 cx)).setCell (p := ⟨w.heap.size, 1, none⟩) (show w.heap.size ≤ w.heap.size by omega) (.int .i64 cy)).setCell (p := ⟨w.heap.size, 2, none⟩) (show w.heap.size ≤ w.heap.size by omega) (.int .i64 rx)).setCell (p := ⟨w.heap.size, 3, none⟩) (show w.heap.size ≤ w.heap.size by omega) (.int .i64 ry))
      clear yZ_0 yZ_1 yZ_2 yZ_3 yZ_z yZ_f0 yZ_f1 yZ_f2 yZ_f3 yS_0 yS_1 yS_2 yS_3 yS_4 yS_5 yS_6 yS_z
      generalize (((w9.setCell ⟨w.heap.size, 0, none⟩ (.int .i64 cx)).setCell ⟨w.heap.size, 1, none⟩ (.int .i64 cy)).setCell ⟨w.heap.size, 2, none⟩ (.int .i64 rx)).setCell ⟨w.heap.size, 3, none⟩ (.int .i64 ry) = w10 at *
      simp only [List.set] at KZ
      have yZ := KZ.out
      have yZ_0 := yZ.c 0 _ rfl
      have yZ_1 := yZ.c 1 _ rfl
      have yZ_2 := yZ.c 2 _ rfl
      have yZ_3 := yZ.c 3 _ rfl
      have yZ_z := yZ.lt
      clear yZ
      refine bodyPost_ret (v := .tuple #[.agg #[.int .i64 cx, .int .i64 cy, .int .i64 rx, .int .i64 ry], .int .i64 0]) (by simp [results, Tryz.results12, go_sem, yZ_0, yZ_1, yZ_2, yZ_3]) rfl ⟨by rw [HV.out]; rfl, HB.out⟩
    · have HV := Lib.hid (EV.trans (if_neg (by simp)))
      clear EV
      have H0 := Lib.hid h
      have KZ := Lib.hid (Blk.of (vs := #[.int .i64 0, .int .i64 0, .int .i64 0, .int .i64 0]) (t := 28) (w := w) (b := w.heap.size) (by simp))
      have HB := Lib.hid ((Below.refl w.heap.size w).alloc (by simp; try omega) (.cells #[.int .i64 0, .int .i64 0, .int .i64 0, .int .i64 0] 28))
      go_enter Tryz.func12, Tryz.ntmps12
      clear h
      go_wp2_with fail
      generalize w.alloc (.cells #[.int .i64 0, .int .i64 0, .int .i64 0, .int .i64 0] 28) = w0 at *
      refine (SO.out _ (H0.out.below HB.out)).mono ?_
      rintro e1 w1 ⟨rfl, hb1⟩
      replace HB := Lib.hid (HB.out.trans (hb1.mono HB.out.size))
      replace KZ := Lib.hid (KZ.out.below hb1)
      clear hb1
      go_wp2_with fail
      have KS := Lib.hid (Blk.of (vs := #[.int .i64 (hiW X), .int .u64 (loW X), .int .i64 (hiW Y), .int .u64 (loW Y), .int .i64 T, .int .i64 cx, .int .i64 cy]) (t := 51) (w := w1) (b := w1.heap.size) rfl)
      have hb2 : Below w1.heap.size w1 (w1.alloc (.cells #[.int .i64 (hiW X), .int .u64 (loW X), .int .i64 (hiW Y), .int .u64 (loW Y), .int .i64 T, .int .i64 cx, .int .i64 cy] 51)) := (Below.refl _ _).alloc (Nat.le_refl _) _
      have hnS := HB.out.size
      have nzS_Z := KZ.out.lt
      replace HB := Lib.hid (HB.out.trans (hb2.mono HB.out.size))
      replace KZ := Lib.hid (KZ.out.below hb2)
      clear hb2
      generalize w1.alloc (.cells #[.int .i64 (hiW X), .int .u64 (loW X), .int .i64 (hiW Y), .int .u64 (loW Y), .int .i64 T, .int .i64 cx, .int .i64 cy] 51) = w2 at *
      generalize w1.heap.size = bS at *
      have neS_Z : bS ≠ w.heap.size := by omega
      clear nzS_Z
      have SVW := Lib.hid fun w1 (h : Below w2.heap.size w2 w1) => SV.out w1 (H0.out.below (HB.out.trans (h.mono HB.out.size)))
      have gS_5 := fun d os => cell_regrown (KS.out.c 5 _ rfl) d os
      have gS_6 := fun d os => cell_regrown (KS.out.c 6 _ rfl) d os
      have rv0 := Lib.hid (fun d os => Calls.regrown_of (SVW.out (Go.Sort.grow (redrawn w2 d) os) (below_regrown w2 d os)))
      have rv1 := Lib.hid (fun d os => Calls.regrown_of (RE.out (Go.Sort.grow (redrawn w2 d) os)))
      refine wp_region_quiet_below (by kernel_rfl) (by kernel_rfl) ?_
      repeat (quiet_step (first | with_reducible exact rv0.out _ _ | with_reducible exact rv1.out _ _))
      refine wpQuiet_nil ?_
      intro w9 hw9
      have hb9 : Below w2.heap.size w2 w9 := by
        obtain ⟨⟨dq, osq⟩, hw2⟩ := hw9
        rw [hw2]; exact below_regrown _ dq osq
      clear gS_5 gS_6 rv0 rv1 hw9 SVW
      replace HB := Lib.hid (HB.out.trans (hb9.mono HB.out.size))
      replace KZ := Lib.hid (KZ.out.below hb9)
      replace KS := Lib.hid (KS.out.below hb9)
      clear hb9
      have yZ := KZ.out
      have yZ_0 := yZ.c 0 _ rfl
      have yZ_1 := yZ.c 1 _ rfl
      have yZ_2 := yZ.c 2 _ rfl
      have yZ_3 := yZ.c 3 _ rfl
      have yZ_z := yZ.lt
      have yZ_f0 := yZ.f 0 _ rfl
      have yZ_f1 := yZ.f 1 _ rfl
      have yZ_f2 := yZ.f 2 _ rfl
      have yZ_f3 := yZ.f 3 _ rfl
      clear yZ
      have yS := KS.out
      have yS_0 := yS.c 0 _ rfl
      have yS_1 := yS.c 1 _ rfl
      have yS_2 := yS.c 2 _ rfl
      have yS_3 := yS.c 3 _ rfl
      have yS_4 := yS.c 4 _ rfl
      have yS_5 := yS.c 5 _ rfl
      have yS_6 := yS.c 6 _ rfl
      have yS_z := yS.lt
      clear yS
      go_wp2
      replace KZ := Lib.hid (blk_set (blk_set (blk_set (blk_set KZ.out (j := 0) (by simp) (.int .i64 0)) (j := 1) (by simp) (.int .i64 0)) (j := 2) (by simp) (.int .i64 0)) (j := 3) (by simp) (.int .i64 0))
      replace KS := Lib.hid (blk_other (b := bS) (n := w.heap.size) (j := 3) (blk_other (b := bS) (n := w.heap.size) (j := 2) (blk_other (b := bS) (n := w.heap.size) (j := 1) (blk_other (b := bS) (n := w.heap.size) (j := 0) KS.out (by omega) (.int .i64 0)) (by omega) (.int .i64 0)) (by omega) (.int .i64 0)) (by omega) (.int .i64 0))
      replace HB := Lib.hid ((((HB.out.setCell (p := ⟨w.heap.size, 0, none⟩) (show w.heap.size ≤ w.heap.size by omega) (.int .i64 0)).setCell (p := ⟨w.heap.size, 1, none⟩) (show w.heap.size ≤ w.heap.size by omega) (.int .i64 0)).setCell (p := ⟨w.heap.size, 2, none⟩) (show w.heap.size ≤ w.heap.size by omega) (.int .i64 0)).setCell (p := ⟨w.heap.size, 3, none⟩) (show w.heap.size ≤ w.heap.size by omega) (.int .i64 0))
      clear yZ_0 yZ_1 yZ_2 yZ_3 yZ_z yZ_f0 yZ_f1 yZ_f2 yZ_f3 yS_0 yS_1 yS_2 yS_3 yS_4 yS_5 yS_6 yS_z
      generalize (((w9.setCell ⟨w.heap.size, 0, none⟩ (.int .i64 0)).setCell ⟨w.heap.size, 1, none⟩ (.int .i64 0)).setCell ⟨w.heap.size, 2, none⟩ (.int .i64 0)).setCell ⟨w.heap.size, 3, none⟩ (.int .i64 0) = w10 at *
      simp only [List.set] at KZ
      have yZ := KZ.out
      have yZ_0 := yZ.c 0 _ rfl
      have yZ_1 := yZ.c 1 _ rfl
      have yZ_2 := yZ.c 2 _ rfl
      have yZ_3 := yZ.c 3 _ rfl
      have yZ_z := yZ.lt
      clear yZ
      refine bodyPost_ret (v := .tuple #[.agg #[.int .i64 0, .int .i64 0, .int .i64 0, .int .i64 0], .int .i64 2]) (by simp [results, Tryz.results12, go_sem, yZ_0, yZ_1, yZ_2, yZ_3]) rfl ⟨by rw [HV.out]; rfl, HB.out⟩
  · have SO := Lib.hid fun w h => sol_bad l (.slice p l.length cap) w h hs
    have HV : Hid (accF l = (box0, solE l)) := Lib.hid (by unfold accF; rw [if_neg hs])
    have g : (solE l != 0) = true := by simpa using hs
    have g' : (solE l == 0) = false := by simpa using hs
    clear hs
    generalize solE l = c at *
    have H0 := Lib.hid h
    have KZ := Lib.hid (Blk.of (vs := #[.int .i64 0, .int .i64 0, .int .i64 0, .int .i64 0]) (t := 28) (w := w) (b := w.heap.size) (by simp))
    have HB := Lib.hid ((Below.refl w.heap.size w).alloc (by simp; try omega) (.cells #[.int .i64 0, .int .i64 0, .int .i64 0, .int .i64 0] 28))
    go_enter Tryz.func12, Tryz.ntmps12
    clear h
    go_wp2_with fail
    generalize w.alloc (.cells #[.int .i64 0, .int .i64 0, .int .i64 0, .int .i64 0] 28) = w0 at *
    refine (SO.out _ (H0.out.below HB.out)).mono ?_
    rintro e1 w1 ⟨rfl, hb1⟩
    replace HB := Lib.hid (HB.out.trans (hb1.mono HB.out.size))
    replace KZ := Lib.hid (KZ.out.below hb1)
    clear hb1
    have yZ := KZ.out
    have yZ_0 := yZ.c 0 _ rfl
    have yZ_1 := yZ.c 1 _ rfl
    have yZ_2 := yZ.c 2 _ rfl
    have yZ_3 := yZ.c 3 _ rfl
    have yZ_z := yZ.lt
    have yZ_f0 := yZ.f 0 _ rfl
    have yZ_f1 := yZ.f 1 _ rfl
    have yZ_f2 := yZ.f 2 _ rfl
    have yZ_f3 := yZ.f 3 _ rfl
    clear yZ
    go_wp2
    replace KZ := Lib.hid (blk_set (blk_set (blk_set (blk_set KZ.out (j := 0) (by simp) (.int .i64 0)) (j := 1) (by simp) (.int .i64 0)) (j := 2) (by simp) (.int .i64 0)) (j := 3) (by simp) (.int .i64 0))
    replace HB := Lib.hid ((((HB.out.setCell (p := ⟨w.heap.size, 0, none⟩) (show w.heap.size ≤ w.heap.size by omega) (.int .i64 0)).setCell (p := ⟨w.heap.size, 1, none⟩) (show w.heap.size ≤ w.heap.size by omega) (.int .i64 0)).setCell (p := ⟨w.heap.size, 2, none⟩) (show w.heap.size ≤ w.heap.size by omega) (.int .i64 0)).setCell (p := ⟨w.heap.size, 3, none⟩) (show w.heap.size ≤ w.heap.size by omega) (.int .i64 0))
    clear yZ_0 yZ_1 yZ_2 yZ_3 yZ_z yZ_f0 yZ_f1 yZ_f2 yZ_f3
    generalize (((w1.setCell ⟨w.heap.size, 0, none⟩ (.int .i64 0)).setCell ⟨w.heap.size, 1, none⟩ (.int .i64 0)).setCell ⟨w.heap.size, 2, none⟩ (.int .i64 0)).setCell ⟨w.heap.size, 3, none⟩ (.int .i64 0) = w2 at *
    simp only [List.set] at KZ
    have KS := Lib.hid (Blk.of (vs := #[.int .i64 0, .int .u64 0, .int .i64 0, .int .u64 0, .int .i64 0, .int .i64 0, .int .i64 0]) (t := 51) (w := w2) (b := w2.heap.size) rfl)
    have hb3 : Below w2.heap.size w2 (w2.alloc (.cells #[.int .i64 0, .int .u64 0, .int .i64 0, .int .u64 0, .int .i64 0, .int .i64 0, .int .i64 0] 51)) := (Below.refl _ _).alloc (Nat.le_refl _) _
    have hnS := HB.out.size
    have nzS_Z := KZ.out.lt
    replace HB := Lib.hid (HB.out.trans (hb3.mono HB.out.size))
    replace KZ := Lib.hid (KZ.out.below hb3)
    clear hb3
    generalize w2.alloc (.cells #[.int .i64 0, .int .u64 0, .int .i64 0, .int .u64 0, .int .i64 0, .int .i64 0, .int .i64 0] 51) = w3 at *
    generalize w2.heap.size = bS at *
    have neS_Z : bS ≠ w.heap.size := by omega
    clear nzS_Z
    have yZ := KZ.out
    have yZ_0 := yZ.c 0 _ rfl
    have yZ_1 := yZ.c 1 _ rfl
    have yZ_2 := yZ.c 2 _ rfl
    have yZ_3 := yZ.c 3 _ rfl
    have yZ_z := yZ.lt
    clear yZ
    refine bodyPost_ret (v := .tuple #[.agg #[.int .i64 0, .int .i64 0, .int .i64 0, .int .i64 0], .int .i64 c]) (by simp [results, Tryz.results12, go_sem, yZ_0, yZ_1, yZ_2, yZ_3]) rfl ⟨by rw [HV.out]; rfl, HB.out⟩
end Go.Proofs.YtplgdlooglnpmaaGreat
namespace Go.Proofs.YtplgdlooglnpmaaGreat
set_option linter.unusedVariables false
open Go.RowKit
def inC (l : List Int) : List Value := l.map (Value.int .i64)
/-- a slice of the call's own that holds these integers -/
def OI (B : Nat) (w : World) (v : Value) (l : List Int) : Prop := w.ownsRow B 3 1 v l.length (inC l)
theorem infoInt : (Tryz.prog.info? 3).map (fun i => (i.zero, i.size, i.bytes)) = some (some (.int .i64 0), 1, 8) := by kernel_rfl
theorem wpList_oi {ops : Array Oper} {rest : List Oper} {o : Oper} {a : Act} {Q : Exit → Act → World → Prop} (hgd : o.guard = none) (s x : Operand)
    (ho : o.op = .call { callee := .builtin .append, args := #[s, x], argTypes := #[55, 55] })
    (B : Nat) (v : Value) (l : List Int) (hs : a.eval s = v) (w0 : World) (h : OI B w0 v l) (T : TypeId) (p : Int) (c : Nat)
    (hx : a.eval x = .slice (some ⟨w0.heap.size, 0, none⟩) 1 c) (hl : l.length ≤ 100000) (hB : B ≤ w0.heap.size)
    (H : ∀ v' w', OI B w' v' (l ++ [p]) → (w0.alloc (.cells #[.int .i64 p] T)).grownBy w' v.ownBlock → (v'.ownBlock = v.ownBlock ∨ v'.ownBlock = some (w0.heap.size + 1)) → wpList Tryz.prog ops Q rest (a.put o.dst v') w') :
    wpList Tryz.prog ops Q (o :: rest) a (w0.alloc (.cells #[.int .i64 p] T)) := by
  obtain ⟨i0, hi, hz0, hz1, hz2⟩ := info_parts infoInt
  refine wpList_append_own_at _ hgd s x 55 ho B 3 i0 (.int .i64 0) 1 8 Tryz.underlying55 hi hz0 hz1 hz2 rfl (by decide) v l.length (inC l) hs (World.ownsRow.alloc h _) ⟨w0.heap.size, 0, none⟩ 1 c (inC [p]) hx (by unfold inC; rfl) ?_ ?_ (by unfold maxLen; omega) (by omega) (by simp; omega) ?_
  · intro j u hu
    have hadd : (⟨w0.heap.size, 0, none⟩ : Addr).add j = ⟨w0.heap.size, j, none⟩ := by unfold Addr.add; split <;> simp_all
    rw [hadd, World.cell?_alloc_at _ _ _ _ (by rfl)]
    unfold inC at hu
    simpa using hu
  · intro u hu
    unfold inC at hu
    simp only [List.map_cons, List.map_nil, List.mem_cons, List.not_mem_nil, or_false] at hu
    subst hu
    rfl
  · intro v' w' ho' hg _ hat
    refine H v' w' (by unfold OI inC; rw [List.length_append, List.map_append]; exact ho') hg ?_
    simpa using hat
structure IntsAt (l : List Int) (g : Nat) (w : World) : Prop where
  lt : g < w.heap.size
  c : ∀ i, i < l.length → w.cell? ⟨g, i, none⟩ = some (.int .i64 (l.getD i 0))
theorem IntsAt.below {l : List Int} {g : Nat} {w w' : World} (h : IntsAt l g w) (hb : Below w.heap.size w w') : IntsAt l g w' :=
  ⟨Nat.lt_of_lt_of_le h.lt hb.size, fun i hi => (hb.cell (p := ⟨g, i, none⟩) h.lt).trans (h.c i hi)⟩
theorem oi_cases {B : Nat} {w : World} {v : Value} {l : List Int} (h : OI B w v l) : (v = .slice none 0 0 ∧ l = []) ∨ ∃ g cap, v = .slice (some ⟨g, 0, none⟩) l.length cap ∧ l.length ≤ cap ∧ cap ≤ 9223372036854775807 ∧ B ≤ g ∧ IntsAt l g w := by
  obtain ⟨h1, h2⟩ := h
  rcases h2 with ⟨rfl, hn⟩ | ⟨g, cap, cur, rfl, hb, hg, hc, hm, hs, ht⟩
  · exact .inl ⟨rfl, List.eq_nil_of_length_eq_zero hn⟩
  · have hlt : g < w.heap.size := (Array.getElem?_eq_some_iff.1 hg).1
    unfold maxLen at hm
    refine .inr ⟨g, cap, rfl, hc, hm, hb, hlt, fun i hi => ?_⟩
    have e : (inC l)[i]? = some (.int .i64 (l.getD i 0)) := by
      unfold inC
      rw [List.getElem?_map, List.getElem?_eq_getElem hi, List.getD_eq_getElem?_getD, List.getElem?_eq_getElem hi]
      rfl
    rw [← e, ← ht, List.getElem?_take, if_pos (by omega)]
    unfold World.cell?
    rw [hg]
    simp
theorem OI.below {B : Nat} {w w' : World} {v : Value} {l : List Int} (h : OI B w v l) (hb : Below w.heap.size w w') : OI B w' v l := by
  refine World.ownsRow.kept h (grown_of_below hb) ?_
  cases v.ownBlock <;> simp
/-- the first of the integers -/
theorem OI.head {B : Nat} {w : World} {g cap : Nat} {l k : List Int} (h : OI B w (.slice (some ⟨g, 0, none⟩) (l ++ k).length cap) (l ++ k)) : OI B w (.slice (some ⟨g, 0, none⟩) l.length cap) l := by
  obtain ⟨h1, h2⟩ := h
  refine ⟨by unfold inC; simp, ?_⟩
  rcases h2 with ⟨e, _⟩ | ⟨g', cap', cur, e, hb, hg, hc, hm, hs, ht⟩
  · cases e
  · cases e
    refine .inr ⟨_, _, cur, rfl, hb, hg, by simp at hc; omega, hm, hs, ?_⟩
    have e2 : List.take (l.length * 1) (List.take ((l ++ k).length * 1) cur.toList) = List.take (l.length * 1) cur.toList := by
      rw [List.take_take]
      congr 1
      simp
    rw [← e2, ht]
    unfold inC
    rw [List.map_append, List.take_append_of_le_length (by simp), List.take_of_length_le (by simp)]
/-- sorted and compacted -/
theorem sort_own {B : Nat} {w : World} {v : Value} {l : List Int} (h : OI B w v l) (hl : l.length ≤ 100000) (hB : B ≤ w.heap.size) :
    Calls Tryz.prog 51 #[v] w fun e w' => e = .returned (.tuple #[]) ∧ OI B w' v (l.mergeSort fun x y => decide (x ≤ y)) ∧ Below B w w' := by
  obtain ⟨h1, h2⟩ := h
  rcases h2 with ⟨rfl, hn⟩ | ⟨g, cap, cur, rfl, hb, hg, hc, hm, hs, ht⟩
  · obtain rfl := List.eq_nil_of_length_eq_zero hn
    refine (Tryz.slices_Sort_int_none none 0 w).mono ?_
    rintro e w' ⟨rfl, rfl⟩
    exact ⟨rfl, by rw [List.mergeSort_nil]; exact World.ownsRow_nil _ _ _ _, Below.refl _ _⟩
  · have hlt : g < w.heap.size := (Array.getElem?_eq_some_iff.1 hg).1
    refine (Tryz.slices_Sort_int g 0 cap l w (holds_of_blockI hg (by unfold inC at ht; rw [Nat.mul_one] at ht; exact ht)) hlt (by omega)).mono ?_
    rintro e w' ⟨rfl, n, os, rfl⟩
    refine ⟨rfl, ?_, below_grown (Below.refl _ _) (grownBy_sortedI _) hB (fun k hk => by cases hk; exact hb)⟩
    have := ownsRow_sortedI (n := n) (os := os) (ss := l) (ts := l.mergeSort fun x y => decide (x ≤ y)) (by rw [List.length_mergeSort]) hb hg hc hm hs
    unfold OI
    rw [List.length_mergeSort]
    exact this
theorem compact_own {B : Nat} {w : World} {v : Value} {l : List Int} (h : OI B w v l) (hl : l.length ≤ 100000) (hB : B ≤ w.heap.size) :
    Calls Tryz.prog 52 #[v] w fun e w' => (∃ u, e = .returned u ∧ OI B w' u (Lib.compact l)) ∧ Below B w w' := by
  obtain ⟨h1, h2⟩ := h
  rcases h2 with ⟨rfl, hn⟩ | ⟨g, cap, cur, rfl, hb, hg, hc, hm, hs, ht⟩
  · obtain rfl := List.eq_nil_of_length_eq_zero hn
    refine (Tryz.slices_Compact_int_empty none 0 w).mono ?_
    rintro e w' ⟨rfl, rfl⟩
    exact ⟨⟨_, rfl, World.ownsRow_nil _ _ _ _⟩, Below.refl _ _⟩
  · refine (Tryz.slices_Compact_int g 0 cap l w (holds_of_blockI hg (by unfold inC at ht; rw [Nat.mul_one] at ht; exact ht)) (by omega) hc).mono ?_
    rintro e w' ⟨rfl, q, rfl⟩
    have hcl := Lib.compact_length_le l
    have G := grownBy_sortedI (w := w) (g := g) (n := q) (os := #[]) (Lib.compact l ++ List.replicate (l.length - (Lib.compact l).length) 0).toArray
    have hlen : (Lib.compact l ++ List.replicate (l.length - (Lib.compact l).length) 0).length = l.length := by simp; omega
    have O := ownsRow_sortedI (n := q) (os := #[]) (ss := l) (ts := Lib.compact l ++ List.replicate (l.length - (Lib.compact l).length) 0) hlen hb hg hc hm hs
    rw [Sort.grow_empty] at G O
    refine ⟨⟨_, rfl, ?_⟩, below_grown (Below.refl _ _) G hB (fun k hk => by cases hk; exact hb)⟩
    refine OI.head (k := List.replicate (l.length - (Lib.compact l).length) 0) ?_
    unfold OI
    rw [hlen]
    exact O
theorem srcs_succ {l : List Ms} {k : Nat} (h : k < l.length) : (l.take (k + 1)).map Ms.s = (l.take k).map Ms.s ++ [(nth l k).s] := by
  rw [take_nth h, List.map_append]
  rfl
def SrR (l : List Ms) (w : World) (v u : Value) (wr : World) : Prop := ∃ k : Nat, u = .int .i64 k ∧ k ≤ l.length ∧ Hid (Below w.heap.size w wr) ∧ Hid (OI w.heap.size wr v ((l.take k).map Ms.s))
set_option maxHeartbeats 4000000 in
set_option maxRecDepth 100000 in
theorem src_some (l : List Ms) (b o cap : Nat) (w : World) (h : MsAt l b o w) (hc : l.length ≤ cap) (hm : cap ≤ 9223372036854775807) (hl : l.length ≤ 18) :
    Calls Tryz.prog 21 #[.slice (some ⟨b, o, none⟩) l.length cap] w fun e w' => (∃ u, e = .returned u ∧ OI w.heap.size w' u (srcL l)) ∧ Below w.heap.size w w' := by
  have H := Lib.hid h
  have hlt := h.lt
  clear h
  go_enter Tryz.func21, Tryz.ntmps21
  go_wp2
  go_loopw [3, 8] (SrR l w) (fun _ i _ => l.length - (intOf i).toNat)
  case atStart => exact ⟨0, rfl, Nat.zero_le _, Lib.hid (Below.refl _ _), Lib.hid (World.ownsRow_nil _ _ _ _)⟩
  case round =>
    obtain ⟨k, rfl, hk, HB, HO⟩ := hrel
    by_cases q : k < l.length
    · have q' : decide (k < l.length) = true := by simpa using q
      have M := H.out.keep HB.out hlt
      have c0 := M.c0 k q
      have c1 := M.c1 k q
      have c2 := M.c2 k q
      have c3 := M.c3 k q
      have c4 := M.c4 k q
      have c5 := M.c5 k q
      have WS := Lib.hid (srcs_succ q)
      have SZ := Lib.hid (show ((l.take k).map Ms.s).length ≤ 100000 by rw [List.length_map, List.length_take]; omega)
      have HS := Lib.hid HB.out.size
      clear M
      generalize hp : nth l k = p at *
      clear hp
      have HA := Lib.hid ((Below.refl wr.heap.size wr).alloc (Nat.le_refl _) (.cells #[.int .i64 p.s, .int .i64 p.a, .int .i64 p.b, .int .i64 p.z, .int .i64 p.d, .int .i64 p.w] 70))
      go_wp2_with (at_builtin; refine Halt.mk ?_)
      unfold Halt
      refine wpList_oi rfl (.tmp 12) (.tmp 15) rfl w.heap.size u3 ((l.take k).map Ms.s) rfl (wr.alloc (.cells #[.int .i64 p.s, .int .i64 p.a, .int .i64 p.b, .int .i64 p.z, .int .i64 p.d, .int .i64 p.w] 70)) (HO.out.below HA.out) _ p.s 1 (by rw [World.size_alloc]; rfl) SZ.out (by have := HS.out; simp; omega) ?_
      intro u2 w5 ho5 hg5 hat5
      have HO5 : Hid (OI w.heap.size w5 u2 ((l.take (k + 1)).map Ms.s)) := Lib.hid (by rw [WS.out]; exact ho5)
      have HB5 : Hid (Below w.heap.size w w5) := Lib.hid (below_grown ((HB.out.trans (HA.out.mono HS.out)).alloc (by simp; have := HS.out; omega) _) hg5 (by simp; have := HS.out; omega) (fun k hk => (World.ownsRow.lt HO.out k hk).1))
      clear hg5 hat5 c0 c1 c2 c3 c4 c5
      obtain ⟨g5, cap5, hu2⟩ := Go.Joins.ownsRow_form ho5 (show 0 < ((l.take k).map Ms.s ++ [p.s]).length by rw [List.length_append, List.length_singleton]; omega)
      obtain ⟨N5, hN5⟩ : ∃ N, ((l.take k).map Ms.s ++ [p.s]).length = N := ⟨_, rfl⟩
      rw [hN5] at hu2
      clear ho5 hN5
      subst hu2
      go_wp2
      go_roundw
      case rel => exact ⟨k + 1, by go_num, by omega, HB5, HO5⟩
      case measure => simp [intOf]; omega
    · obtain rfl : k = l.length := by omega
      rw [List.take_length] at HO
      have HS := HB.out.size
      have L1 : (l.map Ms.s).length ≤ 100000 := by rw [List.length_map]; omega
      have L2 : (srtL l).length ≤ 100000 := by rw [srt_len]; omega
      have SO := Lib.hid (sort_own HO.out L1 HS)
      have CO := Lib.hid fun w1 (h : OI w.heap.size w1 u3 (srtL l)) (hs : w.heap.size ≤ w1.heap.size) => compact_own h L2 hs
      have FM : (∃ x y z, u3 = .slice x y z) := by
        rcases oi_cases HO.out with ⟨h, _⟩ | ⟨g, cap', h, _⟩
        · exact ⟨_, _, _, h⟩
        · exact ⟨_, _, _, h⟩
      obtain ⟨x3, y3, z3, rfl⟩ := FM
      clear HO
      go_wp2_with fail
      refine SO.out.mono ?_
      rintro e w1 ⟨rfl, ho1, hb1⟩
      have C1 := Lib.hid (CO.out w1 ho1 (Nat.le_trans HS hb1.size))
      have HB1 := Lib.hid (HB.out.trans hb1)
      clear ho1 hb1
      go_wp2_with fail
      refine C1.out.mono ?_
      rintro e w2 ⟨⟨u, rfl, ho2⟩, hb2⟩
      have HB2 := Lib.hid (HB1.out.trans hb2)
      have HO2 : Hid (OI w.heap.size w2 u (srcL l)) := Lib.hid ho2
      clear hb2
      have FM : (∃ x y z, u = .slice x y z) := by
        rcases oi_cases ho2 with ⟨h, _⟩ | ⟨g, cap', h, _⟩
        · exact ⟨_, _, _, h⟩
        · exact ⟨_, _, _, h⟩
      obtain ⟨x4, y4, z4, rfl⟩ := FM
      clear ho2
      go_wp2
      go_ret
      exact ⟨⟨_, rfl, HO2.out⟩, HB2.out⟩
theorem src_nil (w : World) :
    Calls Tryz.prog 21 #[.slice none 0 0] w fun e w' => (∃ u, e = .returned u ∧ OI w.heap.size w' u (srcL [])) ∧ Below w.heap.size w w' := by
  have SO := Lib.hid (Tryz.slices_Sort_int_none none 0 w)
  have CO := Lib.hid (Tryz.slices_Compact_int_empty none 0 w)
  go_enter Tryz.func21, Tryz.ntmps21
  go_wp2
  go_loop [3, 8] (fun u v => u = .slice none 0 0 ∧ v = .int .i64 0) (fun _ _ => 0)
  case atStart => exact ⟨rfl, rfl⟩
  case round =>
    obtain ⟨rfl, rfl⟩ := hrel
    go_wp2_with fail
    refine SO.out.mono ?_
    rintro e w1 ⟨rfl, rfl⟩
    go_wp2_with fail
    refine CO.out.mono ?_
    rintro e w2 ⟨rfl, rfl⟩
    go_wp2
    go_ret
    have e : srcL [] = [] := by unfold srcL srtL; rw [List.map_nil, List.mergeSort_nil]; rfl
    exact ⟨⟨_, rfl, by rw [e]; exact World.ownsRow_nil _ _ _ _⟩, Below.refl _ _⟩
theorem src_any (l : List Ms) (v : Value) (w : World) (h : LstAt l v w) (hl : l.length ≤ 18) :
    Calls Tryz.prog 21 #[v] w fun e w' => (∃ u, e = .returned u ∧ OI w.heap.size w' u (srcL l)) ∧ Below w.heap.size w w' := by
  rcases h with ⟨rfl, rfl⟩ | ⟨b, o, cap, rfl, h2, h3, h4⟩
  · exact src_nil w
  · exact src_some l b o cap w h4 h2 h3 hl
end Go.Proofs.YtplgdlooglnpmaaGreat
namespace Go.Proofs.YtplgdlooglnpmaaGreat
set_option linter.unusedVariables false
open Go.RowKit
/-- an exact solution with its noise -/
structure Ex where
  x : Int
  y : Int
  u : Int
  v : Int
  t : Int
def ex0 : Ex := ⟨0, 0, 0, 0, 0⟩
def nthE (l : List Ex) (i : Nat) : Ex := l.getD i ex0
theorem nthE_eq {l : List Ex} {i : Nat} (h : i < l.length) : nthE l i = l[i] := by
  unfold nthE
  rw [List.getD_eq_getElem?_getD, List.getElem?_eq_getElem h]
  rfl
def exC (l : List Ex) : List Value := l.flatMap fun m => [Value.int .i64 (hiW m.x), Value.int .u64 (loW m.x), Value.int .i64 (hiW m.y), Value.int .u64 (loW m.y), Value.int .i64 (hiW m.u), Value.int .u64 (loW m.u), Value.int .i64 (hiW m.v), Value.int .u64 (loW m.v), Value.int .i64 m.t]
theorem exC_append (l k : List Ex) : exC (l ++ k) = exC l ++ exC k := by unfold exC; rw [List.flatMap_append]
theorem exC_len (l : List Ex) : (exC l).length = l.length * 9 := by
  induction l with
  | nil => rfl
  | cons m r ih =>
    unfold exC at *
    rw [List.flatMap_cons, List.length_append, ih]
    simp
    omega
theorem exC_get : ∀ (l : List Ex) (i : Nat) (h : i < l.length), (exC l)[i * 9]? = some (.int .i64 (hiW l[i].x)) ∧ (exC l)[i * 9 + 1]? = some (.int .u64 (loW l[i].x)) ∧ (exC l)[i * 9 + 2]? = some (.int .i64 (hiW l[i].y)) ∧ (exC l)[i * 9 + 3]? = some (.int .u64 (loW l[i].y)) ∧ (exC l)[i * 9 + 4]? = some (.int .i64 (hiW l[i].u)) ∧ (exC l)[i * 9 + 5]? = some (.int .u64 (loW l[i].u)) ∧ (exC l)[i * 9 + 6]? = some (.int .i64 (hiW l[i].v)) ∧ (exC l)[i * 9 + 7]? = some (.int .u64 (loW l[i].v)) ∧ (exC l)[i * 9 + 8]? = some (.int .i64 l[i].t)
  | [], i, h => absurd h (by simp)
  | p :: l, 0, h => ⟨rfl, rfl, rfl, rfl, rfl, rfl, rfl, rfl, rfl⟩
  | p :: l, i + 1, h => by
    obtain ⟨a, b, c, d, e, f, g, h, k⟩ := exC_get l i (by simpa using h)
    unfold exC at *
    rw [List.flatMap_cons, show (i + 1) * 9 = i * 9 + 9 by omega]
    exact ⟨a, b, c, d, e, f, g, h, k⟩
/-- a slice of the call's own that holds these solutions -/
def OE (B : Nat) (w : World) (v : Value) (l : List Ex) : Prop := w.ownsRow B 58 9 v l.length (exC l)
theorem infoEx : (Tryz.prog.info? 58).map (fun i => (i.zero, i.size, i.bytes)) = some (some (.agg #[.int .i64 0, .int .u64 0, .int .i64 0, .int .u64 0, .int .i64 0, .int .u64 0, .int .i64 0, .int .u64 0, .int .i64 0]), 9, 72) := by kernel_rfl
theorem wpList_oe {ops : Array Oper} {rest : List Oper} {o : Oper} {a : Act} {Q : Exit → Act → World → Prop} (hgd : o.guard = none) (s x : Operand)
    (ho : o.op = .call { callee := .builtin .append, args := #[s, x], argTypes := #[54, 54] })
    (B : Nat) (v : Value) (l : List Ex) (hs : a.eval s = v) (w0 : World) (h : OE B w0 v l) (T : TypeId) (p : Ex) (c : Nat)
    (hx : a.eval x = .slice (some ⟨w0.heap.size, 0, none⟩) 1 c) (hl : l.length ≤ 100000) (hB : B ≤ w0.heap.size)
    (H : ∀ v' w', OE B w' v' (l ++ [p]) → (w0.alloc (.cells #[.int .i64 (hiW p.x), .int .u64 (loW p.x), .int .i64 (hiW p.y), .int .u64 (loW p.y), .int .i64 (hiW p.u), .int .u64 (loW p.u), .int .i64 (hiW p.v), .int .u64 (loW p.v), .int .i64 p.t] T)).grownBy w' v.ownBlock → (v'.ownBlock = v.ownBlock ∨ v'.ownBlock = some (w0.heap.size + 1)) → wpList Tryz.prog ops Q rest (a.put o.dst v') w') :
    wpList Tryz.prog ops Q (o :: rest) a (w0.alloc (.cells #[.int .i64 (hiW p.x), .int .u64 (loW p.x), .int .i64 (hiW p.y), .int .u64 (loW p.y), .int .i64 (hiW p.u), .int .u64 (loW p.u), .int .i64 (hiW p.v), .int .u64 (loW p.v), .int .i64 p.t] T)) := by
  obtain ⟨i0, hi, hz0, hz1, hz2⟩ := info_parts infoEx
  refine wpList_append_own_at _ hgd s x 54 ho B 58 i0 (.agg #[.int .i64 0, .int .u64 0, .int .i64 0, .int .u64 0, .int .i64 0, .int .u64 0, .int .i64 0, .int .u64 0, .int .i64 0]) 9 72 Tryz.underlying54 hi hz0 hz1 hz2 rfl (by decide) v l.length (exC l) hs (World.ownsRow.alloc h _) ⟨w0.heap.size, 0, none⟩ 1 c (exC [p]) hx (by rw [exC_len]; rfl) ?_ ?_ (by unfold maxLen; omega) (by omega) (by simp; omega) ?_
  · intro j u hu
    have hadd : (⟨w0.heap.size, 0, none⟩ : Addr).add j = ⟨w0.heap.size, j, none⟩ := by unfold Addr.add; split <;> simp_all
    rw [hadd, World.cell?_alloc_at _ _ _ _ (by rfl)]
    unfold exC at hu
    simpa using hu
  · intro u hu
    unfold exC at hu
    simp only [List.flatMap_cons, List.flatMap_nil, List.append_nil, List.mem_cons, List.not_mem_nil, or_false] at hu
    rcases hu with rfl | rfl | rfl | rfl | rfl | rfl | rfl | rfl | rfl <;> rfl
  · intro v' w' ho' hg _ hat
    refine H v' w' (by unfold OE; rw [List.length_append, exC_append]; exact ho') hg ?_
    simpa using hat
structure ExAt (l : List Ex) (g : Nat) (w : World) : Prop where
  lt : g < w.heap.size
  c0 : ∀ i, i < l.length → w.cell? ⟨g, i * 9, none⟩ = some (.int .i64 (hiW (nthE l i).x))
  c1 : ∀ i, i < l.length → w.cell? ⟨g, i * 9 + 1, none⟩ = some (.int .u64 (loW (nthE l i).x))
  c2 : ∀ i, i < l.length → w.cell? ⟨g, i * 9 + 2, none⟩ = some (.int .i64 (hiW (nthE l i).y))
  c3 : ∀ i, i < l.length → w.cell? ⟨g, i * 9 + 3, none⟩ = some (.int .u64 (loW (nthE l i).y))
  c4 : ∀ i, i < l.length → w.cell? ⟨g, i * 9 + 4, none⟩ = some (.int .i64 (hiW (nthE l i).u))
  c5 : ∀ i, i < l.length → w.cell? ⟨g, i * 9 + 5, none⟩ = some (.int .u64 (loW (nthE l i).u))
  c6 : ∀ i, i < l.length → w.cell? ⟨g, i * 9 + 6, none⟩ = some (.int .i64 (hiW (nthE l i).v))
  c7 : ∀ i, i < l.length → w.cell? ⟨g, i * 9 + 7, none⟩ = some (.int .u64 (loW (nthE l i).v))
  c8 : ∀ i, i < l.length → w.cell? ⟨g, i * 9 + 8, none⟩ = some (.int .i64 (nthE l i).t)
theorem ExAt.below {l : List Ex} {g : Nat} {w w' : World} (h : ExAt l g w) (hb : Below w.heap.size w w') : ExAt l g w' :=
  ⟨Nat.lt_of_lt_of_le h.lt hb.size, fun i hi => (hb.cell (p := ⟨g, i * 9, none⟩) h.lt).trans (h.c0 i hi), fun i hi => (hb.cell (p := ⟨g, i * 9 + 1, none⟩) h.lt).trans (h.c1 i hi), fun i hi => (hb.cell (p := ⟨g, i * 9 + 2, none⟩) h.lt).trans (h.c2 i hi), fun i hi => (hb.cell (p := ⟨g, i * 9 + 3, none⟩) h.lt).trans (h.c3 i hi), fun i hi => (hb.cell (p := ⟨g, i * 9 + 4, none⟩) h.lt).trans (h.c4 i hi), fun i hi => (hb.cell (p := ⟨g, i * 9 + 5, none⟩) h.lt).trans (h.c5 i hi), fun i hi => (hb.cell (p := ⟨g, i * 9 + 6, none⟩) h.lt).trans (h.c6 i hi), fun i hi => (hb.cell (p := ⟨g, i * 9 + 7, none⟩) h.lt).trans (h.c7 i hi), fun i hi => (hb.cell (p := ⟨g, i * 9 + 8, none⟩) h.lt).trans (h.c8 i hi)⟩
theorem oe_cases {B : Nat} {w : World} {v : Value} {l : List Ex} (h : OE B w v l) : (v = .slice none 0 0 ∧ l = []) ∨ ∃ g cap, v = .slice (some ⟨g, 0, none⟩) l.length cap ∧ l.length ≤ cap ∧ cap ≤ 9223372036854775807 ∧ ExAt l g w := by
  obtain ⟨h1, h2⟩ := h
  rcases h2 with ⟨rfl, hn⟩ | ⟨g, cap, cur, rfl, hb, hg, hc, hm, hs, ht⟩
  · exact .inl ⟨rfl, List.eq_nil_of_length_eq_zero hn⟩
  · have hlt : g < w.heap.size := (Array.getElem?_eq_some_iff.1 hg).1
    have hget : ∀ j, j < l.length * 9 → w.cell? ⟨g, j, none⟩ = (exC l)[j]? := fun j hj => by
      rw [← ht, List.getElem?_take, if_pos hj]
      unfold World.cell?
      rw [hg]
      simp
    unfold maxLen at hm
    refine .inr ⟨g, cap, rfl, hc, hm, ⟨hlt, fun i hi => ?_, fun i hi => ?_, fun i hi => ?_, fun i hi => ?_, fun i hi => ?_, fun i hi => ?_, fun i hi => ?_, fun i hi => ?_, fun i hi => ?_⟩⟩
    · rw [hget _ (by omega), nthE_eq hi]; exact (exC_get l i hi).1
    · rw [hget _ (by omega), nthE_eq hi]; exact (exC_get l i hi).2.1
    · rw [hget _ (by omega), nthE_eq hi]; exact (exC_get l i hi).2.2.1
    · rw [hget _ (by omega), nthE_eq hi]; exact (exC_get l i hi).2.2.2.1
    · rw [hget _ (by omega), nthE_eq hi]; exact (exC_get l i hi).2.2.2.2.1
    · rw [hget _ (by omega), nthE_eq hi]; exact (exC_get l i hi).2.2.2.2.2.1
    · rw [hget _ (by omega), nthE_eq hi]; exact (exC_get l i hi).2.2.2.2.2.2.1
    · rw [hget _ (by omega), nthE_eq hi]; exact (exC_get l i hi).2.2.2.2.2.2.2.1
    · rw [hget _ (by omega), nthE_eq hi]; exact (exC_get l i hi).2.2.2.2.2.2.2.2
theorem oe_form {B : Nat} {w : World} {v : Value} {l : List Ex} (h : OE B w v l) : ∃ p cap, v = .slice p l.length cap := by
  rcases oe_cases h with ⟨rfl, rfl⟩ | ⟨g, cap, rfl, _⟩
  · exact ⟨none, 0, rfl⟩
  · exact ⟨_, _, rfl⟩
theorem oe_at {B : Nat} {w : World} {p : Option Addr} {cap : Nat} {l : List Ex} (h : OE B w (.slice p l.length cap) l) {k : Nat} (q : k < l.length) : ∃ g, p = some ⟨g, 0, none⟩ ∧ l.length ≤ cap ∧ cap ≤ 9223372036854775807 ∧ ExAt l g w := by
  rcases oe_cases h with ⟨_, rfl⟩ | ⟨g, cap', e, h2, h3, h4⟩
  · exact absurd q (by simp)
  · injection e with e1 e2 e3
    subst e3
    exact ⟨g, e1, h2, h3, h4⟩
theorem OE.below {B : Nat} {w w' : World} {v : Value} {l : List Ex} (h : OE B w v l) (hb : Below w.heap.size w w') : OE B w' v l := by
  refine World.ownsRow.kept h (grown_of_below hb) ?_
  cases v.ownBlock <;> simp
theorem max_snoc (f : Int → Int) (zs : List Int) (z : Int) : maxF f (zs ++ [z]) = max (maxF f zs) (f z) := by
  induction zs with
  | nil => simp only [List.nil_append, maxF]; omega
  | cons a r ih => simp only [List.cons_append, maxF, ih]; omega
end Go.Proofs.YtplgdlooglnpmaaGreat
namespace Go.Proofs.YtplgdlooglnpmaaGreat
set_option linter.unusedVariables false
open Go.RowKit
def exW (l : List Ms) (k : Int) : Ex := ⟨solX (woL l k), solY (woL l k), noiX (woL l k), noiY (woL l k), detN (woL l k)⟩
def rowsL (l : List Ms) (ks : List Int) : List Ex := ks.map (exW l)
theorem rows_len (l : List Ms) (ks : List Int) : (rowsL l ks).length = ks.length := List.length_map ..
theorem take_int {ks : List Int} {k : Nat} (h : k < ks.length) : ks.take (k + 1) = ks.take k ++ [ks.getD k 0] := by
  rw [List.take_add_one, List.getD_eq_getElem?_getD, List.getElem?_eq_getElem h]
  rfl
theorem rows_succ (l : List Ms) {ks : List Int} {k : Nat} (h : k < ks.length) : rowsL l (ks.take (k + 1)) = rowsL l (ks.take k) ++ [exW l (ks.getD k 0)] := by
  unfold rowsL
  rw [take_int h, List.map_append]
  rfl
theorem rows_nth (l : List Ms) {ks : List Int} {k : Nat} (h : k < ks.length) : nthE (rowsL l ks) k = exW l (ks.getD k 0) := by
  rw [nthE_eq (by rw [rows_len]; exact h)]
  unfold rowsL
  rw [List.getElem_map, List.getD_eq_getElem?_getD, List.getElem?_eq_getElem h]
  rfl
/-- the parts that Level has gathered -/
def LvR1 (l : List Ms) (K : List Int) (W : World) (u s : Value) (wr : World) : Prop := ∃ k : Nat, s = .int .i64 k ∧ k ≤ K.length ∧ Hid (Below W.heap.size W wr) ∧ Hid (OE W.heap.size wr u (rowsL l (K.take k))) ∧ Hid (∀ i, i < k → detN (woL l (K.getD i 0)) ≠ 0)
def mxF (l : List Ms) (cx cy : Int) (k : Int) : Int := (reachF cx cy (woL l k)).1.1
def myF (l : List Ms) (cx cy : Int) (k : Int) : Int := (reachF cx cy (woL l k)).1.2
def LvR2 (l : List Ms) (K : List Int) (cx cy : Int) (bb : Nat) (W : World) (s : Value) (wr : World) : Prop := ∃ k : Nat, s = .int .i64 k ∧ k ≤ K.length ∧ Hid (Below bb W wr) ∧ Hid (Blk [.int .i64 cx, .int .i64 cy, .int .i64 (maxF (mxF l cx cy) (K.take k)), .int .i64 (maxF (myF l cx cy) (K.take k))] bb wr) ∧ Hid (∀ i, i < k → (reachF cx cy (woL l (K.getD i 0))).2 = 0)
theorem chk_wo {l : List Ms} (h : chkL l = 0) (k : Int) : chkL (woL l k) = 0 := by
  have o := (okL_of h).wo k
  exact chkL_of o.len o.ok
theorem getD_mem {K : List Int} {i : Nat} (h : i < K.length) : K.getD i 0 ∈ K := by
  rw [List.getD_eq_getElem?_getD, List.getElem?_eq_getElem h]
  exact List.getElem_mem h
theorem mem_getD {K : List Int} {x : Int} (h : x ∈ K) : ∃ i, i < K.length ∧ K.getD i 0 = x := by
  obtain ⟨i, hi, e⟩ := List.getElem_of_mem h
  exact ⟨i, hi, by rw [List.getD_eq_getElem?_getD, List.getElem?_eq_getElem hi]; exact e⟩
theorem blk_keep {vs : List Value} {b B : Nat} {W w' : World} (h : Blk vs b W) (hb : Below B W w') (hB : b < B) : Blk vs b w' :=
  ⟨Nat.lt_of_lt_of_le h.lt hb.size, fun i v e => (hb.cell (p := ⟨b, i, none⟩) hB).trans (h.c i v e), fun i v e => (hb.frozen (p := ⟨b, i, none⟩) hB).trans (h.f i v e)⟩
theorem ex_keep {l : List Ex} {g B : Nat} {w w' : World} (h : ExAt l g w) (hb : Below B w w') (hB : g < B) : ExAt l g w' :=
  ⟨Nat.lt_of_lt_of_le h.lt hb.size, fun i hi => (hb.cell (p := ⟨g, i * 9, none⟩) hB).trans (h.c0 i hi), fun i hi => (hb.cell (p := ⟨g, i * 9 + 1, none⟩) hB).trans (h.c1 i hi), fun i hi => (hb.cell (p := ⟨g, i * 9 + 2, none⟩) hB).trans (h.c2 i hi), fun i hi => (hb.cell (p := ⟨g, i * 9 + 3, none⟩) hB).trans (h.c3 i hi), fun i hi => (hb.cell (p := ⟨g, i * 9 + 4, none⟩) hB).trans (h.c4 i hi), fun i hi => (hb.cell (p := ⟨g, i * 9 + 5, none⟩) hB).trans (h.c5 i hi), fun i hi => (hb.cell (p := ⟨g, i * 9 + 6, none⟩) hB).trans (h.c6 i hi), fun i hi => (hb.cell (p := ⟨g, i * 9 + 7, none⟩) hB).trans (h.c7 i hi), fun i hi => (hb.cell (p := ⟨g, i * 9 + 8, none⟩) hB).trans (h.c8 i hi)⟩
theorem lev_rank {l : List Ms} (hs : solE l = 0) {k : Int} (h : k ∈ srcL l) (hd : detN (woL l k) = 0) : levF l = (box0, 14) := by
  unfold levF
  rw [if_pos hs, if_pos]
  exact List.any_eq_true.2 ⟨k, h, by unfold rankB; exact decide_eq_true hd⟩
theorem lev_wide {l : List Ms} (hs : solE l = 0) (hr : ∀ i, i < (srcL l).length → detN (woL l ((srcL l).getD i 0)) ≠ 0) {k : Int} (h : k ∈ srcL l) (hw : (reachF (cenX l) (cenY l) (woL l k)).2 ≠ 0) : levF l = (box0, 2) := by
  unfold levF
  rw [if_pos hs, if_neg, if_pos]
  · exact List.any_eq_true.2 ⟨k, h, by unfold wideB; exact decide_eq_true hw⟩
  · intro q
    obtain ⟨z, hz, e⟩ := List.any_eq_true.1 q
    obtain ⟨i, hi, rfl⟩ := mem_getD hz
    exact hr i hi (of_decide_eq_true e)
theorem lev_good {l : List Ms} (hs : solE l = 0) (hr : ∀ i, i < (srcL l).length → detN (woL l ((srcL l).getD i 0)) ≠ 0) (hw : ∀ i, i < (srcL l).length → (reachF (cenX l) (cenY l) (woL l ((srcL l).getD i 0))).2 = 0) :
    levF l = (⟨cenX l, cenY l, maxF (mxF l (cenX l) (cenY l)) (srcL l), maxF (myF l (cenX l) (cenY l)) (srcL l)⟩, 0) := by
  refine lev_val ⟨hs, fun k hk => ?_, fun k hk => ?_⟩
  · obtain ⟨i, hi, rfl⟩ := mem_getD hk
    exact hr i hi
  · obtain ⟨i, hi, rfl⟩ := mem_getD hk
    exact hw i hi
set_option maxHeartbeats 40000000 in
set_option maxRecDepth 100000 in
theorem lev_any (l : List Ms) (v : Value) (w : World) (h : LstAt l v w) :
    Calls Tryz.prog 8 #[v] w fun e w' => e = .returned (.tuple #[boxV (levF l).1, .int .i64 (levF l).2]) ∧ Below w.heap.size w w' := by
  obtain ⟨p, cap, rfl⟩ := lst_form h
  by_cases hs : solE l = 0
  · obtain ⟨hc, hd, hx, hy⟩ := sol_chk hs
    have SO := Lib.hid fun w h => sol_ok l (.slice p l.length cap) w h hs
    have L18 := Lib.hid (show l.length ≤ 18 by have := (okL_of hc).len; omega)
    have SR := Lib.hid fun w h => src_any l (.slice p l.length cap) w h L18.out
    have HC := Lib.hid hc
    have EV1 := Lib.hid fun k (h : k ∈ srcL l) hd => lev_rank hs h hd
    have EV2 := Lib.hid fun hr k (h : k ∈ srcL l) hw => lev_wide hs hr h hw
    have EV3 := Lib.hid fun hr hw => lev_good hs hr hw
    have RE := Lib.hid fun k (hd : detN (woL l k) ≠ 0) w => reachL_any ((okL_of hc).wo k) (det_pos (chk_wo hc k) hd) hx hy w
    have KM := Lib.hid fun k (h : k < (srcL l).length) => getD_mem h
    have KL := Lib.hid (show (srcL l).length ≤ 18 from Nat.le_trans (src_len l) L18.out)
    clear hs hc hd hx hy
    generalize solX l = X at *
    generalize solY l = Y at *
    generalize detN l = T at *
    generalize cenX l = cx at *
    generalize cenY l = cy at *
    obtain ⟨K, hK⟩ : ∃ x, srcL l = x := ⟨_, rfl⟩
    rw [hK] at SR KM EV1 EV2 EV3 KL
    clear hK
    have H0 := Lib.hid h
    have KZ := Lib.hid (Blk.of (vs := #[.int .i64 0, .int .i64 0, .int .i64 0, .int .i64 0]) (t := 28) (w := w) (b := w.heap.size) (by simp))
    have HB := Lib.hid ((Below.refl w.heap.size w).alloc (by simp; try omega) (.cells #[.int .i64 0, .int .i64 0, .int .i64 0, .int .i64 0] 28))
    go_enter Tryz.func8, Tryz.ntmps8
    clear h
    go_wp2_with fail
    generalize w.alloc (.cells #[.int .i64 0, .int .i64 0, .int .i64 0, .int .i64 0] 28) = w0 at *
    refine (SO.out _ (H0.out.below HB.out)).mono ?_
    rintro e1 w1 ⟨rfl, hb1⟩
    replace HB := Lib.hid (HB.out.trans (hb1.mono HB.out.size))
    replace KZ := Lib.hid (KZ.out.below hb1)
    clear hb1
    go_wp2_with fail
    have KS := Lib.hid (Blk.of (vs := #[.int .i64 (hiW X), .int .u64 (loW X), .int .i64 (hiW Y), .int .u64 (loW Y), .int .i64 T, .int .i64 cx, .int .i64 cy]) (t := 51) (w := w1) (b := w1.heap.size) rfl)
    have hb2 : Below w1.heap.size w1 (w1.alloc (.cells #[.int .i64 (hiW X), .int .u64 (loW X), .int .i64 (hiW Y), .int .u64 (loW Y), .int .i64 T, .int .i64 cx, .int .i64 cy] 51)) := (Below.refl _ _).alloc (Nat.le_refl _) _
    have hnS := HB.out.size
    have nzS_Z := KZ.out.lt
    replace HB := Lib.hid (HB.out.trans (hb2.mono HB.out.size))
    replace KZ := Lib.hid (KZ.out.below hb2)
    clear hb2
    generalize w1.alloc (.cells #[.int .i64 (hiW X), .int .u64 (loW X), .int .i64 (hiW Y), .int .u64 (loW Y), .int .i64 T, .int .i64 cx, .int .i64 cy] 51) = w2 at *
    generalize w1.heap.size = bS at *
    have neS_Z : bS ≠ w.heap.size := by omega
    clear nzS_Z
    refine (SR.out _ (H0.out.below HB.out)).mono ?_
    rintro e9 w9 ⟨⟨us, rfl, hoi⟩, hb9⟩
    replace HB := Lib.hid (HB.out.trans (hb9.mono HB.out.size))
    replace KZ := Lib.hid (KZ.out.below hb9)
    replace KS := Lib.hid (KS.out.below hb9)
    clear hb9
    obtain ⟨ps, caps, rfl, IK⟩ : ∃ ps caps, us = .slice ps K.length caps ∧ Hid (∀ k, k < K.length → ∃ g, ps = some ⟨g, 0, none⟩ ∧ K.length ≤ caps ∧ caps ≤ 9223372036854775807 ∧ IntsAt K g w9) := by
      rcases oi_cases hoi with ⟨rfl, e⟩ | ⟨g, cap', rfl, q1, q2, _, q4⟩
      · exact ⟨none, 0, by rw [e]; rfl, Lib.hid fun k hk => absurd hk (by rw [e]; simp)⟩
      · exact ⟨_, cap', rfl, Lib.hid fun k hk => ⟨g, rfl, q1, q2, q4⟩⟩
    clear hoi
    have HL9 := Lib.hid (H0.out.below HB.out)
    have hnS9 := HB.out.size
    go_wp2
    go_loopw [6, 28] (LvR1 l K w9) (fun _ i _ => K.length - (intOf i).toNat)
    case atStart => exact ⟨0, rfl, Nat.zero_le _, Lib.hid (Below.refl _ _), Lib.hid (World.ownsRow_nil _ _ _ _), Lib.hid fun i hi => absurd hi (by omega)⟩
    case round =>
      obtain ⟨k, rfl, hk, HBR, HO, HR⟩ := hrel
      by_cases q : k < K.length
      · replace KZ := Lib.hid (KZ.out.below HBR.out)
        replace KS := Lib.hid (KS.out.below HBR.out)
        replace HB := Lib.hid (HB.out.trans (HBR.out.mono HB.out.size))
        have q' : decide (k < K.length) = true := by simpa using q
        obtain ⟨gk, rfl, hk1, hk2, IA⟩ := IK.out k q
        have ck := (IA.below HBR.out).c k q
        have ckz := (IA.below HBR.out).lt
        clear IA
        have RS := Lib.hid (rows_succ l q)
        have MK := Lib.hid (KM.out k q)
        have RL := Lib.hid (show (rowsL l (K.take k)).length ≤ 100000 by rw [rows_len, List.length_take]; have := KL.out; omega)
        have WO := Lib.hid fun w h => wo_any l (K.getD k 0) (.slice p l.length cap) w h L18.out
        have SV := Lib.hid fun v w h => solve_any (woL l (K.getD k 0)) v w h (chk_wo HC.out _)
        have ER := Lib.hid fun hd => EV1.out _ (KM.out k q) hd
        have EX := Lib.hid (show exW l (K.getD k 0) = ⟨solX (woL l (K.getD k 0)), solY (woL l (K.getD k 0)), noiX (woL l (K.getD k 0)), noiY (woL l (K.getD k 0)), detN (woL l (K.getD k 0))⟩ from rfl)
        have HRD := Lib.hid fun (h : detN (woL l (K.getD k 0)) ≠ 0) i (hi : i < k + 1) => show detN (woL l (K.getD i 0)) ≠ 0 from by rcases Nat.lt_or_ge i k with a | a; exact HR.out i a; rw [show i = k by omega]; exact h
        have OL := Lib.hid (World.ownsRow.lt HO.out)
        have HO2 := Lib.hid (show OE w9.heap.size wr u6 (rowsL l (K.take k)) from HO.out)
        generalize exW l (K.getD k 0) = ex at *
        generalize hkk : K.getD k 0 = kk at *
        clear hkk
        have WE := Lib.hid (rfl : woL l kk = woL l kk)
        generalize woL l kk = lw at *
        clear WE
        go_wp2_with fail
        refine (WO.out _ (HL9.out.below HBR.out)).mono ?_
        rintro e21 w21 ⟨⟨uw, rfl, how⟩, hb21⟩
        have HW := Lib.hid (OM.lst how)
        have HBW := Lib.hid (HBR.out.trans (hb21.mono HBR.out.size))
        have HO3 := Lib.hid (HO2.out.below hb21)
        replace HB := Lib.hid (HB.out.trans (hb21.mono HB.out.size))
        replace KZ := Lib.hid (KZ.out.below hb21)
        replace KS := Lib.hid (KS.out.below hb21)
        clear hb21
        clear how ck ckz
        go_wp2_with fail
        refine (SV.out _ _ HW.out).mono ?_
        rintro e22 w22 ⟨rfl, hb22⟩
        replace HBW := Lib.hid (HBW.out.trans (hb22.mono HBW.out.size))
        replace HO3 := Lib.hid (HO3.out.below hb22)
        replace HB := Lib.hid (HB.out.trans (hb22.mono HB.out.size))
        replace KZ := Lib.hid (KZ.out.below hb22)
        replace KS := Lib.hid (KS.out.below hb22)
        clear hb22
        obtain ⟨x, y, u, v, t⟩ := ex
        have EX1 := EX.out
        injection EX1 with ex1 ex2 ex3 ex4 ex5
        rw [← ex5] at ER HRD
        rw [← ex1, ← ex2, ← ex3, ← ex4, ← ex5]
        clear ex1 ex2 ex3 ex4 ex5
        clear EX
        by_cases hd : t = 0
        · have g : (t == 0) = true := by simpa using hd
          have HV := Lib.hid (ER.out hd)
          clear hd
          have yZ := KZ.out
          have yZ_0 := yZ.c 0 _ rfl
          have yZ_1 := yZ.c 1 _ rfl
          have yZ_2 := yZ.c 2 _ rfl
          have yZ_3 := yZ.c 3 _ rfl
          have yZ_z := yZ.lt
          have yZ_f0 := yZ.f 0 _ rfl
          have yZ_f1 := yZ.f 1 _ rfl
          have yZ_f2 := yZ.f 2 _ rfl
          have yZ_f3 := yZ.f 3 _ rfl
          clear yZ
          go_wp2
          replace KZ := Lib.hid (blk_set (blk_set (blk_set (blk_set KZ.out (j := 0) (by simp) (.int .i64 0)) (j := 1) (by simp) (.int .i64 0)) (j := 2) (by simp) (.int .i64 0)) (j := 3) (by simp) (.int .i64 0))
          replace KS := Lib.hid (blk_other (b := bS) (n := w.heap.size) (j := 3) (blk_other (b := bS) (n := w.heap.size) (j := 2) (blk_other (b := bS) (n := w.heap.size) (j := 1) (blk_other (b := bS) (n := w.heap.size) (j := 0) KS.out (by omega) (.int .i64 0)) (by omega) (.int .i64 0)) (by omega) (.int .i64 0)) (by omega) (.int .i64 0))
          replace HB := Lib.hid ((((HB.out.setCell (p := ⟨w.heap.size, 0, none⟩) (show w.heap.size ≤ w.heap.size by omega) (.int .i64 0)).setCell (p := ⟨w.heap.size, 1, none⟩) (show w.heap.size ≤ w.heap.size by omega) (.int .i64 0)).setCell (p := ⟨w.heap.size, 2, none⟩) (show w.heap.size ≤ w.heap.size by omega) (.int .i64 0)).setCell (p := ⟨w.heap.size, 3, none⟩) (show w.heap.size ≤ w.heap.size by omega) (.int .i64 0))
          clear yZ_0 yZ_1 yZ_2 yZ_3 yZ_z yZ_f0 yZ_f1 yZ_f2 yZ_f3
          generalize (((w22.setCell ⟨w.heap.size, 0, none⟩ (.int .i64 0)).setCell ⟨w.heap.size, 1, none⟩ (.int .i64 0)).setCell ⟨w.heap.size, 2, none⟩ (.int .i64 0)).setCell ⟨w.heap.size, 3, none⟩ (.int .i64 0) = w23 at *
          simp only [List.set] at KZ
          have KE := Lib.hid (Blk.of (vs := #[.int .i64 (hiW x), .int .u64 (loW x), .int .i64 (hiW y), .int .u64 (loW y), .int .i64 (hiW u), .int .u64 (loW u), .int .i64 (hiW v), .int .u64 (loW v), .int .i64 t]) (t := 58) (w := w23) (b := w23.heap.size) rfl)
          have hb24 : Below w23.heap.size w23 (w23.alloc (.cells #[.int .i64 (hiW x), .int .u64 (loW x), .int .i64 (hiW y), .int .u64 (loW y), .int .i64 (hiW u), .int .u64 (loW u), .int .i64 (hiW v), .int .u64 (loW v), .int .i64 t] 58)) := (Below.refl _ _).alloc (Nat.le_refl _) _
          have hnE := HB.out.size
          have nzE_Z := KZ.out.lt
          have nzE_S := KS.out.lt
          replace HB := Lib.hid (HB.out.trans (hb24.mono HB.out.size))
          replace KZ := Lib.hid (KZ.out.below hb24)
          replace KS := Lib.hid (KS.out.below hb24)
          clear hb24
          generalize w23.alloc (.cells #[.int .i64 (hiW x), .int .u64 (loW x), .int .i64 (hiW y), .int .u64 (loW y), .int .i64 (hiW u), .int .u64 (loW u), .int .i64 (hiW v), .int .u64 (loW v), .int .i64 t] 58) = w24 at *
          generalize w23.heap.size = bE at *
          have neE_Z : bE ≠ w.heap.size := by omega
          have neE_S : bE ≠ bS := by omega
          clear nzE_Z nzE_S
          have yZ := KZ.out
          have yZ_0 := yZ.c 0 _ rfl
          have yZ_1 := yZ.c 1 _ rfl
          have yZ_2 := yZ.c 2 _ rfl
          have yZ_3 := yZ.c 3 _ rfl
          have yZ_z := yZ.lt
          clear yZ
          refine bodyPost_ret (v := .tuple #[.agg #[.int .i64 0, .int .i64 0, .int .i64 0, .int .i64 0], .int .i64 14]) (by simp [results, Tryz.results8, go_sem, yZ_0, yZ_1, yZ_2, yZ_3]) rfl ⟨by rw [HV.out]; rfl, HB.out⟩
        · have g : (t == 0) = false := by simpa using hd
          have HRD2 := Lib.hid (HRD.out hd)
          clear hd
          have HA := Lib.hid ((Below.refl w22.heap.size w22).alloc (Nat.le_refl _) (.cells #[.int .i64 (hiW x), .int .u64 (loW x), .int .i64 (hiW y), .int .u64 (loW y), .int .i64 (hiW u), .int .u64 (loW u), .int .i64 (hiW v), .int .u64 (loW v), .int .i64 t] 58))
          have HS9 := Lib.hid (show w9.heap.size ≤ w22.heap.size from HBW.out.size)
          go_wp2_with (at_builtin; refine Halt.mk ?_)
          unfold Halt
          refine wpList_oe rfl (.tmp 40) (.tmp 42) rfl w9.heap.size u6 (rowsL l (K.take k)) rfl (w22.alloc (.cells #[.int .i64 (hiW x), .int .u64 (loW x), .int .i64 (hiW y), .int .u64 (loW y), .int .i64 (hiW u), .int .u64 (loW u), .int .i64 (hiW v), .int .u64 (loW v), .int .i64 t] 58)) (HO3.out.below HA.out) _ ⟨x, y, u, v, t⟩ 1 (by rw [World.size_alloc]; rfl) RL.out (by have := HS9.out; simp; omega) ?_
          intro u2 w5 ho5 hg5 hat5
          have HO5 : Hid (OE w9.heap.size w5 u2 (rowsL l (K.take (k + 1)))) := Lib.hid (by rw [RS.out]; exact ho5)
          have HB5 : Hid (Below w9.heap.size w9 w5) := Lib.hid (below_grown ((HBW.out.trans (HA.out.mono HS9.out)).alloc (by simp; have := HS9.out; omega) _) hg5 (by simp; have := HS9.out; omega) (fun k hk => (OL.out k hk).1))
          clear hg5 hat5
          obtain ⟨g5, cap5, hu2⟩ := Go.Joins.ownsRow_form ho5 (show 0 < (rowsL l (K.take k) ++ [(⟨x, y, u, v, t⟩ : Ex)]).length by rw [List.length_append, List.length_singleton]; omega)
          obtain ⟨N5, hN5⟩ : ∃ N, (rowsL l (K.take k) ++ [(⟨x, y, u, v, t⟩ : Ex)]).length = N := ⟨_, rfl⟩
          rw [hN5] at hu2
          clear ho5 hN5
          subst hu2
          go_wp2
          exact ⟨⟨k + 1, by go_num, by omega, HB5, HO5, HRD2⟩, by simp [intOf]; omega⟩
      · obtain rfl : k = K.length := by omega
        rw [List.take_length] at HO
        replace KZ := Lib.hid (KZ.out.below HBR.out)
        replace KS := Lib.hid (KS.out.below HBR.out)
        replace HB := Lib.hid (HB.out.trans (HBR.out.mono HB.out.size))
        obtain ⟨pe, cape, hpe⟩ := oe_form HO.out
        subst hpe
        rw [rows_len] at HO
        have EA := Lib.hid fun k (q : k < K.length) => oe_at (p := pe) (cap := cape) (l := rowsL l K) (by rw [rows_len]; exact HO.out) (k := k) (by rw [rows_len]; exact q)
        simp only [rows_len] at *
        clear HO hk q HL9 IK
        have EA2 : Hid (∀ k, k < K.length → ∃ g, pe = some ⟨g, 0, none⟩ ∧ K.length ≤ cape ∧ cape ≤ 9223372036854775807 ∧ g < wr.heap.size ∧ ExAt (rowsL l K) g (wr.alloc (.cells #[.int .i64 cx, .int .i64 cy, .int .i64 0, .int .i64 0] 28))) := Lib.hid fun k q => by
          obtain ⟨g, a1, a2, a3, a4⟩ := EA.out k q
          exact ⟨g, a1, a2, a3, a4.lt, a4.below ((Below.refl _ _).alloc (Nat.le_refl _) _)⟩
        clear EA HBR
        have yS := KS.out
        have yS_0 := yS.c 0 _ rfl
        have yS_1 := yS.c 1 _ rfl
        have yS_2 := yS.c 2 _ rfl
        have yS_3 := yS.c 3 _ rfl
        have yS_4 := yS.c 4 _ rfl
        have yS_5 := yS.c 5 _ rfl
        have yS_6 := yS.c 6 _ rfl
        have yS_z := yS.lt
        clear yS
        go_wp2
        have KB := Lib.hid (Blk.of (vs := #[.int .i64 cx, .int .i64 cy, .int .i64 0, .int .i64 0]) (t := 28) (w := wr) (b := wr.heap.size) rfl)
        have hb31 : Below wr.heap.size wr (wr.alloc (.cells #[.int .i64 cx, .int .i64 cy, .int .i64 0, .int .i64 0] 28)) := (Below.refl _ _).alloc (Nat.le_refl _) _
        have hnB := HB.out.size
        have nzB_Z := KZ.out.lt
        have nzB_S := KS.out.lt
        replace HB := Lib.hid (HB.out.trans (hb31.mono HB.out.size))
        replace KZ := Lib.hid (KZ.out.below hb31)
        replace KS := Lib.hid (KS.out.below hb31)
        clear yS_0 yS_1 yS_2 yS_3 yS_4 yS_5 yS_6 yS_z
        clear hb31
        generalize wr.alloc (.cells #[.int .i64 cx, .int .i64 cy, .int .i64 0, .int .i64 0] 28) = w31 at *
        generalize wr.heap.size = bB at *
        have neB_Z : bB ≠ w.heap.size := by omega
        have neB_S : bB ≠ bS := by omega
        have HZ0 := KZ
        have HS0 := KS
        have HB00 := HB
        have h31 := Nat.le_of_lt KB.out.lt
        go_loopw [50] (LvR2 l K cx cy bB w31) (fun i _ => K.length - (intOf i).toNat)
        case atStart => exact ⟨0, rfl, Nat.zero_le _, Lib.hid (Below.refl _ _), KB, Lib.hid fun i hi => absurd hi (by omega)⟩
        case round =>
          clear KB KZ KS HB
          obtain ⟨k, rfl, hk, HBR, KB, HW⟩ := hrel
          have KZ := Lib.hid (blk_keep HZ0.out HBR.out nzB_Z)
          have KS := Lib.hid (blk_keep HS0.out HBR.out nzB_S)
          have HB := Lib.hid (HB00.out.trans (HBR.out.mono hnB))
          by_cases q : k < K.length
          · have q' : decide (k < K.length) = true := by simpa using q
            obtain ⟨gk, rfl, hk1, hk2, glt, EAT⟩ := EA2.out k q
            have EAW := ex_keep EAT HBR.out glt
            have c0 := EAW.c0 k (by rw [rows_len]; exact q)
            rw [rows_nth l q] at c0
            have c1 := EAW.c1 k (by rw [rows_len]; exact q)
            rw [rows_nth l q] at c1
            have c2 := EAW.c2 k (by rw [rows_len]; exact q)
            rw [rows_nth l q] at c2
            have c3 := EAW.c3 k (by rw [rows_len]; exact q)
            rw [rows_nth l q] at c3
            have c4 := EAW.c4 k (by rw [rows_len]; exact q)
            rw [rows_nth l q] at c4
            have c5 := EAW.c5 k (by rw [rows_len]; exact q)
            rw [rows_nth l q] at c5
            have c6 := EAW.c6 k (by rw [rows_len]; exact q)
            rw [rows_nth l q] at c6
            have c7 := EAW.c7 k (by rw [rows_len]; exact q)
            rw [rows_nth l q] at c7
            have c8 := EAW.c8 k (by rw [rows_len]; exact q)
            rw [rows_nth l q] at c8
            have clt := EAW.lt
            clear EAT EAW
            have MX := Lib.hid (show maxF (mxF l cx cy) (K.take (k + 1)) = max (maxF (mxF l cx cy) (K.take k)) (reachF cx cy (woL l (K.getD k 0))).1.1 by rw [take_int q, max_snoc]; rfl)
            have MY := Lib.hid (show maxF (myF l cx cy) (K.take (k + 1)) = max (maxF (myF l cx cy) (K.take k)) (reachF cx cy (woL l (K.getD k 0))).1.2 by rw [take_int q, max_snoc]; rfl)
            have RE2 := Lib.hid fun w => RE.out (K.getD k 0) (HR.out k q) w
            have ER := Lib.hid fun hw => EV2.out HR.out (K.getD k 0) (KM.out k q) hw
            have RB := reach_bad cx cy (woL l (K.getD k 0))
            have HWN := Lib.hid fun (h : (reachF cx cy (woL l (K.getD k 0))).2 = 0) i (hi : i < k + 1) => show (reachF cx cy (woL l (K.getD i 0))).2 = 0 from by rcases Nat.lt_or_ge i k with a | a; exact HW.out i a; rw [show i = k by omega]; exact h
            generalize maxF (mxF l cx cy) (K.take k) = m1 at *
            generalize maxF (myF l cx cy) (K.take k) = m2 at *
            have EX : exW l (K.getD k 0) = ⟨solX (woL l (K.getD k 0)), solY (woL l (K.getD k 0)), noiX (woL l (K.getD k 0)), noiY (woL l (K.getD k 0)), detN (woL l (K.getD k 0))⟩ := rfl
            generalize exW l (K.getD k 0) = ex at *
            generalize woL l (K.getD k 0) = lw at *
            obtain ⟨x, y, u, v, t⟩ := ex
            injection EX with ex1 ex2 ex3 ex4 ex5
            rw [← ex1, ← ex2, ← ex3, ← ex4, ← ex5] at RE2
            simp only at c0 c1 c2 c3 c4 c5 c6 c7 c8
            clear ex1 ex2 ex3 ex4 ex5
            obtain ⟨R, hR⟩ : ∃ z, reachF cx cy lw = z := ⟨_, rfl⟩
            rw [hR] at RE2 ER RB HWN MX MY
            clear hR
            have yS := KS.out
            have yS_0 := yS.c 0 _ rfl
            have yS_1 := yS.c 1 _ rfl
            have yS_2 := yS.c 2 _ rfl
            have yS_3 := yS.c 3 _ rfl
            have yS_4 := yS.c 4 _ rfl
            have yS_5 := yS.c 5 _ rfl
            have yS_6 := yS.c 6 _ rfl
            have yS_z := yS.lt
            clear yS
            go_wp2_with fail
            have KC := Lib.hid (Blk.of (vs := #[.int .i64 (hiW x), .int .u64 (loW x), .int .i64 (hiW y), .int .u64 (loW y), .int .i64 (hiW u), .int .u64 (loW u), .int .i64 (hiW v), .int .u64 (loW v), .int .i64 t]) (t := 58) (w := wr) (b := wr.heap.size) rfl)
            have hb51 : Below wr.heap.size wr (wr.alloc (.cells #[.int .i64 (hiW x), .int .u64 (loW x), .int .i64 (hiW y), .int .u64 (loW y), .int .i64 (hiW u), .int .u64 (loW u), .int .i64 (hiW v), .int .u64 (loW v), .int .i64 t] 58)) := (Below.refl _ _).alloc (Nat.le_refl _) _
            have hnC := HB.out.size
            have nzC_Z := KZ.out.lt
            have nzC_S := KS.out.lt
            have nzC_B := KB.out.lt
            replace HB := Lib.hid (HB.out.trans (hb51.mono HB.out.size))
            replace KZ := Lib.hid (KZ.out.below hb51)
            replace KS := Lib.hid (KS.out.below hb51)
            replace KB := Lib.hid (KB.out.below hb51)
            replace HBR := Lib.hid (HBR.out.trans (hb51.mono (Nat.le_trans h31 HBR.out.size)))
            clear yS_0 yS_1 yS_2 yS_3 yS_4 yS_5 yS_6 yS_z
            clear hb51
            generalize wr.alloc (.cells #[.int .i64 (hiW x), .int .u64 (loW x), .int .i64 (hiW y), .int .u64 (loW y), .int .i64 (hiW u), .int .u64 (loW u), .int .i64 (hiW v), .int .u64 (loW v), .int .i64 t] 58) = w51 at *
            generalize wr.heap.size = bC at *
            have neC_Z : bC ≠ w.heap.size := by omega
            have neC_S : bC ≠ bS := by omega
            have neC_B : bC ≠ bB := by omega
            clear nzC_Z nzC_S nzC_B
            clear c0 c1 c2 c3 c4 c5 c6 c7 c8 clt
            refine (RE2.out _).mono ?_
            rintro e52 w52 ⟨rfl, hb52⟩
            replace HB := Lib.hid (HB.out.trans (hb52.mono HB.out.size))
            replace KZ := Lib.hid (KZ.out.below hb52)
            replace KS := Lib.hid (KS.out.below hb52)
            replace KB := Lib.hid (KB.out.below hb52)
            replace KC := Lib.hid (KC.out.below hb52)
            replace HBR := Lib.hid (HBR.out.trans (hb52.mono (Nat.le_trans h31 HBR.out.size)))
            clear hb52
            clear RE2
            rcases RB with RB | rfl
            · obtain ⟨⟨rx, ry⟩, re⟩ := R
              simp only at RB
              subst RB
              have HWN2 := Lib.hid (HWN.out rfl)
              have MX2 := Lib.hid MX.out
              have MY2 := Lib.hid MY.out
              clear ER HWN MX MY
              have yB := KB.out
              have yB_0 := yB.c 0 _ rfl
              have yB_1 := yB.c 1 _ rfl
              have yB_2 := yB.c 2 _ rfl
              have yB_3 := yB.c 3 _ rfl
              have yB_z := yB.lt
              have yB_f0 := yB.f 0 _ rfl
              have yB_f1 := yB.f 1 _ rfl
              have yB_f2 := yB.f 2 _ rfl
              have yB_f3 := yB.f 3 _ rfl
              clear yB
              go_wp2
              replace KZ := Lib.hid (blk_other (b := w.heap.size) (n := bB) (j := 3) (blk_other (b := w.heap.size) (n := bB) (j := 2) KZ.out (by omega) (.int .i64 (max m1 rx))) (by omega) (.int .i64 (max m2 ry)))
              replace KS := Lib.hid (blk_other (b := bS) (n := bB) (j := 3) (blk_other (b := bS) (n := bB) (j := 2) KS.out (by omega) (.int .i64 (max m1 rx))) (by omega) (.int .i64 (max m2 ry)))
              replace KB := Lib.hid (blk_set (blk_set KB.out (j := 2) (by simp) (.int .i64 (max m1 rx))) (j := 3) (by simp) (.int .i64 (max m2 ry)))
              replace KC := Lib.hid (blk_other (b := bC) (n := bB) (j := 3) (blk_other (b := bC) (n := bB) (j := 2) KC.out (by omega) (.int .i64 (max m1 rx))) (by omega) (.int .i64 (max m2 ry)))
              replace HB := Lib.hid ((HB.out.setCell (p := ⟨bB, 2, none⟩) (show w.heap.size ≤ bB by omega) (.int .i64 (max m1 rx))).setCell (p := ⟨bB, 3, none⟩) (show w.heap.size ≤ bB by omega) (.int .i64 (max m2 ry)))
              replace HBR := Lib.hid ((HBR.out.setCell (p := ⟨bB, 2, none⟩) (Nat.le_refl _) (.int .i64 (max m1 rx))).setCell (p := ⟨bB, 3, none⟩) (Nat.le_refl _) (.int .i64 (max m2 ry)))
              clear yB_0 yB_1 yB_2 yB_3 yB_z yB_f0 yB_f1 yB_f2 yB_f3
              generalize (w52.setCell ⟨bB, 2, none⟩ (.int .i64 (max m1 rx))).setCell ⟨bB, 3, none⟩ (.int .i64 (max m2 ry)) = w53 at *
              simp only [List.set] at KB
              exact ⟨⟨k + 1, by go_num, by omega, HBR, by rw [MX2.out, MY2.out]; exact KB, HWN2⟩, by simp [intOf]; omega⟩
            · have HV := Lib.hid (ER.out (by simp))
              clear ER HWN MX MY
              have yZ := KZ.out
              have yZ_0 := yZ.c 0 _ rfl
              have yZ_1 := yZ.c 1 _ rfl
              have yZ_2 := yZ.c 2 _ rfl
              have yZ_3 := yZ.c 3 _ rfl
              have yZ_z := yZ.lt
              have yZ_f0 := yZ.f 0 _ rfl
              have yZ_f1 := yZ.f 1 _ rfl
              have yZ_f2 := yZ.f 2 _ rfl
              have yZ_f3 := yZ.f 3 _ rfl
              clear yZ
              go_wp2
              replace KZ := Lib.hid (blk_set (blk_set (blk_set (blk_set KZ.out (j := 0) (by simp) (.int .i64 0)) (j := 1) (by simp) (.int .i64 0)) (j := 2) (by simp) (.int .i64 0)) (j := 3) (by simp) (.int .i64 0))
              replace KS := Lib.hid (blk_other (b := bS) (n := w.heap.size) (j := 3) (blk_other (b := bS) (n := w.heap.size) (j := 2) (blk_other (b := bS) (n := w.heap.size) (j := 1) (blk_other (b := bS) (n := w.heap.size) (j := 0) KS.out (by omega) (.int .i64 0)) (by omega) (.int .i64 0)) (by omega) (.int .i64 0)) (by omega) (.int .i64 0))
              replace KB := Lib.hid (blk_other (b := bB) (n := w.heap.size) (j := 3) (blk_other (b := bB) (n := w.heap.size) (j := 2) (blk_other (b := bB) (n := w.heap.size) (j := 1) (blk_other (b := bB) (n := w.heap.size) (j := 0) KB.out (by omega) (.int .i64 0)) (by omega) (.int .i64 0)) (by omega) (.int .i64 0)) (by omega) (.int .i64 0))
              replace KC := Lib.hid (blk_other (b := bC) (n := w.heap.size) (j := 3) (blk_other (b := bC) (n := w.heap.size) (j := 2) (blk_other (b := bC) (n := w.heap.size) (j := 1) (blk_other (b := bC) (n := w.heap.size) (j := 0) KC.out (by omega) (.int .i64 0)) (by omega) (.int .i64 0)) (by omega) (.int .i64 0)) (by omega) (.int .i64 0))
              replace HB := Lib.hid ((((HB.out.setCell (p := ⟨w.heap.size, 0, none⟩) (show w.heap.size ≤ w.heap.size by omega) (.int .i64 0)).setCell (p := ⟨w.heap.size, 1, none⟩) (show w.heap.size ≤ w.heap.size by omega) (.int .i64 0)).setCell (p := ⟨w.heap.size, 2, none⟩) (show w.heap.size ≤ w.heap.size by omega) (.int .i64 0)).setCell (p := ⟨w.heap.size, 3, none⟩) (show w.heap.size ≤ w.heap.size by omega) (.int .i64 0))
              clear yZ_0 yZ_1 yZ_2 yZ_3 yZ_z yZ_f0 yZ_f1 yZ_f2 yZ_f3
              generalize (((w52.setCell ⟨w.heap.size, 0, none⟩ (.int .i64 0)).setCell ⟨w.heap.size, 1, none⟩ (.int .i64 0)).setCell ⟨w.heap.size, 2, none⟩ (.int .i64 0)).setCell ⟨w.heap.size, 3, none⟩ (.int .i64 0) = w53 at *
              simp only [List.set] at KZ
              have yZ := KZ.out
              have yZ_0 := yZ.c 0 _ rfl
              have yZ_1 := yZ.c 1 _ rfl
              have yZ_2 := yZ.c 2 _ rfl
              have yZ_3 := yZ.c 3 _ rfl
              have yZ_z := yZ.lt
              clear yZ
              refine bodyPost_ret (v := .tuple #[.agg #[.int .i64 0, .int .i64 0, .int .i64 0, .int .i64 0], .int .i64 2]) (by simp [results, Tryz.results8, go_sem, yZ_0, yZ_1, yZ_2, yZ_3]) rfl ⟨by rw [HV.out]; rfl, HB.out⟩
          · obtain rfl : k = K.length := by omega
            rw [List.take_length] at KB
            have HV := Lib.hid (EV3.out HR.out HW.out)
            generalize maxF (mxF l cx cy) K = m1 at *
            generalize maxF (myF l cx cy) K = m2 at *
            have yZ := KZ.out
            have yZ_0 := yZ.c 0 _ rfl
            have yZ_1 := yZ.c 1 _ rfl
            have yZ_2 := yZ.c 2 _ rfl
            have yZ_3 := yZ.c 3 _ rfl
            have yZ_z := yZ.lt
            have yZ_f0 := yZ.f 0 _ rfl
            have yZ_f1 := yZ.f 1 _ rfl
            have yZ_f2 := yZ.f 2 _ rfl
            have yZ_f3 := yZ.f 3 _ rfl
            clear yZ
            have yB := KB.out
            have yB_0 := yB.c 0 _ rfl
            have yB_1 := yB.c 1 _ rfl
            have yB_2 := yB.c 2 _ rfl
            have yB_3 := yB.c 3 _ rfl
            have yB_z := yB.lt
            clear yB
            go_wp2
            replace KZ := Lib.hid (blk_set (blk_set (blk_set (blk_set KZ.out (j := 0) (by simp) (.int .i64 cx)) (j := 1) (by simp) (.int .i64 cy)) (j := 2) (by simp) (.int .i64 m1)) (j := 3) (by simp) (.int .i64 m2))
            replace KS := Lib.hid (blk_other (b := bS) (n := w.heap.size) (j := 3) (blk_other (b := bS) (n := w.heap.size) (j := 2) (blk_other (b := bS) (n := w.heap.size) (j := 1) (blk_other (b := bS) (n := w.heap.size) (j := 0) KS.out (by omega) (.int .i64 cx)) (by omega) (.int .i64 cy)) (by omega) (.int .i64 m1)) (by omega) (.int .i64 m2))
            replace KB := Lib.hid (blk_other (b := bB) (n := w.heap.size) (j := 3) (blk_other (b := bB) (n := w.heap.size) (j := 2) (blk_other (b := bB) (n := w.heap.size) (j := 1) (blk_other (b := bB) (n := w.heap.size) (j := 0) KB.out (by omega) (.int .i64 cx)) (by omega) (.int .i64 cy)) (by omega) (.int .i64 m1)) (by omega) (.int .i64 m2))
            replace HB := Lib.hid ((((HB.out.setCell (p := ⟨w.heap.size, 0, none⟩) (show w.heap.size ≤ w.heap.size by omega) (.int .i64 cx)).setCell (p := ⟨w.heap.size, 1, none⟩) (show w.heap.size ≤ w.heap.size by omega) (.int .i64 cy)).setCell (p := ⟨w.heap.size, 2, none⟩) (show w.heap.size ≤ w.heap.size by omega) (.int .i64 m1)).setCell (p := ⟨w.heap.size, 3, none⟩) (show w.heap.size ≤ w.heap.size by omega) (.int .i64 m2))
            clear yZ_0 yZ_1 yZ_2 yZ_3 yZ_z yZ_f0 yZ_f1 yZ_f2 yZ_f3 yB_0 yB_1 yB_2 yB_3 yB_z
            generalize (((wr.setCell ⟨w.heap.size, 0, none⟩ (.int .i64 cx)).setCell ⟨w.heap.size, 1, none⟩ (.int .i64 cy)).setCell ⟨w.heap.size, 2, none⟩ (.int .i64 m1)).setCell ⟨w.heap.size, 3, none⟩ (.int .i64 m2) = w51 at *
            simp only [List.set] at KZ
            have yZ := KZ.out
            have yZ_0 := yZ.c 0 _ rfl
            have yZ_1 := yZ.c 1 _ rfl
            have yZ_2 := yZ.c 2 _ rfl
            have yZ_3 := yZ.c 3 _ rfl
            have yZ_z := yZ.lt
            clear yZ
            refine bodyPost_ret (v := .tuple #[.agg #[.int .i64 cx, .int .i64 cy, .int .i64 m1, .int .i64 m2], .int .i64 0]) (by simp [results, Tryz.results8, go_sem, yZ_0, yZ_1, yZ_2, yZ_3]) rfl ⟨by rw [HV.out]; rfl, HB.out⟩
  · have SO := Lib.hid fun w h => sol_bad l (.slice p l.length cap) w h hs
    have HV : Hid (levF l = (box0, solE l)) := Lib.hid (by unfold levF; rw [if_neg hs])
    have g : (solE l != 0) = true := by simpa using hs
    have g' : (solE l == 0) = false := by simpa using hs
    clear hs
    generalize solE l = c at *
    have H0 := Lib.hid h
    have KZ := Lib.hid (Blk.of (vs := #[.int .i64 0, .int .i64 0, .int .i64 0, .int .i64 0]) (t := 28) (w := w) (b := w.heap.size) (by simp))
    have HB := Lib.hid ((Below.refl w.heap.size w).alloc (by simp; try omega) (.cells #[.int .i64 0, .int .i64 0, .int .i64 0, .int .i64 0] 28))
    go_enter Tryz.func8, Tryz.ntmps8
    clear h
    go_wp2_with fail
    generalize w.alloc (.cells #[.int .i64 0, .int .i64 0, .int .i64 0, .int .i64 0] 28) = w0 at *
    refine (SO.out _ (H0.out.below HB.out)).mono ?_
    rintro e1 w1 ⟨rfl, hb1⟩
    replace HB := Lib.hid (HB.out.trans (hb1.mono HB.out.size))
    replace KZ := Lib.hid (KZ.out.below hb1)
    clear hb1
    have yZ := KZ.out
    have yZ_0 := yZ.c 0 _ rfl
    have yZ_1 := yZ.c 1 _ rfl
    have yZ_2 := yZ.c 2 _ rfl
    have yZ_3 := yZ.c 3 _ rfl
    have yZ_z := yZ.lt
    have yZ_f0 := yZ.f 0 _ rfl
    have yZ_f1 := yZ.f 1 _ rfl
    have yZ_f2 := yZ.f 2 _ rfl
    have yZ_f3 := yZ.f 3 _ rfl
    clear yZ
    go_wp2
    replace KZ := Lib.hid (blk_set (blk_set (blk_set (blk_set KZ.out (j := 0) (by simp) (.int .i64 0)) (j := 1) (by simp) (.int .i64 0)) (j := 2) (by simp) (.int .i64 0)) (j := 3) (by simp) (.int .i64 0))
    replace HB := Lib.hid ((((HB.out.setCell (p := ⟨w.heap.size, 0, none⟩) (show w.heap.size ≤ w.heap.size by omega) (.int .i64 0)).setCell (p := ⟨w.heap.size, 1, none⟩) (show w.heap.size ≤ w.heap.size by omega) (.int .i64 0)).setCell (p := ⟨w.heap.size, 2, none⟩) (show w.heap.size ≤ w.heap.size by omega) (.int .i64 0)).setCell (p := ⟨w.heap.size, 3, none⟩) (show w.heap.size ≤ w.heap.size by omega) (.int .i64 0))
    clear yZ_0 yZ_1 yZ_2 yZ_3 yZ_z yZ_f0 yZ_f1 yZ_f2 yZ_f3
    generalize (((w1.setCell ⟨w.heap.size, 0, none⟩ (.int .i64 0)).setCell ⟨w.heap.size, 1, none⟩ (.int .i64 0)).setCell ⟨w.heap.size, 2, none⟩ (.int .i64 0)).setCell ⟨w.heap.size, 3, none⟩ (.int .i64 0) = w2 at *
    simp only [List.set] at KZ
    have KS := Lib.hid (Blk.of (vs := #[.int .i64 0, .int .u64 0, .int .i64 0, .int .u64 0, .int .i64 0, .int .i64 0, .int .i64 0]) (t := 51) (w := w2) (b := w2.heap.size) rfl)
    have hb3 : Below w2.heap.size w2 (w2.alloc (.cells #[.int .i64 0, .int .u64 0, .int .i64 0, .int .u64 0, .int .i64 0, .int .i64 0, .int .i64 0] 51)) := (Below.refl _ _).alloc (Nat.le_refl _) _
    have hnS := HB.out.size
    have nzS_Z := KZ.out.lt
    replace HB := Lib.hid (HB.out.trans (hb3.mono HB.out.size))
    replace KZ := Lib.hid (KZ.out.below hb3)
    clear hb3
    generalize w2.alloc (.cells #[.int .i64 0, .int .u64 0, .int .i64 0, .int .u64 0, .int .i64 0, .int .i64 0, .int .i64 0] 51) = w3 at *
    generalize w2.heap.size = bS at *
    have neS_Z : bS ≠ w.heap.size := by omega
    clear nzS_Z
    have yZ := KZ.out
    have yZ_0 := yZ.c 0 _ rfl
    have yZ_1 := yZ.c 1 _ rfl
    have yZ_2 := yZ.c 2 _ rfl
    have yZ_3 := yZ.c 3 _ rfl
    have yZ_z := yZ.lt
    clear yZ
    refine bodyPost_ret (v := .tuple #[.agg #[.int .i64 0, .int .i64 0, .int .i64 0, .int .i64 0], .int .i64 c]) (by simp [results, Tryz.results8, go_sem, yZ_0, yZ_1, yZ_2, yZ_3]) rfl ⟨by rw [HV.out]; rfl, HB.out⟩
end Go.Proofs.YtplgdlooglnpmaaGreat
namespace Go.Proofs.YtplgdlooglnpmaaGreat
set_option linter.unusedVariables false
def posL (s x y : Int) : List Ms := [⟨s, 256, 0, 256 * x, 2560, 1⟩, ⟨s, 0, 256, 256 * y, 2560, 1⟩]
def thrL : List Ms := [⟨1, 256, 0, 0, 2560, 1⟩, ⟨1, 0, 256, 0, 2560, 1⟩, ⟨2, 256, 0, 25600, 2560, 1⟩, ⟨2, 0, 256, 0, 2560, 1⟩, ⟨3, 256, 0, 5120, 2560, 1⟩, ⟨3, 0, 256, 15360, 2560, 1⟩]
theorem src_thr : srcL thrL = [1, 2, 3] := by
  refine asc_uniq _ _ (srcL_lt _) (by decide) fun x => ?_
  rw [mem_srcL]
  unfold thrL
  simp only [List.mem_cons, List.not_mem_nil, or_false]
  constructor
  · rintro ⟨m, (rfl | rfl | rfl | rfl | rfl | rfl), rfl⟩ <;> simp
  · rintro (rfl | rfl | rfl)
    · exact ⟨_, .inl rfl, rfl⟩
    · exact ⟨_, .inr (.inr (.inl rfl)), rfl⟩
    · exact ⟨_, .inr (.inr (.inr (.inr (.inl rfl)))), rfl⟩
theorem src_two : srcL (thrL.take 2) = [1] := by
  refine asc_uniq _ _ (srcL_lt _) (by decide) fun x => ?_
  rw [mem_srcL]
  unfold thrL
  simp only [List.take_succ_cons, List.take_zero, List.mem_cons, List.not_mem_nil, or_false]
  constructor
  · rintro ⟨m, (rfl | rfl), rfl⟩ <;> simp
  · rintro rfl
    exact ⟨_, .inl rfl, rfl⟩
theorem lev_thr : levF thrL = (⟨40, 20, 40, 30⟩, 0) := by
  unfold levF
  rw [src_thr]
  rfl
theorem acc_thr : accF thrL = (⟨40, 20, 10, 10⟩, 0) := by rfl
theorem lev_two : (levF (thrL.take 2)).2 = 14 := by
  unfold levF
  rw [src_two]
  rfl
/-- how far the solution without a source is from the solution -/
def sepF (l : List Ms) (s : Int) : (Int × Int) × Int :=
  if solE l = 0 then (if (woL l s).length = l.length then ((0, 0), 6) else if detN (woL l s) = 0 then ((0, 0), 14) else
    pairF (apartI (cenX l) (solX (woL l s)) (detN (woL l s))) (apartI (cenY l) (solY (woL l s)) (detN (woL l s))) (detN (woL l s))) else ((0, 0), solE l)
theorem sep_thr : sepF thrL 2 = ((30, 10), 0) := by rfl
end Go.Proofs.YtplgdlooglnpmaaGreat
namespace Go.Proofs.YtplgdlooglnpmaaGreat
set_option linter.unusedVariables false
open Go.RowKit
set_option maxHeartbeats 8000000 in
set_option maxRecDepth 100000 in
theorem sep_any (l : List Ms) (s : Int) (v : Value) (w : World) (h : LstAt l v w) :
    Calls Tryz.prog 19 #[v, .int .i64 s] w fun e w' => e = .returned (.tuple #[.int .i64 (sepF l s).1.1, .int .i64 (sepF l s).1.2, .int .i64 (sepF l s).2]) ∧ Below w.heap.size w w' := by
  obtain ⟨p, cap, rfl⟩ := lst_form h
  by_cases hs : solE l = 0
  · obtain ⟨hc, hd0, hx, hy⟩ := sol_chk hs
    have SO := Lib.hid fun w h => sol_ok l (.slice p l.length cap) w h hs
    have L18 : l.length ≤ 18 := by have := (okL_of hc).len; omega
    have WO := Lib.hid fun w h => wo_any l s (.slice p l.length cap) w h L18
    have SV := Lib.hid fun v w h => solve_any (woL l s) v w h (chk_wo hc s)
    have EN : Hid ((woL l s).length = l.length → sepF l s = ((0, 0), 6)) := Lib.hid fun q => by unfold sepF; rw [if_pos hs, if_pos q]
    have EV : Hid (¬ (woL l s).length = l.length → sepF l s = if detN (woL l s) = 0 then ((0, 0), 14) else pairF (apartI (cenX l) (solX (woL l s)) (detN (woL l s))) (apartI (cenY l) (solY (woL l s)) (detN (woL l s))) (detN (woL l s))) := Lib.hid fun q => by unfold sepF; rw [if_pos hs, if_neg q]
    have RB := fun hd : detN (woL l s) ≠ 0 => reachB_of ((okL_of hc).wo s) (det_pos (chk_wo hc s) hd) hx hy
    have AB := fun hd => apart_bd (RB hd).c.1 (RB hd).c.2.1 (RB hd).d.1 (RB hd).d.2 (RB hd).x.1 (RB hd).x.2
    have AC := fun hd => apart_bd (RB hd).c.2.2.1 (RB hd).c.2.2.2 (RB hd).d.1 (RB hd).d.2 (RB hd).y.1 (RB hd).y.2
    have AX : Hid (detN (woL l s) ≠ 0 → ∀ w, Calls Tryz.prog 47 #[.int .i64 (cenX l), wv (solX (woL l s)), .int .i64 (detN (woL l s))] w fun e w' => e = .returned (wv (apartI (cenX l) (solX (woL l s)) (detN (woL l s)))) ∧ Below w.heap.size w w') := Lib.hid fun hd w => by
      have b := AB hd
      have r := RB hd
      obtain ⟨⟨c0, c1, c2, c3⟩, ⟨x0, x1⟩, _, _, _, d0, d1⟩ := r
      exact apart_any _ _ _ w ⟨by omega, by omega⟩ ⟨by omega, by omega⟩ ⟨by omega, by omega⟩ ⟨by omega, by omega⟩ ⟨by omega, by omega⟩
    have AY : Hid (detN (woL l s) ≠ 0 → ∀ w, Calls Tryz.prog 47 #[.int .i64 (cenY l), wv (solY (woL l s)), .int .i64 (detN (woL l s))] w fun e w' => e = .returned (wv (apartI (cenY l) (solY (woL l s)) (detN (woL l s)))) ∧ Below w.heap.size w w') := Lib.hid fun hd w => by
      have b := AC hd
      have r := RB hd
      obtain ⟨⟨c0, c1, c2, c3⟩, _, ⟨x0, x1⟩, _, _, d0, d1⟩ := r
      exact apart_any _ _ _ w ⟨by omega, by omega⟩ ⟨by omega, by omega⟩ ⟨by omega, by omega⟩ ⟨by omega, by omega⟩ ⟨by omega, by omega⟩
    have SZ : Hid (detN (woL l s) ≠ 0 → ∀ w, Calls Tryz.prog 33 #[wv (apartI (cenX l) (solX (woL l s)) (detN (woL l s))), wv (apartI (cenY l) (solY (woL l s)) (detN (woL l s))), .int .i64 (detN (woL l s))] w fun e w' => e = .returned (.tuple #[.int .i64 (pairF (apartI (cenX l) (solX (woL l s)) (detN (woL l s))) (apartI (cenY l) (solY (woL l s)) (detN (woL l s))) (detN (woL l s))).1.1, .int .i64 (pairF (apartI (cenX l) (solX (woL l s)) (detN (woL l s))) (apartI (cenY l) (solY (woL l s)) (detN (woL l s))) (detN (woL l s))).1.2, .int .i64 (pairF (apartI (cenX l) (solX (woL l s)) (detN (woL l s))) (apartI (cenY l) (solY (woL l s)) (detN (woL l s))) (detN (woL l s))).2]) ∧ Below w.heap.size w w') := Lib.hid fun hd w => by
      have b := AB hd
      have c := AC hd
      have r := RB hd
      obtain ⟨_, _, _, _, _, d0, d1⟩ := r
      refine sizes_any _ _ _ w ?_ ?_ ?_ ?_ d0 (by omega) <;> unfold apartI <;> omega
    unfold wv at AX AY SZ
    clear hs hc hd0 hx hy L18 RB AB AC
    generalize solX l = X at *
    generalize solY l = Y at *
    generalize detN l = T at *
    generalize cenX l = cx at *
    generalize cenY l = cy at *
    have H0 := Lib.hid h
    have HB := Lib.hid (Below.refl w.heap.size w)
    go_enter Tryz.func19, Tryz.ntmps19
    clear h
    go_wp2_with fail
    refine (SO.out _ H0.out).mono ?_
    rintro e1 w1 ⟨rfl, hb1⟩
    replace HB := Lib.hid (HB.out.trans (hb1.mono HB.out.size))
    clear hb1
    go_wp2_with fail
    have KS := Lib.hid (Blk.of (vs := #[.int .i64 (hiW X), .int .u64 (loW X), .int .i64 (hiW Y), .int .u64 (loW Y), .int .i64 T, .int .i64 cx, .int .i64 cy]) (t := 51) (w := w1) (b := w1.heap.size) rfl)
    have hb2 : Below w1.heap.size w1 (w1.alloc (.cells #[.int .i64 (hiW X), .int .u64 (loW X), .int .i64 (hiW Y), .int .u64 (loW Y), .int .i64 T, .int .i64 cx, .int .i64 cy] 51)) := (Below.refl _ _).alloc (Nat.le_refl _) _
    have hnS := HB.out.size
    replace HB := Lib.hid (HB.out.trans (hb2.mono HB.out.size))
    clear hb2
    generalize w1.alloc (.cells #[.int .i64 (hiW X), .int .u64 (loW X), .int .i64 (hiW Y), .int .u64 (loW Y), .int .i64 T, .int .i64 cx, .int .i64 cy] 51) = w2 at *
    generalize w1.heap.size = bS at *
    refine (WO.out _ (H0.out.below HB.out)).mono ?_
    rintro e3 w3 ⟨⟨uw, rfl, how⟩, hb3⟩
    replace HB := Lib.hid (HB.out.trans (hb3.mono HB.out.size))
    replace KS := Lib.hid (KS.out.below hb3)
    clear hb3
    have HW := Lib.hid (OM.lst how)
    clear how
    obtain ⟨pw, cw, hpw⟩ := lst_form HW.out
    subst hpw
    by_cases hn : (woL l s).length = l.length
    · have g : ((woL l s).length == l.length) = true := by simpa using hn
      have g' : (((woL l s).length : Int) == (l.length : Int)) = true := by simp; omega
      have HV := Lib.hid (EN.out hn)
      clear hn
      go_wp2
      refine bodyPost_ret (v := .tuple #[.int .i64 0, .int .i64 0, .int .i64 6]) (by simp [results, Tryz.results19, go_sem]) rfl ⟨by rw [HV.out], HB.out⟩
    · have g : ((woL l s).length == l.length) = false := by simpa using hn
      have g' : (((woL l s).length : Int) == (l.length : Int)) = false := by simp; omega
      have EV2 := EV.out hn
      clear hn
      go_wp2_with fail
      refine (SV.out _ _ HW.out).mono ?_
      rintro e4 w4 ⟨rfl, hb4⟩
      replace HB := Lib.hid (HB.out.trans (hb4.mono HB.out.size))
      replace KS := Lib.hid (KS.out.below hb4)
      clear hb4
      obtain ⟨x, hx⟩ : ∃ z, solX (woL l s) = z := ⟨_, rfl⟩
      obtain ⟨y, hy⟩ : ∃ z, solY (woL l s) = z := ⟨_, rfl⟩
      obtain ⟨t, ht⟩ : ∃ z, detN (woL l s) = z := ⟨_, rfl⟩
      generalize noiX (woL l s) = u at *
      generalize noiY (woL l s) = v at *
      rw [hx, hy, ht] at EV2 ⊢
      rw [hx, ht] at AX
      rw [hy, ht] at AY
      rw [hx, hy, ht] at SZ
      clear hx hy ht EV EN
      by_cases hd : t = 0
      · have g2 : (t == 0) = true := by simpa using hd
        have HV := Lib.hid (EV2.trans (if_pos hd))
        clear hd EV2 AX AY SZ
        go_wp2
        have KE := Lib.hid (Blk.of (vs := #[.int .i64 (hiW x), .int .u64 (loW x), .int .i64 (hiW y), .int .u64 (loW y), .int .i64 (hiW u), .int .u64 (loW u), .int .i64 (hiW v), .int .u64 (loW v), .int .i64 t]) (t := 58) (w := w4) (b := w4.heap.size) rfl)
        have hb5 : Below w4.heap.size w4 (w4.alloc (.cells #[.int .i64 (hiW x), .int .u64 (loW x), .int .i64 (hiW y), .int .u64 (loW y), .int .i64 (hiW u), .int .u64 (loW u), .int .i64 (hiW v), .int .u64 (loW v), .int .i64 t] 58)) := (Below.refl _ _).alloc (Nat.le_refl _) _
        have hnE := HB.out.size
        have nzE_S := KS.out.lt
        replace HB := Lib.hid (HB.out.trans (hb5.mono HB.out.size))
        replace KS := Lib.hid (KS.out.below hb5)
        clear hb5
        generalize w4.alloc (.cells #[.int .i64 (hiW x), .int .u64 (loW x), .int .i64 (hiW y), .int .u64 (loW y), .int .i64 (hiW u), .int .u64 (loW u), .int .i64 (hiW v), .int .u64 (loW v), .int .i64 t] 58) = w5 at *
        generalize w4.heap.size = bE at *
        have neE_S : bE ≠ bS := by omega
        clear nzE_S
        refine bodyPost_ret (v := .tuple #[.int .i64 0, .int .i64 0, .int .i64 14]) (by simp [results, Tryz.results19, go_sem]) rfl ⟨by rw [HV.out], HB.out⟩
      · have g2 : (t == 0) = false := by simpa using hd
        have HV := Lib.hid (EV2.trans (if_neg hd))
        have AX := Lib.hid (AX.out hd)
        have AY := Lib.hid (AY.out hd)
        have SZ := Lib.hid (SZ.out hd)
        clear hd EV2
        generalize pairF (apartI cx x t) (apartI cy y t) t = R at *
        generalize apartI cx x t = ax at *
        generalize apartI cy y t = ay at *
        go_wp2_with fail
        have KE := Lib.hid (Blk.of (vs := #[.int .i64 (hiW x), .int .u64 (loW x), .int .i64 (hiW y), .int .u64 (loW y), .int .i64 (hiW u), .int .u64 (loW u), .int .i64 (hiW v), .int .u64 (loW v), .int .i64 t]) (t := 58) (w := w4) (b := w4.heap.size) rfl)
        have hb5 : Below w4.heap.size w4 (w4.alloc (.cells #[.int .i64 (hiW x), .int .u64 (loW x), .int .i64 (hiW y), .int .u64 (loW y), .int .i64 (hiW u), .int .u64 (loW u), .int .i64 (hiW v), .int .u64 (loW v), .int .i64 t] 58)) := (Below.refl _ _).alloc (Nat.le_refl _) _
        have hnE := HB.out.size
        have nzE_S := KS.out.lt
        replace HB := Lib.hid (HB.out.trans (hb5.mono HB.out.size))
        replace KS := Lib.hid (KS.out.below hb5)
        clear hb5
        generalize w4.alloc (.cells #[.int .i64 (hiW x), .int .u64 (loW x), .int .i64 (hiW y), .int .u64 (loW y), .int .i64 (hiW u), .int .u64 (loW u), .int .i64 (hiW v), .int .u64 (loW v), .int .i64 t] 58) = w5 at *
        generalize w4.heap.size = bE at *
        have neE_S : bE ≠ bS := by omega
        clear nzE_S
        have gS_5 := fun d os => cell_regrown (KS.out.c 5 _ rfl) d os
        have gS_6 := fun d os => cell_regrown (KS.out.c 6 _ rfl) d os
        have gE_0 := fun d os => cell_regrown (KE.out.c 0 _ rfl) d os
        have gE_1 := fun d os => cell_regrown (KE.out.c 1 _ rfl) d os
        have gE_2 := fun d os => cell_regrown (KE.out.c 2 _ rfl) d os
        have gE_3 := fun d os => cell_regrown (KE.out.c 3 _ rfl) d os
        have gE_8 := fun d os => cell_regrown (KE.out.c 8 _ rfl) d os
        have rv0 := Lib.hid (fun d os => Calls.regrown_of (AX.out (Go.Sort.grow (redrawn w5 d) os)))
        have rv1 := Lib.hid (fun d os => Calls.regrown_of (AY.out (Go.Sort.grow (redrawn w5 d) os)))
        have rv2 := Lib.hid (fun d os => Calls.regrown_of (SZ.out (Go.Sort.grow (redrawn w5 d) os)))
        refine wp_region_quiet_below (by kernel_rfl) (by kernel_rfl) ?_
        repeat (quiet_step (first | with_reducible exact rv0.out _ _ | with_reducible exact rv1.out _ _ | with_reducible exact rv2.out _ _))
        refine wpQuiet_nil ?_
        intro w6 hw6
        have hb6 : Below w5.heap.size w5 w6 := by
          obtain ⟨⟨dq, osq⟩, hw2⟩ := hw6
          rw [hw2]; exact below_regrown _ dq osq
        clear gS_5 gS_6 gE_0 gE_1 gE_2 gE_3 gE_8 rv0 rv1 rv2 hw6
        replace HB := Lib.hid (HB.out.trans (hb6.mono HB.out.size))
        replace KS := Lib.hid (KS.out.below hb6)
        replace KE := Lib.hid (KE.out.below hb6)
        clear hb6
        go_wp2
        refine bodyPost_ret (v := .tuple #[.int .i64 R.1.1, .int .i64 R.1.2, .int .i64 R.2]) (by simp [results, Tryz.results19, go_sem]) rfl ⟨by rw [HV.out], HB.out⟩
  · have SO := Lib.hid fun w h => sol_bad l (.slice p l.length cap) w h hs
    have HV : Hid (sepF l s = ((0, 0), solE l)) := Lib.hid (by unfold sepF; rw [if_neg hs])
    have g : (solE l != 0) = true := by simpa using hs
    have g' : (solE l == 0) = false := by simpa using hs
    clear hs
    generalize solE l = c at *
    have H0 := Lib.hid h
    have HB := Lib.hid (Below.refl w.heap.size w)
    go_enter Tryz.func19, Tryz.ntmps19
    clear h
    go_wp2_with fail
    refine (SO.out _ H0.out).mono ?_
    rintro e1 w1 ⟨rfl, hb1⟩
    replace HB := Lib.hid (HB.out.trans (hb1.mono HB.out.size))
    clear hb1
    go_wp2
    have KS := Lib.hid (Blk.of (vs := #[.int .i64 0, .int .u64 0, .int .i64 0, .int .u64 0, .int .i64 0, .int .i64 0, .int .i64 0]) (t := 51) (w := w1) (b := w1.heap.size) rfl)
    have hb2 : Below w1.heap.size w1 (w1.alloc (.cells #[.int .i64 0, .int .u64 0, .int .i64 0, .int .u64 0, .int .i64 0, .int .i64 0, .int .i64 0] 51)) := (Below.refl _ _).alloc (Nat.le_refl _) _
    have hnS := HB.out.size
    replace HB := Lib.hid (HB.out.trans (hb2.mono HB.out.size))
    clear hb2
    generalize w1.alloc (.cells #[.int .i64 0, .int .u64 0, .int .i64 0, .int .u64 0, .int .i64 0, .int .i64 0, .int .i64 0] 51) = w2 at *
    generalize w1.heap.size = bS at *
    refine bodyPost_ret (v := .tuple #[.int .i64 0, .int .i64 0, .int .i64 c]) (by simp [results, Tryz.results19, go_sem]) rfl ⟨by rw [HV.out], HB.out⟩
end Go.Proofs.YtplgdlooglnpmaaGreat
namespace Go.Proofs.YtplgdlooglnpmaaGreat
set_option linter.unusedVariables false
open Go.RowKit
theorem om_new (B : Nat) (w : World) (l : List Ms) (hB : B ≤ w.heap.size) (hl : l.length ≤ 1000) : OM B (w.alloc (.cells (msC l).toArray 70)) (.slice (some ⟨w.heap.size, 0, none⟩) l.length l.length) l := by
  refine ⟨msC_len l, .inr ⟨w.heap.size, l.length, (msC l).toArray, rfl, hB, by show (w.heap.push _)[w.heap.size]? = _; simp, Nat.le_refl _, by unfold maxLen; omega, by rw [List.size_toArray, msC_len], ?_⟩⟩
  rw [← msC_len l]
  simp
set_option maxHeartbeats 4000000 in
set_option maxRecDepth 100000 in
theorem pos_any (s x y : Int) (w : World) (hx : 0 ≤ x ∧ x ≤ 1000) (hy : 0 ≤ y ∧ y ≤ 1000) :
    Calls Tryz.prog 18 #[.int .i64 s, .int .i64 x, .int .i64 y] w fun e w' => (∃ u, e = .returned u ∧ OM w.heap.size w' u (posL s x y)) ∧ Below w.heap.size w w' := by
  have O := Lib.hid (om_new w.heap.size w (posL s x y) (Nat.le_refl _) (by unfold posL; simp))
  obtain ⟨x0, x1⟩ := hx
  obtain ⟨y0, y1⟩ := hy
  go_enter Tryz.func18, Tryz.ntmps18
  go_wp2
  go_ret
  exact ⟨⟨_, rfl, O.out⟩, (Below.refl _ _).alloc (Nat.le_refl _) _⟩
/-- one slice of measurements appended to another -/
theorem wpList_oms {ops : Array Oper} {rest : List Oper} {o : Oper} {a : Act} {Q : Exit → Act → World → Prop} (hgd : o.guard = none) (s x : Operand)
    (ho : o.op = .call { callee := .builtin .append, args := #[s, x], argTypes := #[22, 22] })
    (B : Nat) (v : Value) (l k : List Ms) (hs : a.eval s = v) (w0 : World) (h : OM B w0 v l) (g c : Nat)
    (hx : a.eval x = .slice (some ⟨g, 0, none⟩) k.length c) (hk : MsAt k g 0 w0) (hl : l.length ≤ 1000) (hlk : k.length ≤ 1000) (hB : B ≤ w0.heap.size)
    (H : ∀ v' w', OM B w' v' (l ++ k) → w0.grownBy w' v.ownBlock → wpList Tryz.prog ops Q rest (a.put o.dst v') w') :
    wpList Tryz.prog ops Q (o :: rest) a w0 := by
  obtain ⟨i0, hi, hz0, hz1, hz2⟩ := info_parts infoMeas
  refine wpList_append_own_at _ hgd s x 22 ho B 70 i0 (.agg #[.int .i64 0, .int .i64 0, .int .i64 0, .int .i64 0, .int .i64 0, .int .i64 0]) 6 48 Tryz.underlying22 hi hz0 hz1 hz2 rfl (by decide) v l.length (msC l) hs h ⟨g, 0, none⟩ k.length c (msC k) hx (msC_len k) ?_ ?_ (by unfold maxLen; omega) (by omega) hB ?_
  · intro j u hu
    have hj : j < k.length * 6 := by
      rw [← msC_len]
      exact (List.getElem?_eq_some_iff.1 hu).1
    have hadd : (⟨g, 0, none⟩ : Addr).add j = ⟨g, j, none⟩ := by unfold Addr.add; split <;> simp_all
    rw [hadd]
    obtain ⟨i, hi6, hj'⟩ : ∃ i, i < k.length ∧ (j = i * 6 ∨ j = i * 6 + 1 ∨ j = i * 6 + 2 ∨ j = i * 6 + 3 ∨ j = i * 6 + 4 ∨ j = i * 6 + 5) := ⟨j / 6, by omega, by omega⟩
    obtain ⟨m0, m1, m2, m3, m4, m5⟩ := msC_get k i hi6
    have n := nth_eq hi6
    clear hj hadd
    rcases hj' with rfl | rfl | rfl | rfl | rfl | rfl
    · have := hk.c0 i hi6; rw [Nat.zero_add, n] at this; rw [this, ← hu]; exact m0.symm
    · have := hk.c1 i hi6; rw [Nat.zero_add, n] at this; rw [this, ← hu]; exact m1.symm
    · have := hk.c2 i hi6; rw [Nat.zero_add, n] at this; rw [this, ← hu]; exact m2.symm
    · have := hk.c3 i hi6; rw [Nat.zero_add, n] at this; rw [this, ← hu]; exact m3.symm
    · have := hk.c4 i hi6; rw [Nat.zero_add, n] at this; rw [this, ← hu]; exact m4.symm
    · have := hk.c5 i hi6; rw [Nat.zero_add, n] at this; rw [this, ← hu]; exact m5.symm
  · intro u hu
    unfold msC at hu
    rw [List.mem_flatMap] at hu
    obtain ⟨m, _, hu⟩ := hu
    simp only [List.mem_cons, List.not_mem_nil, or_false] at hu
    rcases hu with rfl | rfl | rfl | rfl | rfl | rfl <;> rfl
  · intro v' w' ho' hg _ hat
    exact H v' w' (by unfold OM; rw [List.length_append, msC_append]; exact ho') hg
theorem om_some {B : Nat} {w : World} {v : Value} {l : List Ms} (h : OM B w v l) (hn : 0 < l.length) : ∃ g cap, v = .slice (some ⟨g, 0, none⟩) l.length cap ∧ l.length ≤ cap ∧ cap ≤ 9223372036854775807 ∧ B ≤ g ∧ MsAt l g 0 w := by
  rcases om_cases h with ⟨_, rfl⟩ | ⟨g, cap, h1, h2, h3, h4, h5, _⟩
  · exact absurd hn (by simp)
  · exact ⟨g, cap, h1, h2, h3, h4, h5⟩
end Go.Proofs.YtplgdlooglnpmaaGreat
namespace Go.Proofs.YtplgdlooglnpmaaGreat
set_option linter.unusedVariables false
open Go.RowKit
set_option maxHeartbeats 8000000 in
set_option maxRecDepth 100000 in
theorem awake_any (w : World) : Calls Tryz.prog 6 #[] w fun e w' => e = .returned (.bool true) ∧ Below w.heap.size w w' := by
  have P1 := Lib.hid fun w => pos_any 1 0 0 w (by omega) (by omega)
  have P2 := Lib.hid fun w => pos_any 2 100 0 w (by omega) (by omega)
  have P3 := Lib.hid fun w => pos_any 3 20 60 w (by omega) (by omega)
  have LV := Lib.hid fun v w h => lev_any thrL v w h
  have AC := Lib.hid fun v w h => acc_any thrL v w h
  have SP := Lib.hid fun v w h => sep_any thrL 2 v w h
  have L2 := Lib.hid fun v w h => lev_any (thrL.take 2) v w h
  rw [lev_thr] at LV
  rw [acc_thr] at AC
  rw [sep_thr] at SP
  have e2 : levF (thrL.take 2) = (box0, 14) := by
    have a := lev_two
    have b := bad_lev (thrL.take 2)
    rcases b with b | b
    · rw [a] at b; cases b
    · exact Prod.ext b a
  rw [e2] at L2
  clear e2
  unfold boxV box0 at *
  simp only at LV AC SP L2
  go_enter Tryz.func6, Tryz.ntmps6
  go_wp2_with fail
  refine (P1.out _).mono ?_
  rintro e w1 ⟨⟨u1, rfl, h1⟩, hb1⟩
  have H1 := Lib.hid h1
  have HB1 := Lib.hid hb1
  obtain ⟨g1, c1, rfl, _⟩ := om_some h1 (by show 0 < 2; omega)
  clear h1 hb1
  go_wp2_with fail
  refine (P2.out _).mono ?_
  rintro e w2 ⟨⟨u2, rfl, h2⟩, hb2⟩
  have H12 := Lib.hid (H1.out.below hb2)
  have HB2 := Lib.hid (HB1.out.trans (hb2.mono HB1.out.size))
  obtain ⟨g2, c2, rfl, _, _, _, m2⟩ := om_some h2 (by show 0 < 2; omega)
  have M2 := Lib.hid m2
  clear h2 hb2 m2
  go_wp2_with (at_builtin; refine Halt.mk ?_)
  unfold Halt
  refine wpList_oms rfl (.tmp 11) (.tmp 12) rfl w.heap.size _ (posL 1 0 0) (posL 2 100 0) rfl w2 H12.out g2 c2 rfl M2.out (by show 2 ≤ 1000; omega) (by show 2 ≤ 1000; omega) HB2.out.size ?_
  intro u3 w3 h3 hg3
  have H3 := Lib.hid h3
  have HB3 := Lib.hid (below_grown HB2.out hg3 HB2.out.size (fun k hk => (World.ownsRow.lt H12.out k hk).1))
  obtain ⟨g3, c3, rfl, _⟩ := om_some h3 (by show 0 < 4; omega)
  clear h3 hg3
  go_wp2_with fail
  refine (P3.out _).mono ?_
  rintro e w4 ⟨⟨u4, rfl, h4⟩, hb4⟩
  have H34 := Lib.hid (H3.out.below hb4)
  have HB4 := Lib.hid (HB3.out.trans (hb4.mono HB3.out.size))
  obtain ⟨g4, c4, rfl, _, _, _, m4⟩ := om_some h4 (by show 0 < 2; omega)
  have M4 := Lib.hid m4
  clear h4 hb4 m4
  go_wp2_with (at_builtin; refine Halt.mk ?_)
  unfold Halt
  refine wpList_oms rfl (.tmp 13) (.tmp 14) rfl w.heap.size _ (posL 1 0 0 ++ posL 2 100 0) (posL 3 20 60) rfl w4 H34.out g4 c4 rfl M4.out (by show 4 ≤ 1000; omega) (by show 2 ≤ 1000; omega) HB4.out.size ?_
  intro u5 w5 h5 hg5
  have H5 := Lib.hid h5
  have HB5 := Lib.hid (below_grown HB4.out hg5 HB4.out.size (fun k hk => (World.ownsRow.lt H34.out k hk).1))
  obtain ⟨g5, c5, rfl, k5, k5m, _, m5⟩ := om_some h5 (by show 0 < 6; omega)
  have e6 : (posL 1 0 0 ++ posL 2 100 0 ++ posL 3 20 60).length = 6 := rfl
  rw [e6] at k5 ⊢
  have L5 := Lib.hid (show LstAt thrL (.slice (some ⟨g5, 0, none⟩) 6 c5) w5 from .inr ⟨g5, 0, c5, rfl, by show 6 ≤ c5; omega, k5m, m5⟩)
  have M5 := Lib.hid (show LstAt (thrL.take 2) (.slice (some ⟨g5, 0, none⟩) 2 c5) w5 from .inr ⟨g5, 0, c5, rfl, by show 2 ≤ c5; omega, k5m, m5.take 2⟩)
  have k2 : 2 ≤ c5 := by omega
  clear h5 hg5 m5 H5 e6
  have HB := HB5
  clear HB5
  go_wp2_with fail
  refine (LV.out _ _ L5.out).mono ?_
  rintro e6 w6 ⟨rfl, hb6⟩
  replace HB := Lib.hid (HB.out.trans (hb6.mono HB.out.size))
  replace L5 := Lib.hid (L5.out.below hb6)
  replace M5 := Lib.hid (M5.out.below hb6)
  clear hb6
  go_wp2_with fail
  have KB := Lib.hid (Blk.of (vs := #[.int .i64 40, .int .i64 20, .int .i64 40, .int .i64 30]) (t := 28) (w := w6) (b := w6.heap.size) rfl)
  have hb7 : Below w6.heap.size w6 (w6.alloc (.cells #[.int .i64 40, .int .i64 20, .int .i64 40, .int .i64 30] 28)) := (Below.refl _ _).alloc (Nat.le_refl _) _
  have hnB := HB.out.size
  replace HB := Lib.hid (HB.out.trans (hb7.mono HB.out.size))
  replace L5 := Lib.hid (L5.out.below hb7)
  replace M5 := Lib.hid (M5.out.below hb7)
  clear hb7
  generalize w6.alloc (.cells #[.int .i64 40, .int .i64 20, .int .i64 40, .int .i64 30] 28) = w7 at *
  generalize w6.heap.size = bB at *
  refine (AC.out _ _ L5.out).mono ?_
  rintro e8 w8 ⟨rfl, hb8⟩
  replace HB := Lib.hid (HB.out.trans (hb8.mono HB.out.size))
  replace KB := Lib.hid (KB.out.below hb8)
  replace L5 := Lib.hid (L5.out.below hb8)
  replace M5 := Lib.hid (M5.out.below hb8)
  clear hb8
  go_wp2_with fail
  have KA := Lib.hid (Blk.of (vs := #[.int .i64 40, .int .i64 20, .int .i64 10, .int .i64 10]) (t := 28) (w := w8) (b := w8.heap.size) rfl)
  have hb9 : Below w8.heap.size w8 (w8.alloc (.cells #[.int .i64 40, .int .i64 20, .int .i64 10, .int .i64 10] 28)) := (Below.refl _ _).alloc (Nat.le_refl _) _
  have hnA := HB.out.size
  have nzA_B := KB.out.lt
  replace HB := Lib.hid (HB.out.trans (hb9.mono HB.out.size))
  replace KB := Lib.hid (KB.out.below hb9)
  replace L5 := Lib.hid (L5.out.below hb9)
  replace M5 := Lib.hid (M5.out.below hb9)
  clear hb9
  generalize w8.alloc (.cells #[.int .i64 40, .int .i64 20, .int .i64 10, .int .i64 10] 28) = w9 at *
  generalize w8.heap.size = bA at *
  have neA_B : bA ≠ bB := by omega
  clear nzA_B
  refine (SP.out _ _ L5.out).mono ?_
  rintro e10 w10 ⟨rfl, hb10⟩
  replace HB := Lib.hid (HB.out.trans (hb10.mono HB.out.size))
  replace KB := Lib.hid (KB.out.below hb10)
  replace KA := Lib.hid (KA.out.below hb10)
  replace L5 := Lib.hid (L5.out.below hb10)
  replace M5 := Lib.hid (M5.out.below hb10)
  clear hb10
  go_wp2_with fail
  refine (L2.out _ _ M5.out).mono ?_
  rintro e11 w11 ⟨rfl, hb11⟩
  replace HB := Lib.hid (HB.out.trans (hb11.mono HB.out.size))
  replace KB := Lib.hid (KB.out.below hb11)
  replace KA := Lib.hid (KA.out.below hb11)
  replace L5 := Lib.hid (L5.out.below hb11)
  replace M5 := Lib.hid (M5.out.below hb11)
  clear hb11
  have yB := KB.out
  have yB_0 := yB.c 0 _ rfl
  have yB_1 := yB.c 1 _ rfl
  have yB_2 := yB.c 2 _ rfl
  have yB_3 := yB.c 3 _ rfl
  have yB_z := yB.lt
  clear yB
  have yA := KA.out
  have yA_0 := yA.c 0 _ rfl
  have yA_1 := yA.c 1 _ rfl
  have yA_2 := yA.c 2 _ rfl
  have yA_3 := yA.c 3 _ rfl
  have yA_z := yA.lt
  clear yA
  go_wp2
  go_ret
  exact ⟨rfl, HB.out.alloc HB.out.size _⟩
end Go.Proofs.YtplgdlooglnpmaaGreat
namespace Go.Proofs.YtplgdlooglnpmaaGreat
open Go Go.Sort Go.RowKit

section
variable {P : Program} {ops : Array Oper} {md : Region.Mode} {C : World → Prop}

/-- the head of a region, in whatever order, from every world of a class -/
def wpAnyLQ (P : Program) (md : Region.Mode) (ops : Array Oper) (C : World → Prop) (n : Nat) (L : Array Bool → Act → Prop) : Nat → Array Bool → Act → Prop
  | 0, listed, a => L listed a
  | f + 1, listed, a =>
    Region.ready md ops listed ≠ [] ∧ ∀ i ∈ Region.ready md ops listed, i < n ∧ qOp P ops C i (wpAnyLQ P md ops C n L f (listed.setIfInBounds i true)) a

theorem wpAny_of_headQ {n g : Nat} {L : Array Bool → Act → Prop} {Q' : Exit → Act → World → Prop} (hL : ∀ listed a w, C w → L listed a → wpAny P md ops Q' g listed a w) :
    ∀ (f : Nat) (listed : Array Bool) (a : Act) (w : World), C w → wpAnyLQ P md ops C n L f listed a → wpAny P md ops Q' (f + g) listed a w
  | 0, listed, a, w, hw, h => by rw [Nat.zero_add]; exact hL _ _ _ hw h
  | f + 1, listed, a, w, hw, h => by
    rw [show f + 1 + g = (f + g) + 1 by omega]
    exact ⟨fun h0 => absurd h0 h.1, fun i hi => wpOp_of_qOp hw (fun a' w' hw' h' => wpAny_of_headQ hL f _ a' w' hw' h') (h.2 i hi).2⟩

theorem wpAnyLQ_first {n i : Nat} {oi : Oper} {v : Value} {L : Array Bool → Act → Prop} (hi : ops[i]? = some oi) (hsel : ∀ (j : Nat) (o : Oper) cs b, ops[j]? = some o → o.op ≠ .select cs b)
    (hs : Region.sinkB md ops n = true) (hc : Region.chainB md ops n = true) (hn : n < ops.size) (hin : i < n)
    (hdone : ∀ listed a, L listed a → ∀ j ∈ Region.ready md ops listed, n ≤ j) :
    ∀ (f : Nat) (listed : Array Bool) (a : Act), HeadInv md ops n listed →
      (∀ j oj, ops[j]? = some oj → j ≠ i → listed.getD j true = false → (∀ e ∈ oj.after, Region.binds md e = true → e.on ≠ i) → oi.apart ops oj = true) →
      i ∈ Region.ready md ops listed → YieldsIn P ops C oi v a →
      wpAnyLQ P md ops C n L f (listed.setIfInBounds i true) (a.put oi.dst v) → wpAnyLQ P md ops C n L (f + 1) listed a := by
  intro f
  induction f with
  | zero =>
    intro listed a inv _ hr hy H
    have hun := (mem_ready.1 hr).1
    refine ⟨fun h => (by rw [h] at hr; cases hr), fun j hj => ?_⟩
    have hjn : j < n := by
      rcases Nat.lt_or_ge j n with h | h
      · exact h
      · exact absurd hj (tail_waits hs hc hn inv _ i rfl hin hun j h)
    refine ⟨hjn, ?_⟩
    by_cases hji : j = i
    · subst hji; exact hy.qOp hi H
    · have := hdone _ _ H j (ready_mono hj hji)
      omega
  | succ f ih =>
    intro listed a inv hfree hr hy H
    have hun := (mem_ready.1 hr).1
    refine ⟨fun h => (by rw [h] at hr; cases hr), fun j hj => ?_⟩
    have hjn : j < n := by
      rcases Nat.lt_or_ge j n with h | h
      · exact h
      · exact absurd hj (tail_waits hs hc hn inv _ i rfl hin hun j h)
    refine ⟨hjn, ?_⟩
    by_cases hji : j = i
    · subst hji; exact hy.qOp hi H
    · have h1 := (H.2 j (ready_mono hj hji)).2
      obtain ⟨hjun, oj, hoj, hall⟩ := mem_ready.1 hj
      have hnot : ∀ e ∈ oj.after, Region.binds md e = true → e.on ≠ i := fun e he hb heq => by
        have h1 := hall e he hb
        rw [heq, getD_both hun] at h1
        cases h1
      have h2 := qOp_put hoj (hfree j oj hoj hji hjun hnot) (fun cs b => hsel i oi cs b hi) (fun cs b => hsel j oj cs b hoj) hy h1
      have hfree' : ∀ k ok, ops[k]? = some ok → k ≠ i → (listed.setIfInBounds j true).getD k true = false →
          (∀ e ∈ ok.after, Region.binds md e = true → e.on ≠ i) → oi.apart ops ok = true := fun k ok hk hki hun hno => by
        refine hfree k ok hk hki ?_ hno
        by_cases hjk : j = k
        · subst hjk; exact hjun
        · rw [getD_set_ne true hjk] at hun; exact hun
      refine qOp_mono (fun a' h3 => ih (listed.setIfInBounds j true) a' (inv.set hj hjn) hfree' (ready_mono hr (Ne.symm hji)) h3.1 ?_) h2
      rw [Array.setIfInBounds_comm _ _ hji]
      exact h3.2

theorem wpAnyLQ_lex {n g : Nat} {Lq : Act → Prop} (hsel : Region.noSelect ops = true) (hs : Region.sinkB md ops n = true) (hc : Region.chainB md ops n = true) (hn : n < ops.size) :
    ∀ (l : List Oper) (k : Nat) (listed : Array Bool) (a : Act), (∀ j, j < l.length → l[j]? = ops[k + j]?) → k + l.length = n → HeadInv md ops n listed →
    Region.lexHead md ops g l.length k listed = true → wpQuiet P ops C Lq l a →
    wpAnyLQ P md ops C n (fun listed' a' => Region.seqB md ops g n listed' = true ∧ Lq a') l.length listed a
  | [], k, listed, a, _, hk, _, hB, h => by
    have : k = n := by simpa using hk
    subst this
    exact ⟨by simpa [Region.lexHead] using hB, h⟩
  | o :: l, k, listed, a, hl, hk, inv, hB, h => by
    have h0 : ops[k]? = some o := by simpa using (hl 0 (by simp)).symm
    simp only [List.length_cons, Region.lexHead, Bool.and_eq_true] at hB
    obtain ⟨⟨hr, hf⟩, hB'⟩ := hB
    have hkn : k < n := by simp only [List.length_cons] at hk; omega
    have hr' : k ∈ Region.ready md ops listed := by simpa using hr
    have hst : qOp P ops C k (wpQuiet P ops C Lq l) a := by unfold qOp; simp only [h0]; exact h
    obtain ⟨v, hy, hK⟩ := yieldsIn_of_qOp h0 hst
    exact wpAnyLQ_first h0 (Region.noSelect_spec hsel) hs hc hn hkn (fun listed' a' hL => seqB_ready hL.1) l.length listed a inv (Region.free_spec h0 hf) hr' hy
      (wpAnyLQ_lex hsel hs hc hn l (k + 1) _ _ (fun j hj => by have := hl (j + 1) (by simp; omega); simpa [Nat.add_assoc, Nat.add_comm 1 j] using this) (by simp only [List.length_cons] at hk; omega) (inv.set hr' hkn) hB' hK)

theorem wp_region_quiet_tail {id : Nat} {Q : Exit → Act → World → Prop} {a : Act} {w : World} {l : List Oper} (n : Nat) (hm : P.follows .mixedOrders = true) (hB : Region.lexTailB .any l.toArray n = true) (hC : C { w with drawn := w.drawn + 1 })
    (h : wpQuiet P l.toArray C (fun a' => ∀ w', C w' → wpList P l.toArray Q (l.drop n) a' w') (l.take n) a) : (Code.region id l.toArray true).wp P Q a w := by
  simp only [Region.lexTailB, Bool.and_eq_true, decide_eq_true_eq] at hB
  obtain ⟨⟨⟨⟨hsel, hn⟩, hs⟩, hc⟩, hlex⟩ := hB
  have hn' : n < l.length := by simpa using hn
  have htl : (l.take n).length = n := by simp; omega
  have hdl : (l.drop n).length = l.toArray.size - n := by simp
  have inv0 : HeadInv .any l.toArray n (Array.replicate l.toArray.size false) :=
    ⟨by simp, fun j oj _ hl => (by rw [getD_replicate_false] at hl; cases hl), fun t _ ht => getD_in (by simpa using ht) (getD_replicate_false _ _)⟩
  have H := wpAnyLQ_lex (md := .any) (g := l.toArray.size - n) hsel hs hc hn (l.take n) 0 _ a (fun j hj => by
    have hj' : j < n := by rw [htl] at hj; exact hj
    simp [hj']) (by simpa using htl) inv0 (by rw [htl]; exact hlex) h
  refine wp_region_any hm ?_
  have := wpAny_of_headQ (Q' := Q) (g := l.toArray.size - n) (fun listed a' w' hw' hL => by
    have := wpAny_of_seq (md := .any) (Q' := Q) (l.drop n) n listed a' w' (fun j => by simp [List.getElem?_drop]) (by rw [hdl]; exact hL.1) (hL.2 w' hw')
    rwa [hdl] at this) _ _ _ _ hC H
  rw [htl, show n + (l.toArray.size - n) = l.toArray.size by omega] at this
  exact this

/-- the same, at the class of the worlds in which nothing old has turned -/
theorem wp_region_quiet_below_tail {id : Nat} {Q : Exit → Act → World → Prop} {a : Act} {w : World} {l : List Oper} (n : Nat) (hm : P.follows .mixedOrders = true) (hB : Region.lexTailB .any l.toArray n = true)
    (h : wpQuiet P l.toArray (fun w' => ∃ p : Regrown, w' = grow (redrawn w p.d) p.os) (fun a' => ∀ w', (∃ p : Regrown, w' = grow (redrawn w p.d) p.os) → wpList P l.toArray Q (l.drop n) a' w') (l.take n) a) : (Code.region id l.toArray true).wp P Q a w :=
  wp_region_quiet_tail (C := fun w' => ∃ p : Regrown, w' = grow (redrawn w p.d) p.os) n hm hB ⟨⟨w.drawn + 1, #[]⟩, by rw [grow_empty]; rfl⟩ h
end
end Go.Proofs.YtplgdlooglnpmaaGreat
namespace Go.Proofs.YtplgdlooglnpmaaGreat
open Go Go.Sort Go.RowKit

section
variable {P : Program} {ops : Array Oper} {md : Region.Mode} {C : World → Prop}

def Region.chain2B (md : Region.Mode) (ops : Array Oper) (n : Nat) : Bool :=
  (List.range ops.size).all fun t => decide (t ≤ n) || (List.range t).any fun j => decide (n ≤ j) && Region.waitsFor md ops t j

theorem tail_waits2 {n : Nat} {listed : Array Bool} (hs : Region.sinkB md ops n = true) (hc : Region.chain2B md ops n = true) (hn : n < ops.size) (inv : HeadInv md ops n listed) :
    ∀ (d i : Nat), n - i = d → i < n → listed.getD i true = false → ∀ t, n ≤ t → t ∉ Region.ready md ops listed := by
  intro d
  induction d using Nat.strongRecOn with
  | _ d ih =>
    intro i hd hi hun t ht hr
    obtain ⟨_, ot, hot, hall⟩ := mem_ready.1 hr
    have htlt : t < ops.size := (Array.getElem?_eq_some_iff.1 hot).1
    by_cases htn : t = n
    · subst htn
      have h1 := List.all_eq_true.1 hs i (List.mem_range.2 hi)
      obtain ⟨j, hj, hj2⟩ := List.any_eq_true.1 h1
      simp only [Bool.and_eq_true, decide_eq_true_eq] at hj2
      obtain ⟨oj, hoj, e, he, hb, hon⟩ := Region.waitsFor_spec hj2.2
      have hjle : j ≤ t := by have := List.mem_range.1 hj; omega
      by_cases hjt : j = t
      · subst hjt
        have : oj = ot := Option.some.inj (hoj.symm.trans hot)
        subst this
        have h2 := hall e he hb
        rw [hon, getD_both hun] at h2
        cases h2
      · cases hl : listed.getD j false with
        | true =>
          have h2 := inv.closed j oj hoj hl e he hb
          rw [hon, getD_both hun] at h2
          cases h2
        | false =>
          have hjs : j < listed.size := by rw [inv.size]; omega
          exact ih (t - j) (by omega) j rfl (by omega) (getD_in hjs hl) t (Nat.le_refl _) hr
    · have h1 := List.all_eq_true.1 hc t (List.mem_range.2 htlt)
      simp only [Bool.or_eq_true, decide_eq_true_eq] at h1
      rcases h1 with h1 | h1
      · omega
      · obtain ⟨j, hj, hj2⟩ := List.any_eq_true.1 h1
        simp only [Bool.and_eq_true, decide_eq_true_eq] at hj2
        obtain ⟨o', ho', e, he, hb, hon⟩ := Region.waitsFor_spec hj2.2
        have : o' = ot := Option.some.inj (ho'.symm.trans hot)
        subst this
        have h2 := hall e he hb
        have hjt := List.mem_range.1 hj
        rw [hon, getD_both (inv.tail j hj2.1 (by omega))] at h2
        cases h2

theorem wpAnyLQ_first2 {n i : Nat} {oi : Oper} {v : Value} {L : Array Bool → Act → Prop} (hi : ops[i]? = some oi) (hsel : ∀ (j : Nat) (o : Oper) cs b, ops[j]? = some o → o.op ≠ .select cs b)
    (hs : Region.sinkB md ops n = true) (hc : Region.chain2B md ops n = true) (hn : n < ops.size) (hin : i < n)
    (hdone : ∀ listed a, L listed a → ∀ j ∈ Region.ready md ops listed, n ≤ j) :
    ∀ (f : Nat) (listed : Array Bool) (a : Act), HeadInv md ops n listed →
      (∀ j oj, ops[j]? = some oj → j ≠ i → listed.getD j true = false → (∀ e ∈ oj.after, Region.binds md e = true → e.on ≠ i) → oi.apart ops oj = true) →
      i ∈ Region.ready md ops listed → YieldsIn P ops C oi v a →
      wpAnyLQ P md ops C n L f (listed.setIfInBounds i true) (a.put oi.dst v) → wpAnyLQ P md ops C n L (f + 1) listed a := by
  intro f
  induction f with
  | zero =>
    intro listed a inv _ hr hy H
    have hun := (mem_ready.1 hr).1
    refine ⟨fun h => (by rw [h] at hr; cases hr), fun j hj => ?_⟩
    have hjn : j < n := by
      rcases Nat.lt_or_ge j n with h | h
      · exact h
      · exact absurd hj (tail_waits2 hs hc hn inv _ i rfl hin hun j h)
    refine ⟨hjn, ?_⟩
    by_cases hji : j = i
    · subst hji; exact hy.qOp hi H
    · have := hdone _ _ H j (ready_mono hj hji)
      omega
  | succ f ih =>
    intro listed a inv hfree hr hy H
    have hun := (mem_ready.1 hr).1
    refine ⟨fun h => (by rw [h] at hr; cases hr), fun j hj => ?_⟩
    have hjn : j < n := by
      rcases Nat.lt_or_ge j n with h | h
      · exact h
      · exact absurd hj (tail_waits2 hs hc hn inv _ i rfl hin hun j h)
    refine ⟨hjn, ?_⟩
    by_cases hji : j = i
    · subst hji; exact hy.qOp hi H
    · have h1 := (H.2 j (ready_mono hj hji)).2
      obtain ⟨hjun, oj, hoj, hall⟩ := mem_ready.1 hj
      have hnot : ∀ e ∈ oj.after, Region.binds md e = true → e.on ≠ i := fun e he hb heq => by
        have h1 := hall e he hb
        rw [heq, getD_both hun] at h1
        cases h1
      have h2 := qOp_put hoj (hfree j oj hoj hji hjun hnot) (fun cs b => hsel i oi cs b hi) (fun cs b => hsel j oj cs b hoj) hy h1
      have hfree' : ∀ k ok, ops[k]? = some ok → k ≠ i → (listed.setIfInBounds j true).getD k true = false →
          (∀ e ∈ ok.after, Region.binds md e = true → e.on ≠ i) → oi.apart ops ok = true := fun k ok hk hki hun hno => by
        refine hfree k ok hk hki ?_ hno
        by_cases hjk : j = k
        · subst hjk; exact hjun
        · rw [getD_set_ne true hjk] at hun; exact hun
      refine qOp_mono (fun a' h3 => ih (listed.setIfInBounds j true) a' (inv.set hj hjn) hfree' (ready_mono hr (Ne.symm hji)) h3.1 ?_) h2
      rw [Array.setIfInBounds_comm _ _ hji]
      exact h3.2

/-- the middle: g operations, each the only one that may come up; then c operations that lie free -/
def Region.midB (md : Region.Mode) (ops : Array Oper) (c : Nat) : Nat → Nat → Array Bool → Bool
  | 0, k, listed => Region.lexFrom md ops c k listed
  | g + 1, k, listed => decide (Region.ready md ops listed = [k]) && Region.midB md ops c g (k + 1) (listed.setIfInBounds k true)
def Region.headMidB (md : Region.Mode) (ops : Array Oper) (c g : Nat) : Nat → Nat → Array Bool → Bool
  | 0, k, listed => Region.midB md ops c g k listed && decide (Region.ready md ops listed = [k])
  | f + 1, k, listed => (Region.ready md ops listed).contains k && Region.free md ops listed k && Region.headMidB md ops c g f (k + 1) (listed.setIfInBounds k true)
/-- behind the middle: the rest, in the text's order, in that very world -/
def ThenQuiet (P : Program) (ops : Array Oper) (l : List Oper) (Q : Exit → Act → World → Prop) : Exit → Act → World → Prop
  | .normal, a, w => wpQuiet P ops (fun x => x = w) (fun a' => Q .normal a' w) l a
  | e, a, w => Q e a w
theorem ThenQuiet.mk {l : List Oper} {Q : Exit → Act → World → Prop} {a : Act} {w : World} (h : wpQuiet P ops (fun x => x = w) (fun a' => Q .normal a' w) l a) : ThenQuiet P ops l Q .normal a w := h

theorem wp_then {o : Oper} {a : Act} {w : World} {K : Act → World → Prop} {t : List Oper} {Q : Exit → Act → World → Prop} (h : o.wp P a w K (ThenQuiet P ops t Q)) : o.wp P a w K Q := by
  unfold Oper.wp at *
  generalize (execOp a.eval o).run P w = r at *
  cases r with
  | ok n w' => cases n <;> first | exact h | exact Calls.mono h (fun e w'' he => by cases e <;> exact he)
  | halt x w' => cases x <;> exact h

theorem wpAny_of_mid (hsel : Region.noSelect ops = true) {Q : Exit → Act → World → Prop} (t : List Oper) : ∀ (l : List Oper) (k : Nat) (listed : Array Bool) (a : Act) (w : World), (∀ j, (l ++ t)[j]? = ops[k + j]?) →
    Region.midB md ops t.length l.length k listed = true → wpList P ops (ThenQuiet P ops t Q) l a w → wpAny P md ops Q (l.length + t.length) listed a w
  | [], k, listed, a, w, hl, hB, h => by
    have h1 := wpAnyQ_lex (P := P) (C := fun x => x = w) (md := md) (Q := fun a' => Q .normal a' w) hsel t k listed a (fun j => by simpa using hl j) (by simpa [Region.midB] using hB) h
    have := wpAny_of_quiet (P := P) (md := md) (ops := ops) (C := fun x => x = w) (Q := fun a' => Q .normal a' w) (Q' := Q) (fun a' w' hw' hq => by subst hw'; exact hq) t.length listed a w rfl h1
    simpa using this
  | o :: l, k, listed, a, w, hl, hB, h => by
    have h0 : ops[k]? = some o := by simpa using (hl 0).symm
    simp only [List.length_cons, Region.midB, Bool.and_eq_true, decide_eq_true_eq] at hB
    rw [show (o :: l).length + t.length = (l.length + t.length) + 1 by simp; omega]
    refine ⟨fun h1 => (by rw [hB.1] at h1; cases h1), fun i hi => ?_⟩
    rw [hB.1] at hi
    have hik : i = k := by simpa using hi
    subst hik
    have hw : wpOp P ops Q i (wpList P ops (ThenQuiet P ops t Q) l) a w := by
      unfold wpOp
      simp only [h0]
      unfold wpList at h
      split
      · rename_i q
        rw [if_pos q] at h
        exact h.imp wp_then id
      · rename_i q
        rw [if_neg q] at h
        exact h
    exact wpOp_mono (fun a' w' h' => wpAny_of_mid hsel t l (i + 1) _ a' w' (fun j => by have := hl (j + 1); simpa [Nat.add_assoc, Nat.add_comm 1 j] using this) hB.2 h') hw

theorem headMid_ready {c g k : Nat} {listed : Array Bool} (h : Region.headMidB md ops c g 0 k listed = true) : ∀ j ∈ Region.ready md ops listed, k ≤ j := by
  simp only [Region.headMidB, Bool.and_eq_true, decide_eq_true_eq] at h
  intro j hj
  rw [h.2] at hj
  have : j = k := by simpa using hj
  omega

theorem wpAnyLQ_lex2 {n c g : Nat} {Lq : Act → Prop} (hsel : Region.noSelect ops = true) (hs : Region.sinkB md ops n = true) (hc : Region.chain2B md ops n = true) (hn : n < ops.size) :
    ∀ (l : List Oper) (k : Nat) (listed : Array Bool) (a : Act), (∀ j, j < l.length → l[j]? = ops[k + j]?) → k + l.length = n → HeadInv md ops n listed →
    Region.headMidB md ops c g l.length k listed = true → wpQuiet P ops C Lq l a →
    wpAnyLQ P md ops C n (fun listed' a' => Region.headMidB md ops c g 0 n listed' = true ∧ Lq a') l.length listed a
  | [], k, listed, a, _, hk, _, hB, h => by
    have : k = n := by simpa using hk
    subst this
    exact ⟨by simpa using hB, h⟩
  | o :: l, k, listed, a, hl, hk, inv, hB, h => by
    have h0 : ops[k]? = some o := by simpa using (hl 0 (by simp)).symm
    simp only [List.length_cons, Region.headMidB, Bool.and_eq_true] at hB
    obtain ⟨⟨hr, hf⟩, hB'⟩ := hB
    have hkn : k < n := by simp only [List.length_cons] at hk; omega
    have hr' : k ∈ Region.ready md ops listed := by simpa using hr
    have hst : qOp P ops C k (wpQuiet P ops C Lq l) a := by unfold qOp; simp only [h0]; exact h
    obtain ⟨v, hy, hK⟩ := yieldsIn_of_qOp h0 hst
    exact wpAnyLQ_first2 h0 (Region.noSelect_spec hsel) hs hc hn hkn (fun listed' a' hL => headMid_ready hL.1) l.length listed a inv (Region.free_spec h0 hf) hr' hy
      (wpAnyLQ_lex2 hsel hs hc hn l (k + 1) _ _ (fun j hj => by have := hl (j + 1) (by simp; omega); simpa [Nat.add_assoc, Nat.add_comm 1 j] using this) (by simp only [List.length_cons] at hk; omega) (inv.set hr' hkn) hB' hK)

/-- the Bool over a region: a head of n operations, a middle of g, the rest -/
def Region.threeB (md : Region.Mode) (ops : Array Oper) (n g : Nat) : Bool :=
  Region.noSelect ops && decide (n + g ≤ ops.size) && decide (n < ops.size) && Region.sinkB md ops n && Region.chain2B md ops n && Region.headMidB md ops (ops.size - n - g) g n 0 (Array.replicate ops.size false)

theorem wp_region_three {id : Nat} {Q : Exit → Act → World → Prop} {a : Act} {w : World} {l : List Oper} (n g : Nat) (hm : P.follows .mixedOrders = true) (hB : Region.threeB .any l.toArray n g = true) (hC : C { w with drawn := w.drawn + 1 })
    (h : wpQuiet P l.toArray C (fun a' => ∀ w', C w' → wpList P l.toArray (ThenQuiet P l.toArray ((l.drop n).drop g) Q) ((l.drop n).take g) a' w') (l.take n) a) : (Code.region id l.toArray true).wp P Q a w := by
  simp only [Region.threeB, Bool.and_eq_true, decide_eq_true_eq] at hB
  obtain ⟨⟨⟨⟨⟨hsel, hng⟩, hn⟩, hs⟩, hc⟩, hlex⟩ := hB
  have hn' : n < l.length := by simpa using hn
  have hng' : n + g ≤ l.length := by simpa using hng
  have htl : (l.take n).length = n := by simp; omega
  have hgl : ((l.drop n).take g).length = g := by simp; omega
  have hdl : ((l.drop n).drop g).length = l.toArray.size - n - g := by simp; omega
  have inv0 : HeadInv .any l.toArray n (Array.replicate l.toArray.size false) :=
    ⟨by simp, fun j oj _ hl => (by rw [getD_replicate_false] at hl; cases hl), fun t _ ht => getD_in (by simpa using ht) (getD_replicate_false _ _)⟩
  have H := wpAnyLQ_lex2 (md := .any) (c := l.toArray.size - n - g) (g := g) hsel hs hc hn (l.take n) 0 _ a (fun j hj => by
    have hj' : j < n := by rw [htl] at hj; exact hj
    simp [hj']) (by simpa using htl) inv0 (by rw [htl]; exact hlex) h
  refine wp_region_any hm ?_
  have := wpAny_of_headQ (Q' := Q) (g := g + (l.toArray.size - n - g)) (fun listed a' w' hw' hL => by
    have hB2 := hL.1
    simp only [Region.headMidB, Bool.and_eq_true, decide_eq_true_eq] at hB2
    have := wpAny_of_mid (md := .any) (Q := Q) hsel ((l.drop n).drop g) ((l.drop n).take g) n listed a' w' (fun j => by rw [List.take_append_drop]; simp [List.getElem?_drop]) (by rw [hdl, hgl]; exact hB2.1) (hL.2 w' hw')
    rwa [hdl, hgl] at this) _ _ _ _ hC H
  rw [htl, show n + (g + (l.toArray.size - n - g)) = l.toArray.size by simp; omega] at this
  exact this

/-- the same, at the class of the worlds in which nothing old has turned -/
theorem wp_region_below_three {id : Nat} {Q : Exit → Act → World → Prop} {a : Act} {w : World} {l : List Oper} (n g : Nat) (hm : P.follows .mixedOrders = true) (hB : Region.threeB .any l.toArray n g = true)
    (h : wpQuiet P l.toArray (fun w' => ∃ p : Regrown, w' = grow (redrawn w p.d) p.os) (fun a' => ∀ w', (∃ p : Regrown, w' = grow (redrawn w p.d) p.os) → wpList P l.toArray (ThenQuiet P l.toArray ((l.drop n).drop g) Q) ((l.drop n).take g) a' w') (l.take n) a) : (Code.region id l.toArray true).wp P Q a w :=
  wp_region_three (C := fun w' => ∃ p : Regrown, w' = grow (redrawn w p.d) p.os) n g hm hB ⟨⟨w.drawn + 1, #[]⟩, by rw [grow_empty]; rfl⟩ h
end
end Go.Proofs.YtplgdlooglnpmaaGreat
