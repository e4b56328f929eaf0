/-
  The walk of integrity.Accuracy.
-/
import Derived.Test.YtplgdlooglnpmaaSol43
namespace Go.Proofs.Ytplgdlooglnpmaa
set_option linter.unusedVariables false
open Go.RowKit

theorem pOk_iff {v : Int} : pOk v = true ↔ -2000000 ≤ v ∧ v ≤ 2000000 := by unfold pOk; rw [decide_eq_true_iff]
theorem det_pos {l : List Ms} (h : chkL l = 0) (hd : detN l ≠ 0) : 0 < detN l := by have := det_nonneg l (chk_w h); omega
theorem reachB_of {l : List Ms} (h : OkL l) (hd : 0 < detN l) {cx cy : Int} (h0 : pOk cx = true) (h1 : pOk cy = true) : ReachB cx cy (solX l) (solY l) (noiX l) (noiY l) (detN l) := by
  have a := pOk_iff.1 h0
  have b := pOk_iff.1 h1
  have s := sol_bd (nrm_bd h)
  have n := noi_bd h
  exact ⟨⟨a.1, a.2, b.1, b.2⟩, s.x, s.y, n.1, n.2, hd, s.det.2⟩
/-- reach of a list -/
theorem reachL_any {l : List Ms} (h : OkL l) (hd : 0 < detN l) {cx cy : Int} (h0 : pOk cx = true) (h1 : pOk cy = true) (w : World) :
    Calls Try.prog 33 #[.agg #[.int .i64 cx, .int .i64 cy], .agg #[.int .i64 (hiW (solX l)), .int .u64 (loW (solX l)), .int .i64 (hiW (solY l)), .int .u64 (loW (solY l)), .int .i64 (hiW (noiX l)), .int .u64 (loW (noiX l)), .int .i64 (hiW (noiY l)), .int .u64 (loW (noiY l)), .int .i64 ((detN l))]] w fun e w' => e = .returned (.tuple #[.int .i64 (reachF cx cy l).1.1, .int .i64 (reachF cx cy l).1.2, .int .i64 (reachF cx cy l).2]) ∧ Below w.heap.size w w' :=
  reach_any cx cy (solX l) (solY l) (noiX l) (noiY l) (detN l) w (reachB_of h hd h0 h1)
theorem pair_bad (x y d : Int) : (pairF x y d).2 = 0 ∨ pairF x y d = ((0, 0), 2) := by unfold pairF; split; exact .inl rfl; exact .inr rfl
theorem reach_bad (cx cy : Int) (l : List Ms) : (reachF cx cy l).2 = 0 ∨ reachF cx cy l = ((0, 0), 2) := pair_bad _ _ _
def boxV (b : BoxI) : Value := .agg #[.int .i64 b.cx, .int .i64 b.cy, .int .i64 b.x, .int .i64 b.y]
set_option maxHeartbeats 40000000 in
set_option maxRecDepth 100000 in
theorem acc_any (l : List Ms) (v : Value) (w : World) (h : LstAt l v w) :
    Calls Try.prog 16 #[v] w fun e w' => e = .returned (.tuple #[boxV (accF l).1, .int .i64 (accF l).2]) ∧ Below w.heap.size w w' := by
  obtain ⟨p, cap, rfl⟩ := lst_form h
  by_cases hs : solE l = 0
  · obtain ⟨hc, hd, hx, hy⟩ := sol_chk hs
    have SO := Lib.hid fun w h => sol_ok l (.slice p l.length cap) w h hs
    have SV := Lib.hid fun w h => solve_any l (.slice p l.length cap) w h hc
    have RE := Lib.hid fun w => reachL_any (okL_of hc) (det_pos hc hd) hx hy w
    have EV : accF l = if (reachF (cenX l) (cenY l) l).2 = 0 then (⟨cenX l, cenY l, (reachF (cenX l) (cenY l) l).1.1, (reachF (cenX l) (cenY l) l).1.2⟩, 0) else (box0, 2) := by unfold accF; rw [if_pos hs]
    have RB := reach_bad (cenX l) (cenY l) l
    obtain ⟨R, hR⟩ : ∃ x, reachF (cenX l) (cenY l) l = x := ⟨_, rfl⟩
    rw [hR] at EV RE RB
    clear hR hs hc hd hx hy
    generalize solX l = X at *
    generalize solY l = Y at *
    generalize noiX l = U at *
    generalize noiY l = V at *
    generalize detN l = T at *
    generalize cenX l = cx at *
    generalize cenY l = cy at *
    rcases RB with RB | rfl
    · obtain ⟨⟨rx, ry⟩, re⟩ := R
      simp only at RB
      subst RB
      have HV := Lib.hid (EV.trans (if_pos rfl))
      clear EV
      have H0 := Lib.hid h
      have KZ := Lib.hid (Blk.of (vs := #[.int .i64 0, .int .i64 0, .int .i64 0, .int .i64 0]) (t := 32) (w := w) (b := w.heap.size) (by simp))
      have HB := Lib.hid ((Below.refl w.heap.size w).alloc (by simp; try omega) (.cells #[.int .i64 0, .int .i64 0, .int .i64 0, .int .i64 0] 32))
      go_enter Try.func16, Try.ntmps16
      clear h
      go_wp2_with fail
      generalize w.alloc (.cells #[.int .i64 0, .int .i64 0, .int .i64 0, .int .i64 0] 32) = w0 at *
      refine (SO.out _ (H0.out.below HB.out)).mono ?_
      rintro e1 w1 ⟨rfl, hb1⟩
      replace HB := Lib.hid (HB.out.trans (hb1.mono HB.out.size))
      replace KZ := Lib.hid (KZ.out.below hb1)
      clear hb1
      go_wp2_with fail
      have KS := Lib.hid (Blk.of (vs := #[.int .i64 (hiW X), .int .u64 (loW X), .int .i64 (hiW Y), .int .u64 (loW Y), .int .i64 T, .int .i64 cx, .int .i64 cy]) (t := 53) (w := w1) (b := w1.heap.size) rfl)
      have hb2 : Below w1.heap.size w1 (w1.alloc (.cells #[.int .i64 (hiW X), .int .u64 (loW X), .int .i64 (hiW Y), .int .u64 (loW Y), .int .i64 T, .int .i64 cx, .int .i64 cy] 53)) := (Below.refl _ _).alloc (Nat.le_refl _) _
      have hnS := HB.out.size
      have nzS_Z := KZ.out.lt
      replace HB := Lib.hid (HB.out.trans (hb2.mono HB.out.size))
      replace KZ := Lib.hid (KZ.out.below hb2)
      clear hb2
      generalize w1.alloc (.cells #[.int .i64 (hiW X), .int .u64 (loW X), .int .i64 (hiW Y), .int .u64 (loW Y), .int .i64 T, .int .i64 cx, .int .i64 cy] 53) = w2 at *
      generalize w1.heap.size = bS at *
      have neS_Z : bS ≠ w.heap.size := by omega
      clear nzS_Z
      have SVW := Lib.hid fun w1 (h : Below w2.heap.size w2 w1) => SV.out w1 (H0.out.below (HB.out.trans (h.mono HB.out.size)))
      have gS_5 := fun d os => cell_regrown (KS.out.c 5 _ rfl) d os
      have gS_6 := fun d os => cell_regrown (KS.out.c 6 _ rfl) d os
      have rv0 := Lib.hid (fun d os => Calls.regrown_of (SVW.out (Go.Sort.grow (redrawn w2 d) os) (below_regrown w2 d os)))
      have rv1 := Lib.hid (fun d os => Calls.regrown_of (RE.out (Go.Sort.grow (redrawn w2 d) os)))
      refine wp_region_quiet_below (by kernel_rfl) (by kernel_rfl) ?_
      repeat (quiet_step (first | with_reducible exact rv0.out _ _ | with_reducible exact rv1.out _ _))
      refine wpQuiet_nil ?_
      intro w9 hw9
      have hb9 : Below w2.heap.size w2 w9 := by
        obtain ⟨⟨dq, osq⟩, hw2⟩ := hw9
        rw [hw2]; exact below_regrown _ dq osq
      clear gS_5 gS_6 rv0 rv1 hw9 SVW
      replace HB := Lib.hid (HB.out.trans (hb9.mono HB.out.size))
      replace KZ := Lib.hid (KZ.out.below hb9)
      replace KS := Lib.hid (KS.out.below hb9)
      clear hb9
      have yZ := KZ.out
      have yZ_0 := yZ.c 0 _ rfl
      have yZ_1 := yZ.c 1 _ rfl
      have yZ_2 := yZ.c 2 _ rfl
      have yZ_3 := yZ.c 3 _ rfl
      have yZ_z := yZ.lt
      have yZ_f0 := yZ.f 0 _ rfl
      have yZ_f1 := yZ.f 1 _ rfl
      have yZ_f2 := yZ.f 2 _ rfl
      have yZ_f3 := yZ.f 3 _ rfl
      clear yZ
      have yS := KS.out
      have yS_0 := yS.c 0 _ rfl
      have yS_1 := yS.c 1 _ rfl
      have yS_2 := yS.c 2 _ rfl
      have yS_3 := yS.c 3 _ rfl
      have yS_4 := yS.c 4 _ rfl
      have yS_5 := yS.c 5 _ rfl
      have yS_6 := yS.c 6 _ rfl
      have yS_z := yS.lt
      clear yS
      go_wp2
      replace KZ := Lib.hid (blk_set (blk_set (blk_set (blk_set KZ.out (j := 0) (by simp) (.int .i64 cx)) (j := 1) (by simp) (.int .i64 cy)) (j := 2) (by simp) (.int .i64 rx)) (j := 3) (by simp) (.int .i64 ry))
      replace KS := Lib.hid (blk_other (b := bS) (n := w.heap.size) (j := 3) (blk_other (b := bS) (n := w.heap.size) (j := 2) (blk_other (b := bS) (n := w.heap.size) (j := 1) (blk_other (b := bS) (n := w.heap.size) (j := 0) KS.out (by omega) (.int .i64 cx)) (by omega) (.int .i64 cy)) (by omega) (.int .i64 rx)) (by omega) (.int .i64 ry))
      replace HB := Lib.hid ((((HB.out.setCell (p := ⟨w.heap.size, 0, none⟩) (show w.heap.size ≤ w.heap.size by omega) (.int .i64 cx)).setCell (p := ⟨w.heap.size, 1, none⟩) (show w.heap.size ≤ w.heap.size by omega) (.int .i64 cy)).setCell (p := ⟨w.heap.size, 2, none⟩) (show w.heap.size ≤ w.heap.size by omega) (.int .i64 rx)).setCell (p := ⟨w.heap.size, 3, none⟩) (show w.heap.size ≤ w.heap.size by omega) (.int .i64 ry))
      clear yZ_0 yZ_1 yZ_2 yZ_3 yZ_z yZ_f0 yZ_f1 yZ_f2 yZ_f3 yS_0 yS_1 yS_2 yS_3 yS_4 yS_5 yS_6 yS_z
      generalize (((w9.setCell ⟨w.heap.size, 0, none⟩ (.int .i64 cx)).setCell ⟨w.heap.size, 1, none⟩ (.int .i64 cy)).setCell ⟨w.heap.size, 2, none⟩ (.int .i64 rx)).setCell ⟨w.heap.size, 3, none⟩ (.int .i64 ry) = w10 at *
      simp only [List.set] at KZ
      have yZ := KZ.out
      have yZ_0 := yZ.c 0 _ rfl
      have yZ_1 := yZ.c 1 _ rfl
      have yZ_2 := yZ.c 2 _ rfl
      have yZ_3 := yZ.c 3 _ rfl
      have yZ_z := yZ.lt
      clear yZ
      refine bodyPost_ret (v := .tuple #[.agg #[.int .i64 cx, .int .i64 cy, .int .i64 rx, .int .i64 ry], .int .i64 0]) (by simp [results, Try.results16, go_sem, yZ_0, yZ_1, yZ_2, yZ_3]) rfl ⟨by rw [HV.out]; rfl, HB.out⟩
    · have HV := Lib.hid (EV.trans (if_neg (by simp)))
      clear EV
      have H0 := Lib.hid h
      have KZ := Lib.hid (Blk.of (vs := #[.int .i64 0, .int .i64 0, .int .i64 0, .int .i64 0]) (t := 32) (w := w) (b := w.heap.size) (by simp))
      have HB := Lib.hid ((Below.refl w.heap.size w).alloc (by simp; try omega) (.cells #[.int .i64 0, .int .i64 0, .int .i64 0, .int .i64 0] 32))
      go_enter Try.func16, Try.ntmps16
      clear h
      go_wp2_with fail
      generalize w.alloc (.cells #[.int .i64 0, .int .i64 0, .int .i64 0, .int .i64 0] 32) = w0 at *
      refine (SO.out _ (H0.out.below HB.out)).mono ?_
      rintro e1 w1 ⟨rfl, hb1⟩
      replace HB := Lib.hid (HB.out.trans (hb1.mono HB.out.size))
      replace KZ := Lib.hid (KZ.out.below hb1)
      clear hb1
      go_wp2_with fail
      have KS := Lib.hid (Blk.of (vs := #[.int .i64 (hiW X), .int .u64 (loW X), .int .i64 (hiW Y), .int .u64 (loW Y), .int .i64 T, .int .i64 cx, .int .i64 cy]) (t := 53) (w := w1) (b := w1.heap.size) rfl)
      have hb2 : Below w1.heap.size w1 (w1.alloc (.cells #[.int .i64 (hiW X), .int .u64 (loW X), .int .i64 (hiW Y), .int .u64 (loW Y), .int .i64 T, .int .i64 cx, .int .i64 cy] 53)) := (Below.refl _ _).alloc (Nat.le_refl _) _
      have hnS := HB.out.size
      have nzS_Z := KZ.out.lt
      replace HB := Lib.hid (HB.out.trans (hb2.mono HB.out.size))
      replace KZ := Lib.hid (KZ.out.below hb2)
      clear hb2
      generalize w1.alloc (.cells #[.int .i64 (hiW X), .int .u64 (loW X), .int .i64 (hiW Y), .int .u64 (loW Y), .int .i64 T, .int .i64 cx, .int .i64 cy] 53) = w2 at *
      generalize w1.heap.size = bS at *
      have neS_Z : bS ≠ w.heap.size := by omega
      clear nzS_Z
      have SVW := Lib.hid fun w1 (h : Below w2.heap.size w2 w1) => SV.out w1 (H0.out.below (HB.out.trans (h.mono HB.out.size)))
      have gS_5 := fun d os => cell_regrown (KS.out.c 5 _ rfl) d os
      have gS_6 := fun d os => cell_regrown (KS.out.c 6 _ rfl) d os
      have rv0 := Lib.hid (fun d os => Calls.regrown_of (SVW.out (Go.Sort.grow (redrawn w2 d) os) (below_regrown w2 d os)))
      have rv1 := Lib.hid (fun d os => Calls.regrown_of (RE.out (Go.Sort.grow (redrawn w2 d) os)))
      refine wp_region_quiet_below (by kernel_rfl) (by kernel_rfl) ?_
      repeat (quiet_step (first | with_reducible exact rv0.out _ _ | with_reducible exact rv1.out _ _))
      refine wpQuiet_nil ?_
      intro w9 hw9
      have hb9 : Below w2.heap.size w2 w9 := by
        obtain ⟨⟨dq, osq⟩, hw2⟩ := hw9
        rw [hw2]; exact below_regrown _ dq osq
      clear gS_5 gS_6 rv0 rv1 hw9 SVW
      replace HB := Lib.hid (HB.out.trans (hb9.mono HB.out.size))
      replace KZ := Lib.hid (KZ.out.below hb9)
      replace KS := Lib.hid (KS.out.below hb9)
      clear hb9
      have yZ := KZ.out
      have yZ_0 := yZ.c 0 _ rfl
      have yZ_1 := yZ.c 1 _ rfl
      have yZ_2 := yZ.c 2 _ rfl
      have yZ_3 := yZ.c 3 _ rfl
      have yZ_z := yZ.lt
      have yZ_f0 := yZ.f 0 _ rfl
      have yZ_f1 := yZ.f 1 _ rfl
      have yZ_f2 := yZ.f 2 _ rfl
      have yZ_f3 := yZ.f 3 _ rfl
      clear yZ
      have yS := KS.out
      have yS_0 := yS.c 0 _ rfl
      have yS_1 := yS.c 1 _ rfl
      have yS_2 := yS.c 2 _ rfl
      have yS_3 := yS.c 3 _ rfl
      have yS_4 := yS.c 4 _ rfl
      have yS_5 := yS.c 5 _ rfl
      have yS_6 := yS.c 6 _ rfl
      have yS_z := yS.lt
      clear yS
      go_wp2
      replace KZ := Lib.hid (blk_set (blk_set (blk_set (blk_set KZ.out (j := 0) (by simp) (.int .i64 0)) (j := 1) (by simp) (.int .i64 0)) (j := 2) (by simp) (.int .i64 0)) (j := 3) (by simp) (.int .i64 0))
      replace KS := Lib.hid (blk_other (b := bS) (n := w.heap.size) (j := 3) (blk_other (b := bS) (n := w.heap.size) (j := 2) (blk_other (b := bS) (n := w.heap.size) (j := 1) (blk_other (b := bS) (n := w.heap.size) (j := 0) KS.out (by omega) (.int .i64 0)) (by omega) (.int .i64 0)) (by omega) (.int .i64 0)) (by omega) (.int .i64 0))
      replace HB := Lib.hid ((((HB.out.setCell (p := ⟨w.heap.size, 0, none⟩) (show w.heap.size ≤ w.heap.size by omega) (.int .i64 0)).setCell (p := ⟨w.heap.size, 1, none⟩) (show w.heap.size ≤ w.heap.size by omega) (.int .i64 0)).setCell (p := ⟨w.heap.size, 2, none⟩) (show w.heap.size ≤ w.heap.size by omega) (.int .i64 0)).setCell (p := ⟨w.heap.size, 3, none⟩) (show w.heap.size ≤ w.heap.size by omega) (.int .i64 0))
      clear yZ_0 yZ_1 yZ_2 yZ_3 yZ_z yZ_f0 yZ_f1 yZ_f2 yZ_f3 yS_0 yS_1 yS_2 yS_3 yS_4 yS_5 yS_6 yS_z
      generalize (((w9.setCell ⟨w.heap.size, 0, none⟩ (.int .i64 0)).setCell ⟨w.heap.size, 1, none⟩ (.int .i64 0)).setCell ⟨w.heap.size, 2, none⟩ (.int .i64 0)).setCell ⟨w.heap.size, 3, none⟩ (.int .i64 0) = w10 at *
      simp only [List.set] at KZ
      have yZ := KZ.out
      have yZ_0 := yZ.c 0 _ rfl
      have yZ_1 := yZ.c 1 _ rfl
      have yZ_2 := yZ.c 2 _ rfl
      have yZ_3 := yZ.c 3 _ rfl
      have yZ_z := yZ.lt
      clear yZ
      refine bodyPost_ret (v := .tuple #[.agg #[.int .i64 0, .int .i64 0, .int .i64 0, .int .i64 0], .int .i64 2]) (by simp [results, Try.results16, go_sem, yZ_0, yZ_1, yZ_2, yZ_3]) rfl ⟨by rw [HV.out]; rfl, HB.out⟩
  · have SO := Lib.hid fun w h => sol_bad l (.slice p l.length cap) w h hs
    have HV : Hid (accF l = (box0, solE l)) := Lib.hid (by unfold accF; rw [if_neg hs])
    have g : (solE l != 0) = true := by simpa using hs
    have g' : (solE l == 0) = false := by simpa using hs
    clear hs
    generalize solE l = c at *
    have H0 := Lib.hid h
    have KZ := Lib.hid (Blk.of (vs := #[.int .i64 0, .int .i64 0, .int .i64 0, .int .i64 0]) (t := 32) (w := w) (b := w.heap.size) (by simp))
    have HB := Lib.hid ((Below.refl w.heap.size w).alloc (by simp; try omega) (.cells #[.int .i64 0, .int .i64 0, .int .i64 0, .int .i64 0] 32))
    go_enter Try.func16, Try.ntmps16
    clear h
    go_wp2_with fail
    generalize w.alloc (.cells #[.int .i64 0, .int .i64 0, .int .i64 0, .int .i64 0] 32) = w0 at *
    refine (SO.out _ (H0.out.below HB.out)).mono ?_
    rintro e1 w1 ⟨rfl, hb1⟩
    replace HB := Lib.hid (HB.out.trans (hb1.mono HB.out.size))
    replace KZ := Lib.hid (KZ.out.below hb1)
    clear hb1
    have yZ := KZ.out
    have yZ_0 := yZ.c 0 _ rfl
    have yZ_1 := yZ.c 1 _ rfl
    have yZ_2 := yZ.c 2 _ rfl
    have yZ_3 := yZ.c 3 _ rfl
    have yZ_z := yZ.lt
    have yZ_f0 := yZ.f 0 _ rfl
    have yZ_f1 := yZ.f 1 _ rfl
    have yZ_f2 := yZ.f 2 _ rfl
    have yZ_f3 := yZ.f 3 _ rfl
    clear yZ
    go_wp2
    replace KZ := Lib.hid (blk_set (blk_set (blk_set (blk_set KZ.out (j := 0) (by simp) (.int .i64 0)) (j := 1) (by simp) (.int .i64 0)) (j := 2) (by simp) (.int .i64 0)) (j := 3) (by simp) (.int .i64 0))
    replace HB := Lib.hid ((((HB.out.setCell (p := ⟨w.heap.size, 0, none⟩) (show w.heap.size ≤ w.heap.size by omega) (.int .i64 0)).setCell (p := ⟨w.heap.size, 1, none⟩) (show w.heap.size ≤ w.heap.size by omega) (.int .i64 0)).setCell (p := ⟨w.heap.size, 2, none⟩) (show w.heap.size ≤ w.heap.size by omega) (.int .i64 0)).setCell (p := ⟨w.heap.size, 3, none⟩) (show w.heap.size ≤ w.heap.size by omega) (.int .i64 0))
    clear yZ_0 yZ_1 yZ_2 yZ_3 yZ_z yZ_f0 yZ_f1 yZ_f2 yZ_f3
    generalize (((w1.setCell ⟨w.heap.size, 0, none⟩ (.int .i64 0)).setCell ⟨w.heap.size, 1, none⟩ (.int .i64 0)).setCell ⟨w.heap.size, 2, none⟩ (.int .i64 0)).setCell ⟨w.heap.size, 3, none⟩ (.int .i64 0) = w2 at *
    simp only [List.set] at KZ
    have KS := Lib.hid (Blk.of (vs := #[.int .i64 0, .int .u64 0, .int .i64 0, .int .u64 0, .int .i64 0, .int .i64 0, .int .i64 0]) (t := 53) (w := w2) (b := w2.heap.size) rfl)
    have hb3 : Below w2.heap.size w2 (w2.alloc (.cells #[.int .i64 0, .int .u64 0, .int .i64 0, .int .u64 0, .int .i64 0, .int .i64 0, .int .i64 0] 53)) := (Below.refl _ _).alloc (Nat.le_refl _) _
    have hnS := HB.out.size
    have nzS_Z := KZ.out.lt
    replace HB := Lib.hid (HB.out.trans (hb3.mono HB.out.size))
    replace KZ := Lib.hid (KZ.out.below hb3)
    clear hb3
    generalize w2.alloc (.cells #[.int .i64 0, .int .u64 0, .int .i64 0, .int .u64 0, .int .i64 0, .int .i64 0, .int .i64 0] 53) = w3 at *
    generalize w2.heap.size = bS at *
    have neS_Z : bS ≠ w.heap.size := by omega
    clear nzS_Z
    have yZ := KZ.out
    have yZ_0 := yZ.c 0 _ rfl
    have yZ_1 := yZ.c 1 _ rfl
    have yZ_2 := yZ.c 2 _ rfl
    have yZ_3 := yZ.c 3 _ rfl
    have yZ_z := yZ.lt
    clear yZ
    refine bodyPost_ret (v := .tuple #[.agg #[.int .i64 0, .int .i64 0, .int .i64 0, .int .i64 0], .int .i64 c]) (by simp [results, Try.results16, go_sem, yZ_0, yZ_1, yZ_2, yZ_3]) rfl ⟨by rw [HV.out]; rfl, HB.out⟩
end Go.Proofs.Ytplgdlooglnpmaa
