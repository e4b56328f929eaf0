/-
  Walks and laws of the layers below, gathered from several texts.
-/
import Derived.Test.YtplgdlooglnpmaaGreatLN43x9
namespace Go.Proofs.YtplgdlooglnpmaaGreat
set_option linter.unusedVariables false
open Go.RowKit
/-- the parts of a box around the solution, as the reference computes them -/
structure RRe (cx cy X Y NX NY D va vb : Int) (R : (Int × Int) × Int) : Prop where
  ax : ∀ w, Calls Tryz.prog 32 #[.int .i64 cx, wv X, .int .i64 D] w fun e w' => e = .returned (wv va) ∧ Below w.heap.size w w'
  ay : ∀ w, Calls Tryz.prog 32 #[.int .i64 cy, wv Y, .int .i64 D] w fun e w' => e = .returned (wv vb) ∧ Below w.heap.size w w'
  px : ∀ w, Calls Tryz.prog 31 #[wv NX, wv va] w fun e w' => e = .returned (wv (NX + va)) ∧ Below w.heap.size w w'
  py : ∀ w, Calls Tryz.prog 31 #[wv NY, wv vb] w fun e w' => e = .returned (wv (NY + vb)) ∧ Below w.heap.size w w'
  sz : ∀ w, Calls Tryz.prog 30 #[wv (NX + va), wv (NY + vb), .int .i64 D] w fun e w' => e = .returned (.tuple #[.int .i64 R.1.1, .int .i64 R.1.2, .int .i64 R.2]) ∧ Below w.heap.size w w'
theorem rre_of {cx cy X Y NX NY D : Int} (h : ReachB cx cy X Y NX NY D) : RRe cx cy X Y NX NY D (apartI cx X D) (apartI cy Y D) (pairF (apartI cx X D + NX) (apartI cy Y D + NY) D) := by
  obtain ⟨⟨c0, c1, c2, c3⟩, ⟨x0, x1⟩, ⟨y0, y1⟩, ⟨nx0, nx1⟩, ⟨ny0, ny1⟩, d0, d1⟩ := h
  obtain ⟨a0, a1, a2, a3⟩ := apart_bd c0 c1 d0 d1 x0 x1
  obtain ⟨b0, b1, b2, b3⟩ := apart_bd c2 c3 d0 d1 y0 y1
  rw [Int.add_comm (apartI cx X D) NX, Int.add_comm (apartI cy Y D) NY]
  refine ⟨fun w => rapart_any cx X D w ⟨by omega, by omega⟩ ⟨by omega, by omega⟩ ⟨by omega, by omega⟩ ⟨by omega, by omega⟩ ⟨by omega, by omega⟩, fun w => rapart_any cy Y D w ⟨by omega, by omega⟩ ⟨by omega, by omega⟩ ⟨by omega, by omega⟩ ⟨by omega, by omega⟩ ⟨by omega, by omega⟩, ?_, ?_, ?_⟩ <;> unfold apartI <;> intro w
  · exact rplus_any _ _ w ⟨by omega, by omega⟩ ⟨by omega, by omega⟩ ⟨by omega, by omega⟩
  · exact rplus_any _ _ w ⟨by omega, by omega⟩ ⟨by omega, by omega⟩ ⟨by omega, by omega⟩
  · exact rpair_any _ _ D w (by omega) (by omega) (by omega) (by omega) d0 (by omega)
theorem rre_list {l : List Ms} (h : OkL l) (hd : 0 < detN l) {cx cy : Int} (h0 : pOk cx = true) (h1 : pOk cy = true) : RRe cx cy (solX l) (solY l) (noiX l) (noiY l) (detN l) (apartI cx (solX l) (detN l)) (apartI cy (solY l) (detN l)) (reachF cx cy l) :=
  rre_of (reachB_of h hd h0 h1)
set_option maxHeartbeats 8000000 in
set_option maxRecDepth 100000 in
theorem rNoise_any (l : List Ms) (v : Value) (w : World) (h : LstAt l v w) :
    Calls Tryz.prog 11 #[v] w fun e w' => e = .returned (.tuple #[.int .i64 (noiF l).1.1, .int .i64 (noiF l).1.2, .int .i64 (noiF l).2]) ∧ Below w.heap.size w w' := by
  obtain ⟨p, cap, rfl⟩ := lst_form h
  by_cases hs : solE l = 0
  · obtain ⟨hc, hd, hx, hy⟩ := sol_chk hs
    have SO := Lib.hid fun w h => rsol_ok l (.slice p l.length cap) w h hs
    have NS := Lib.hid fun w h => rnoise_any l (.slice p l.length cap) w h hc
    have HV : Hid (noiF l = pairF (noiX l) (noiY l) (detN l)) := Lib.hid (by unfold noiF; rw [if_pos hs])
    have nb := noi_bd (okL_of hc)
    have db := (sol_bd (nrm_bd (okL_of hc))).det
    have dp := det_pos hc hd
    have SZ := Lib.hid fun w => rpair_any (noiX l) (noiY l) (detN l) w nb.1.1 (by omega) nb.2.1 (by omega) dp (by omega)
    unfold wv at SZ
    clear hs hc hd hx hy nb db dp
    generalize solX l = X at *
    generalize solY l = Y at *
    generalize cenX l = cx at *
    generalize cenY l = cy at *
    generalize pairF (noiX l) (noiY l) (detN l) = R at *
    generalize noiX l = U at *
    generalize noiY l = V at *
    generalize detN l = T at *
    have H0 := Lib.hid h
    have HB := Lib.hid (Below.refl w.heap.size w)
    go_enter Tryz.func11, Tryz.ntmps11
    clear h
    go_wp2_with fail
    refine (SO.out _ H0.out).mono ?_
    rintro e1 w1 ⟨rfl, hb1⟩
    replace HB := Lib.hid (HB.out.trans (hb1.mono HB.out.size))
    clear hb1
    go_wp2_with fail
    have KS := Lib.hid (Blk.of (vs := #[.int .i64 (hiW X), .int .u64 (loW X), .int .i64 (hiW Y), .int .u64 (loW Y), .int .i64 T, .int .i64 cx, .int .i64 cy]) (t := 51) (w := w1) (b := w1.heap.size) rfl)
    have hb2 : Below w1.heap.size w1 (w1.alloc (.cells #[.int .i64 (hiW X), .int .u64 (loW X), .int .i64 (hiW Y), .int .u64 (loW Y), .int .i64 T, .int .i64 cx, .int .i64 cy] 51)) := (Below.refl _ _).alloc (Nat.le_refl _) _
    have hnS := HB.out.size
    replace HB := Lib.hid (HB.out.trans (hb2.mono HB.out.size))
    clear hb2
    generalize w1.alloc (.cells #[.int .i64 (hiW X), .int .u64 (loW X), .int .i64 (hiW Y), .int .u64 (loW Y), .int .i64 T, .int .i64 cx, .int .i64 cy] 51) = w2 at *
    generalize w1.heap.size = bS at *
    refine (NS.out _ (H0.out.below HB.out)).mono ?_
    rintro e3 w3 ⟨rfl, hb3⟩
    replace HB := Lib.hid (HB.out.trans (hb3.mono HB.out.size))
    replace KS := Lib.hid (KS.out.below hb3)
    clear hb3
    have yS := KS.out
    have yS_0 := yS.c 0 _ rfl
    have yS_1 := yS.c 1 _ rfl
    have yS_2 := yS.c 2 _ rfl
    have yS_3 := yS.c 3 _ rfl
    have yS_4 := yS.c 4 _ rfl
    have yS_5 := yS.c 5 _ rfl
    have yS_6 := yS.c 6 _ rfl
    have yS_z := yS.lt
    clear yS
    go_wp2_with fail
    have KA := Lib.hid ((Blk.of (vs := #[.int .i64 (hiW U), .int .u64 (loW U)]) (t := 49) (w := w3) (b := w3.heap.size) rfl).alloc (.cells #[.int .i64 (hiW V), .int .u64 (loW V)] 49))
    have KB := Lib.hid (Blk.of (vs := #[.int .i64 (hiW V), .int .u64 (loW V)]) (t := 49) (w := w3.alloc (.cells #[.int .i64 (hiW U), .int .u64 (loW U)] 49)) (b := w3.heap.size + 1) (by simp))
    have hb4 : Below w3.heap.size w3 ((w3.alloc (.cells #[.int .i64 (hiW U), .int .u64 (loW U)] 49)).alloc (.cells #[.int .i64 (hiW V), .int .u64 (loW V)] 49)) := ((Below.refl _ _).alloc (Nat.le_refl _) _).alloc (by simp) _
    have hnA := HB.out.size
    have nzA_S := KS.out.lt
    replace HB := Lib.hid (HB.out.trans (hb4.mono HB.out.size))
    replace KS := Lib.hid (KS.out.below hb4)
    clear yS_0 yS_1 yS_2 yS_3 yS_4 yS_5 yS_6 yS_z
    clear hb4
    generalize (w3.alloc (.cells #[.int .i64 (hiW U), .int .u64 (loW U)] 49)).alloc (.cells #[.int .i64 (hiW V), .int .u64 (loW V)] 49) = w4 at *
    generalize w3.heap.size = bA at *
    have neA_S : bA ≠ bS := by omega
    have neB_S : bA + 1 ≠ bS := by omega
    clear nzA_S
    refine (SZ.out _).mono ?_
    rintro e5 w5 ⟨rfl, hb5⟩
    replace HB := Lib.hid (HB.out.trans (hb5.mono HB.out.size))
    replace KS := Lib.hid (KS.out.below hb5)
    replace KA := Lib.hid (KA.out.below hb5)
    replace KB := Lib.hid (KB.out.below hb5)
    clear hb5
    go_wp2
    refine bodyPost_ret (v := .tuple #[.int .i64 R.1.1, .int .i64 R.1.2, .int .i64 R.2]) (by simp [results, Tryz.results11, go_sem]) rfl ⟨by rw [HV.out], HB.out⟩
  · have SO := Lib.hid fun w h => rsol_bad l (.slice p l.length cap) w h hs
    have HV : Hid (noiF l = ((0, 0), solE l)) := Lib.hid (by unfold noiF; rw [if_neg hs])
    have g : (solE l != 0) = true := by simpa using hs
    have g' : (solE l == 0) = false := by simpa using hs
    clear hs
    generalize solE l = c at *
    have H0 := Lib.hid h
    have HB := Lib.hid (Below.refl w.heap.size w)
    go_enter Tryz.func11, Tryz.ntmps11
    clear h
    go_wp2_with fail
    refine (SO.out _ H0.out).mono ?_
    rintro e1 w1 ⟨rfl, hb1⟩
    replace HB := Lib.hid (HB.out.trans (hb1.mono HB.out.size))
    clear hb1
    go_wp2
    have KS := Lib.hid (Blk.of (vs := #[.int .i64 0, .int .u64 0, .int .i64 0, .int .u64 0, .int .i64 0, .int .i64 0, .int .i64 0]) (t := 51) (w := w1) (b := w1.heap.size) rfl)
    have hb2 : Below w1.heap.size w1 (w1.alloc (.cells #[.int .i64 0, .int .u64 0, .int .i64 0, .int .u64 0, .int .i64 0, .int .i64 0, .int .i64 0] 51)) := (Below.refl _ _).alloc (Nat.le_refl _) _
    have hnS := HB.out.size
    replace HB := Lib.hid (HB.out.trans (hb2.mono HB.out.size))
    clear hb2
    generalize w1.alloc (.cells #[.int .i64 0, .int .u64 0, .int .i64 0, .int .u64 0, .int .i64 0, .int .i64 0, .int .i64 0] 51) = w2 at *
    generalize w1.heap.size = bS at *
    refine bodyPost_ret (v := .tuple #[.int .i64 0, .int .i64 0, .int .i64 c]) (by simp [results, Tryz.results11, go_sem]) rfl ⟨by rw [HV.out], HB.out⟩
set_option maxHeartbeats 40000000 in
set_option maxRecDepth 100000 in
theorem racc_any (l : List Ms) (v : Value) (w : World) (h : LstAt l v w) :
    Calls Tryz.prog 13 #[v] w fun e w' => e = .returned (.tuple #[boxV (accF l).1, .int .i64 (accF l).2]) ∧ Below w.heap.size w w' := by
  obtain ⟨p, cap, rfl⟩ := lst_form h
  by_cases hs : solE l = 0
  · obtain ⟨hc, hd, hx, hy⟩ := sol_chk hs
    have SO := Lib.hid fun w h => rsol_ok l (.slice p l.length cap) w h hs
    have NS := Lib.hid fun w h => rnoise_any l (.slice p l.length cap) w h hc
    obtain ⟨ax, ay, px, py, sz⟩ := rre_list (okL_of hc) (det_pos hc hd) hx hy
    have EV : accF l = if (reachF (cenX l) (cenY l) l).2 = 0 then (⟨cenX l, cenY l, (reachF (cenX l) (cenY l) l).1.1, (reachF (cenX l) (cenY l) l).1.2⟩, 0) else (box0, 2) := by unfold accF; rw [if_pos hs]
    have RB := reach_bad (cenX l) (cenY l) l
    obtain ⟨R, hR⟩ : ∃ x, reachF (cenX l) (cenY l) l = x := ⟨_, rfl⟩
    rw [hR] at EV RB sz
    generalize noiX l + apartI (cenX l) (solX l) (detN l) = px' at *
    generalize noiY l + apartI (cenY l) (solY l) (detN l) = py' at *
    generalize apartI (cenX l) (solX l) (detN l) = ax' at *
    generalize apartI (cenY l) (solY l) (detN l) = ay' at *
    unfold wv at ax ay px py sz
    have AX := Lib.hid ax
    have AY := Lib.hid ay
    have PX := Lib.hid px
    have PY := Lib.hid py
    clear hR hs hc hd hx hy ax ay px py
    generalize solX l = X at *
    generalize solY l = Y at *
    generalize cenX l = cx at *
    generalize cenY l = cy at *
    generalize noiX l = U at *
    generalize noiY l = V at *
    generalize detN l = T at *
    rcases RB with RB | rfl
    · obtain ⟨⟨rx, ry⟩, re⟩ := R
      simp only at RB
      subst RB
      have SZ := Lib.hid sz
      clear sz
      have HV := Lib.hid (EV.trans (if_pos rfl))
      clear EV
      have H0 := Lib.hid h
      have KZ := Lib.hid (Blk.of (vs := #[.int .i64 0, .int .i64 0, .int .i64 0, .int .i64 0]) (t := 28) (w := w) (b := w.heap.size) (by simp))
      have HB := Lib.hid ((Below.refl w.heap.size w).alloc (by simp; try omega) (.cells #[.int .i64 0, .int .i64 0, .int .i64 0, .int .i64 0] 28))
      go_enter Tryz.func13, Tryz.ntmps13
      clear h
      go_wp2_with fail
      generalize w.alloc (.cells #[.int .i64 0, .int .i64 0, .int .i64 0, .int .i64 0] 28) = w0 at *
      refine (SO.out _ (H0.out.below HB.out)).mono ?_
      rintro e1 w1 ⟨rfl, hb1⟩
      replace HB := Lib.hid (HB.out.trans (hb1.mono HB.out.size))
      replace KZ := Lib.hid (KZ.out.below hb1)
      clear hb1
      go_wp2_with fail
      have KS := Lib.hid (Blk.of (vs := #[.int .i64 (hiW X), .int .u64 (loW X), .int .i64 (hiW Y), .int .u64 (loW Y), .int .i64 T, .int .i64 cx, .int .i64 cy]) (t := 51) (w := w1) (b := w1.heap.size) rfl)
      have hb2 : Below w1.heap.size w1 (w1.alloc (.cells #[.int .i64 (hiW X), .int .u64 (loW X), .int .i64 (hiW Y), .int .u64 (loW Y), .int .i64 T, .int .i64 cx, .int .i64 cy] 51)) := (Below.refl _ _).alloc (Nat.le_refl _) _
      have hnS := HB.out.size
      have nzS_Z := KZ.out.lt
      replace HB := Lib.hid (HB.out.trans (hb2.mono HB.out.size))
      replace KZ := Lib.hid (KZ.out.below hb2)
      clear hb2
      generalize w1.alloc (.cells #[.int .i64 (hiW X), .int .u64 (loW X), .int .i64 (hiW Y), .int .u64 (loW Y), .int .i64 T, .int .i64 cx, .int .i64 cy] 51) = w2 at *
      generalize w1.heap.size = bS at *
      have neS_Z : bS ≠ w.heap.size := by omega
      clear nzS_Z
      refine (NS.out _ (H0.out.below HB.out)).mono ?_
      rintro e3 w3 ⟨rfl, hb3⟩
      replace HB := Lib.hid (HB.out.trans (hb3.mono HB.out.size))
      replace KZ := Lib.hid (KZ.out.below hb3)
      replace KS := Lib.hid (KS.out.below hb3)
      clear hb3
      go_wp2_with fail
      have KA := Lib.hid ((Blk.of (vs := #[.int .i64 (hiW U), .int .u64 (loW U)]) (t := 49) (w := w3) (b := w3.heap.size) rfl).alloc (.cells #[.int .i64 (hiW V), .int .u64 (loW V)] 49))
      have KB := Lib.hid (Blk.of (vs := #[.int .i64 (hiW V), .int .u64 (loW V)]) (t := 49) (w := w3.alloc (.cells #[.int .i64 (hiW U), .int .u64 (loW U)] 49)) (b := w3.heap.size + 1) (by simp))
      have hb4 : Below w3.heap.size w3 ((w3.alloc (.cells #[.int .i64 (hiW U), .int .u64 (loW U)] 49)).alloc (.cells #[.int .i64 (hiW V), .int .u64 (loW V)] 49)) := ((Below.refl _ _).alloc (Nat.le_refl _) _).alloc (by simp) _
      have hnA := HB.out.size
      have nzA_Z := KZ.out.lt
      have nzA_S := KS.out.lt
      replace HB := Lib.hid (HB.out.trans (hb4.mono HB.out.size))
      replace KZ := Lib.hid (KZ.out.below hb4)
      replace KS := Lib.hid (KS.out.below hb4)
      clear hb4
      generalize (w3.alloc (.cells #[.int .i64 (hiW U), .int .u64 (loW U)] 49)).alloc (.cells #[.int .i64 (hiW V), .int .u64 (loW V)] 49) = w4 at *
      generalize w3.heap.size = bA at *
      have neA_Z : bA ≠ w.heap.size := by omega
      have neB_Z : bA + 1 ≠ w.heap.size := by omega
      have neA_S : bA ≠ bS := by omega
      have neB_S : bA + 1 ≠ bS := by omega
      clear nzA_Z nzA_S
      have gS_0 := fun d os => cell_regrown (KS.out.c 0 _ rfl) d os
      have gS_1 := fun d os => cell_regrown (KS.out.c 1 _ rfl) d os
      have gS_2 := fun d os => cell_regrown (KS.out.c 2 _ rfl) d os
      have gS_3 := fun d os => cell_regrown (KS.out.c 3 _ rfl) d os
      have gS_4 := fun d os => cell_regrown (KS.out.c 4 _ rfl) d os
      have gS_5 := fun d os => cell_regrown (KS.out.c 5 _ rfl) d os
      have gS_6 := fun d os => cell_regrown (KS.out.c 6 _ rfl) d os
      have gA_0 := fun d os => cell_regrown (KA.out.c 0 _ rfl) d os
      have gA_1 := fun d os => cell_regrown (KA.out.c 1 _ rfl) d os
      have gB_0 := fun d os => cell_regrown (KB.out.c 0 _ rfl) d os
      have gB_1 := fun d os => cell_regrown (KB.out.c 1 _ rfl) d os
      have rv0 := Lib.hid (fun d os => Calls.regrown_of (AX.out (Go.Sort.grow (redrawn w4 d) os)))
      have rv1 := Lib.hid (fun d os => Calls.regrown_of (AY.out (Go.Sort.grow (redrawn w4 d) os)))
      have rv2 := Lib.hid (fun d os => Calls.regrown_of (PX.out (Go.Sort.grow (redrawn w4 d) os)))
      have rv3 := Lib.hid (fun d os => Calls.regrown_of (PY.out (Go.Sort.grow (redrawn w4 d) os)))
      have rv4 := Lib.hid (fun d os => Calls.regrown_of (SZ.out (Go.Sort.grow (redrawn w4 d) os)))
      refine wp_region_quiet_below (by kernel_rfl) (by kernel_rfl) ?_
      repeat (quiet_step (first | with_reducible exact rv0.out _ _ | with_reducible exact rv1.out _ _ | with_reducible exact rv2.out _ _ | with_reducible exact rv3.out _ _ | with_reducible exact rv4.out _ _))
      refine wpQuiet_nil ?_
      intro w5 hw5
      have hb5 : Below w4.heap.size w4 w5 := by
        obtain ⟨⟨dq, osq⟩, hw2⟩ := hw5
        rw [hw2]; exact below_regrown _ dq osq
      clear gS_0 gS_1 gS_2 gS_3 gS_4 gS_5 gS_6 gA_0 gA_1 gB_0 gB_1 rv0 rv1 rv2 rv3 rv4 hw5
      replace HB := Lib.hid (HB.out.trans (hb5.mono HB.out.size))
      replace KZ := Lib.hid (KZ.out.below hb5)
      replace KS := Lib.hid (KS.out.below hb5)
      replace KA := Lib.hid (KA.out.below hb5)
      replace KB := Lib.hid (KB.out.below hb5)
      clear hb5
      have yZ := KZ.out
      have yZ_0 := yZ.c 0 _ rfl
      have yZ_1 := yZ.c 1 _ rfl
      have yZ_2 := yZ.c 2 _ rfl
      have yZ_3 := yZ.c 3 _ rfl
      have yZ_z := yZ.lt
      have yZ_f0 := yZ.f 0 _ rfl
      have yZ_f1 := yZ.f 1 _ rfl
      have yZ_f2 := yZ.f 2 _ rfl
      have yZ_f3 := yZ.f 3 _ rfl
      clear yZ
      have yS := KS.out
      have yS_0 := yS.c 0 _ rfl
      have yS_1 := yS.c 1 _ rfl
      have yS_2 := yS.c 2 _ rfl
      have yS_3 := yS.c 3 _ rfl
      have yS_4 := yS.c 4 _ rfl
      have yS_5 := yS.c 5 _ rfl
      have yS_6 := yS.c 6 _ rfl
      have yS_z := yS.lt
      clear yS
      go_wp2
      replace KZ := Lib.hid (blk_set (blk_set (blk_set (blk_set KZ.out (j := 0) (by simp) (.int .i64 cx)) (j := 1) (by simp) (.int .i64 cy)) (j := 2) (by simp) (.int .i64 rx)) (j := 3) (by simp) (.int .i64 ry))
      replace KS := Lib.hid (blk_other (b := bS) (n := w.heap.size) (j := 3) (blk_other (b := bS) (n := w.heap.size) (j := 2) (blk_other (b := bS) (n := w.heap.size) (j := 1) (blk_other (b := bS) (n := w.heap.size) (j := 0) KS.out (by omega) (.int .i64 cx)) (by omega) (.int .i64 cy)) (by omega) (.int .i64 rx)) (by omega) (.int .i64 ry))
      replace KA := Lib.hid (blk_other (b := bA) (n := w.heap.size) (j := 3) (blk_other (b := bA) (n := w.heap.size) (j := 2) (blk_other (b := bA) (n := w.heap.size) (j := 1) (blk_other (b := bA) (n := w.heap.size) (j := 0) KA.out (by omega) (.int .i64 cx)) (by omega) (.int .i64 cy)) (by omega) (.int .i64 rx)) (by omega) (.int .i64 ry))
      replace KB := Lib.hid (blk_other (b := (bA + 1)) (n := w.heap.size) (j := 3) (blk_other (b := (bA + 1)) (n := w.heap.size) (j := 2) (blk_other (b := (bA + 1)) (n := w.heap.size) (j := 1) (blk_other (b := (bA + 1)) (n := w.heap.size) (j := 0) KB.out (by omega) (.int .i64 cx)) (by omega) (.int .i64 cy)) (by omega) (.int .i64 rx)) (by omega) (.int .i64 ry))
      replace HB := Lib.hid ((((HB.out.setCell (p := ⟨w.heap.size, 0, none⟩) (show w.heap.size ≤ w.heap.size by omega) (.int .i64 cx)).setCell (p := ⟨w.heap.size, 1, none⟩) (show w.heap.size ≤ w.heap.size by omega) (.int .i64 cy)).setCell (p := ⟨w.heap.size, 2, none⟩) (show w.heap.size ≤ w.heap.size by omega) (.int .i64 rx)).setCell (p := ⟨w.heap.size, 3, none⟩) (show w.heap.size ≤ w.heap.size by omega) (.int .i64 ry))
      clear yZ_0 yZ_1 yZ_2 yZ_3 yZ_z yZ_f0 yZ_f1 yZ_f2 yZ_f3 yS_0 yS_1 yS_2 yS_3 yS_4 yS_5 yS_6 yS_z
      generalize (((w5.setCell ⟨w.heap.size, 0, none⟩ (.int .i64 cx)).setCell ⟨w.heap.size, 1, none⟩ (.int .i64 cy)).setCell ⟨w.heap.size, 2, none⟩ (.int .i64 rx)).setCell ⟨w.heap.size, 3, none⟩ (.int .i64 ry) = w6 at *
      simp only [List.set] at KZ
      have yZ := KZ.out
      have yZ_0 := yZ.c 0 _ rfl
      have yZ_1 := yZ.c 1 _ rfl
      have yZ_2 := yZ.c 2 _ rfl
      have yZ_3 := yZ.c 3 _ rfl
      have yZ_z := yZ.lt
      clear yZ
      refine bodyPost_ret (v := .tuple #[.agg #[.int .i64 cx, .int .i64 cy, .int .i64 rx, .int .i64 ry], .int .i64 0]) (by simp [results, Tryz.results13, go_sem, yZ_0, yZ_1, yZ_2, yZ_3]) rfl ⟨by rw [HV.out]; rfl, HB.out⟩
    · have SZ := Lib.hid sz
      clear sz
      have HV := Lib.hid (EV.trans (if_neg (by simp)))
      clear EV
      have H0 := Lib.hid h
      have KZ := Lib.hid (Blk.of (vs := #[.int .i64 0, .int .i64 0, .int .i64 0, .int .i64 0]) (t := 28) (w := w) (b := w.heap.size) (by simp))
      have HB := Lib.hid ((Below.refl w.heap.size w).alloc (by simp; try omega) (.cells #[.int .i64 0, .int .i64 0, .int .i64 0, .int .i64 0] 28))
      go_enter Tryz.func13, Tryz.ntmps13
      clear h
      go_wp2_with fail
      generalize w.alloc (.cells #[.int .i64 0, .int .i64 0, .int .i64 0, .int .i64 0] 28) = w0 at *
      refine (SO.out _ (H0.out.below HB.out)).mono ?_
      rintro e1 w1 ⟨rfl, hb1⟩
      replace HB := Lib.hid (HB.out.trans (hb1.mono HB.out.size))
      replace KZ := Lib.hid (KZ.out.below hb1)
      clear hb1
      go_wp2_with fail
      have KS := Lib.hid (Blk.of (vs := #[.int .i64 (hiW X), .int .u64 (loW X), .int .i64 (hiW Y), .int .u64 (loW Y), .int .i64 T, .int .i64 cx, .int .i64 cy]) (t := 51) (w := w1) (b := w1.heap.size) rfl)
      have hb2 : Below w1.heap.size w1 (w1.alloc (.cells #[.int .i64 (hiW X), .int .u64 (loW X), .int .i64 (hiW Y), .int .u64 (loW Y), .int .i64 T, .int .i64 cx, .int .i64 cy] 51)) := (Below.refl _ _).alloc (Nat.le_refl _) _
      have hnS := HB.out.size
      have nzS_Z := KZ.out.lt
      replace HB := Lib.hid (HB.out.trans (hb2.mono HB.out.size))
      replace KZ := Lib.hid (KZ.out.below hb2)
      clear hb2
      generalize w1.alloc (.cells #[.int .i64 (hiW X), .int .u64 (loW X), .int .i64 (hiW Y), .int .u64 (loW Y), .int .i64 T, .int .i64 cx, .int .i64 cy] 51) = w2 at *
      generalize w1.heap.size = bS at *
      have neS_Z : bS ≠ w.heap.size := by omega
      clear nzS_Z
      refine (NS.out _ (H0.out.below HB.out)).mono ?_
      rintro e3 w3 ⟨rfl, hb3⟩
      replace HB := Lib.hid (HB.out.trans (hb3.mono HB.out.size))
      replace KZ := Lib.hid (KZ.out.below hb3)
      replace KS := Lib.hid (KS.out.below hb3)
      clear hb3
      go_wp2_with fail
      have KA := Lib.hid ((Blk.of (vs := #[.int .i64 (hiW U), .int .u64 (loW U)]) (t := 49) (w := w3) (b := w3.heap.size) rfl).alloc (.cells #[.int .i64 (hiW V), .int .u64 (loW V)] 49))
      have KB := Lib.hid (Blk.of (vs := #[.int .i64 (hiW V), .int .u64 (loW V)]) (t := 49) (w := w3.alloc (.cells #[.int .i64 (hiW U), .int .u64 (loW U)] 49)) (b := w3.heap.size + 1) (by simp))
      have hb4 : Below w3.heap.size w3 ((w3.alloc (.cells #[.int .i64 (hiW U), .int .u64 (loW U)] 49)).alloc (.cells #[.int .i64 (hiW V), .int .u64 (loW V)] 49)) := ((Below.refl _ _).alloc (Nat.le_refl _) _).alloc (by simp) _
      have hnA := HB.out.size
      have nzA_Z := KZ.out.lt
      have nzA_S := KS.out.lt
      replace HB := Lib.hid (HB.out.trans (hb4.mono HB.out.size))
      replace KZ := Lib.hid (KZ.out.below hb4)
      replace KS := Lib.hid (KS.out.below hb4)
      clear hb4
      generalize (w3.alloc (.cells #[.int .i64 (hiW U), .int .u64 (loW U)] 49)).alloc (.cells #[.int .i64 (hiW V), .int .u64 (loW V)] 49) = w4 at *
      generalize w3.heap.size = bA at *
      have neA_Z : bA ≠ w.heap.size := by omega
      have neB_Z : bA + 1 ≠ w.heap.size := by omega
      have neA_S : bA ≠ bS := by omega
      have neB_S : bA + 1 ≠ bS := by omega
      clear nzA_Z nzA_S
      have gS_0 := fun d os => cell_regrown (KS.out.c 0 _ rfl) d os
      have gS_1 := fun d os => cell_regrown (KS.out.c 1 _ rfl) d os
      have gS_2 := fun d os => cell_regrown (KS.out.c 2 _ rfl) d os
      have gS_3 := fun d os => cell_regrown (KS.out.c 3 _ rfl) d os
      have gS_4 := fun d os => cell_regrown (KS.out.c 4 _ rfl) d os
      have gS_5 := fun d os => cell_regrown (KS.out.c 5 _ rfl) d os
      have gS_6 := fun d os => cell_regrown (KS.out.c 6 _ rfl) d os
      have gA_0 := fun d os => cell_regrown (KA.out.c 0 _ rfl) d os
      have gA_1 := fun d os => cell_regrown (KA.out.c 1 _ rfl) d os
      have gB_0 := fun d os => cell_regrown (KB.out.c 0 _ rfl) d os
      have gB_1 := fun d os => cell_regrown (KB.out.c 1 _ rfl) d os
      have rv0 := Lib.hid (fun d os => Calls.regrown_of (AX.out (Go.Sort.grow (redrawn w4 d) os)))
      have rv1 := Lib.hid (fun d os => Calls.regrown_of (AY.out (Go.Sort.grow (redrawn w4 d) os)))
      have rv2 := Lib.hid (fun d os => Calls.regrown_of (PX.out (Go.Sort.grow (redrawn w4 d) os)))
      have rv3 := Lib.hid (fun d os => Calls.regrown_of (PY.out (Go.Sort.grow (redrawn w4 d) os)))
      have rv4 := Lib.hid (fun d os => Calls.regrown_of (SZ.out (Go.Sort.grow (redrawn w4 d) os)))
      refine wp_region_quiet_below (by kernel_rfl) (by kernel_rfl) ?_
      repeat (quiet_step (first | with_reducible exact rv0.out _ _ | with_reducible exact rv1.out _ _ | with_reducible exact rv2.out _ _ | with_reducible exact rv3.out _ _ | with_reducible exact rv4.out _ _))
      refine wpQuiet_nil ?_
      intro w5 hw5
      have hb5 : Below w4.heap.size w4 w5 := by
        obtain ⟨⟨dq, osq⟩, hw2⟩ := hw5
        rw [hw2]; exact below_regrown _ dq osq
      clear gS_0 gS_1 gS_2 gS_3 gS_4 gS_5 gS_6 gA_0 gA_1 gB_0 gB_1 rv0 rv1 rv2 rv3 rv4 hw5
      replace HB := Lib.hid (HB.out.trans (hb5.mono HB.out.size))
      replace KZ := Lib.hid (KZ.out.below hb5)
      replace KS := Lib.hid (KS.out.below hb5)
      replace KA := Lib.hid (KA.out.below hb5)
      replace KB := Lib.hid (KB.out.below hb5)
      clear hb5
      have yZ := KZ.out
      have yZ_0 := yZ.c 0 _ rfl
      have yZ_1 := yZ.c 1 _ rfl
      have yZ_2 := yZ.c 2 _ rfl
      have yZ_3 := yZ.c 3 _ rfl
      have yZ_z := yZ.lt
      have yZ_f0 := yZ.f 0 _ rfl
      have yZ_f1 := yZ.f 1 _ rfl
      have yZ_f2 := yZ.f 2 _ rfl
      have yZ_f3 := yZ.f 3 _ rfl
      clear yZ
      have yS := KS.out
      have yS_0 := yS.c 0 _ rfl
      have yS_1 := yS.c 1 _ rfl
      have yS_2 := yS.c 2 _ rfl
      have yS_3 := yS.c 3 _ rfl
      have yS_4 := yS.c 4 _ rfl
      have yS_5 := yS.c 5 _ rfl
      have yS_6 := yS.c 6 _ rfl
      have yS_z := yS.lt
      clear yS
      go_wp2
      replace KZ := Lib.hid (blk_set (blk_set (blk_set (blk_set KZ.out (j := 0) (by simp) (.int .i64 0)) (j := 1) (by simp) (.int .i64 0)) (j := 2) (by simp) (.int .i64 0)) (j := 3) (by simp) (.int .i64 0))
      replace KS := Lib.hid (blk_other (b := bS) (n := w.heap.size) (j := 3) (blk_other (b := bS) (n := w.heap.size) (j := 2) (blk_other (b := bS) (n := w.heap.size) (j := 1) (blk_other (b := bS) (n := w.heap.size) (j := 0) KS.out (by omega) (.int .i64 0)) (by omega) (.int .i64 0)) (by omega) (.int .i64 0)) (by omega) (.int .i64 0))
      replace KA := Lib.hid (blk_other (b := bA) (n := w.heap.size) (j := 3) (blk_other (b := bA) (n := w.heap.size) (j := 2) (blk_other (b := bA) (n := w.heap.size) (j := 1) (blk_other (b := bA) (n := w.heap.size) (j := 0) KA.out (by omega) (.int .i64 0)) (by omega) (.int .i64 0)) (by omega) (.int .i64 0)) (by omega) (.int .i64 0))
      replace KB := Lib.hid (blk_other (b := (bA + 1)) (n := w.heap.size) (j := 3) (blk_other (b := (bA + 1)) (n := w.heap.size) (j := 2) (blk_other (b := (bA + 1)) (n := w.heap.size) (j := 1) (blk_other (b := (bA + 1)) (n := w.heap.size) (j := 0) KB.out (by omega) (.int .i64 0)) (by omega) (.int .i64 0)) (by omega) (.int .i64 0)) (by omega) (.int .i64 0))
      replace HB := Lib.hid ((((HB.out.setCell (p := ⟨w.heap.size, 0, none⟩) (show w.heap.size ≤ w.heap.size by omega) (.int .i64 0)).setCell (p := ⟨w.heap.size, 1, none⟩) (show w.heap.size ≤ w.heap.size by omega) (.int .i64 0)).setCell (p := ⟨w.heap.size, 2, none⟩) (show w.heap.size ≤ w.heap.size by omega) (.int .i64 0)).setCell (p := ⟨w.heap.size, 3, none⟩) (show w.heap.size ≤ w.heap.size by omega) (.int .i64 0))
      clear yZ_0 yZ_1 yZ_2 yZ_3 yZ_z yZ_f0 yZ_f1 yZ_f2 yZ_f3 yS_0 yS_1 yS_2 yS_3 yS_4 yS_5 yS_6 yS_z
      generalize (((w5.setCell ⟨w.heap.size, 0, none⟩ (.int .i64 0)).setCell ⟨w.heap.size, 1, none⟩ (.int .i64 0)).setCell ⟨w.heap.size, 2, none⟩ (.int .i64 0)).setCell ⟨w.heap.size, 3, none⟩ (.int .i64 0) = w6 at *
      simp only [List.set] at KZ
      have yZ := KZ.out
      have yZ_0 := yZ.c 0 _ rfl
      have yZ_1 := yZ.c 1 _ rfl
      have yZ_2 := yZ.c 2 _ rfl
      have yZ_3 := yZ.c 3 _ rfl
      have yZ_z := yZ.lt
      clear yZ
      refine bodyPost_ret (v := .tuple #[.agg #[.int .i64 0, .int .i64 0, .int .i64 0, .int .i64 0], .int .i64 2]) (by simp [results, Tryz.results13, go_sem, yZ_0, yZ_1, yZ_2, yZ_3]) rfl ⟨by rw [HV.out]; rfl, HB.out⟩
  · have SO := Lib.hid fun w h => rsol_bad l (.slice p l.length cap) w h hs
    have HV : Hid (accF l = (box0, solE l)) := Lib.hid (by unfold accF; rw [if_neg hs])
    have g : (solE l != 0) = true := by simpa using hs
    have g' : (solE l == 0) = false := by simpa using hs
    clear hs
    generalize solE l = c at *
    have H0 := Lib.hid h
    have KZ := Lib.hid (Blk.of (vs := #[.int .i64 0, .int .i64 0, .int .i64 0, .int .i64 0]) (t := 28) (w := w) (b := w.heap.size) (by simp))
    have HB := Lib.hid ((Below.refl w.heap.size w).alloc (by simp; try omega) (.cells #[.int .i64 0, .int .i64 0, .int .i64 0, .int .i64 0] 28))
    go_enter Tryz.func13, Tryz.ntmps13
    clear h
    go_wp2_with fail
    generalize w.alloc (.cells #[.int .i64 0, .int .i64 0, .int .i64 0, .int .i64 0] 28) = w0 at *
    refine (SO.out _ (H0.out.below HB.out)).mono ?_
    rintro e1 w1 ⟨rfl, hb1⟩
    replace HB := Lib.hid (HB.out.trans (hb1.mono HB.out.size))
    replace KZ := Lib.hid (KZ.out.below hb1)
    clear hb1
    have yZ := KZ.out
    have yZ_0 := yZ.c 0 _ rfl
    have yZ_1 := yZ.c 1 _ rfl
    have yZ_2 := yZ.c 2 _ rfl
    have yZ_3 := yZ.c 3 _ rfl
    have yZ_z := yZ.lt
    have yZ_f0 := yZ.f 0 _ rfl
    have yZ_f1 := yZ.f 1 _ rfl
    have yZ_f2 := yZ.f 2 _ rfl
    have yZ_f3 := yZ.f 3 _ rfl
    clear yZ
    go_wp2
    replace KZ := Lib.hid (blk_set (blk_set (blk_set (blk_set KZ.out (j := 0) (by simp) (.int .i64 0)) (j := 1) (by simp) (.int .i64 0)) (j := 2) (by simp) (.int .i64 0)) (j := 3) (by simp) (.int .i64 0))
    replace HB := Lib.hid ((((HB.out.setCell (p := ⟨w.heap.size, 0, none⟩) (show w.heap.size ≤ w.heap.size by omega) (.int .i64 0)).setCell (p := ⟨w.heap.size, 1, none⟩) (show w.heap.size ≤ w.heap.size by omega) (.int .i64 0)).setCell (p := ⟨w.heap.size, 2, none⟩) (show w.heap.size ≤ w.heap.size by omega) (.int .i64 0)).setCell (p := ⟨w.heap.size, 3, none⟩) (show w.heap.size ≤ w.heap.size by omega) (.int .i64 0))
    clear yZ_0 yZ_1 yZ_2 yZ_3 yZ_z yZ_f0 yZ_f1 yZ_f2 yZ_f3
    generalize (((w1.setCell ⟨w.heap.size, 0, none⟩ (.int .i64 0)).setCell ⟨w.heap.size, 1, none⟩ (.int .i64 0)).setCell ⟨w.heap.size, 2, none⟩ (.int .i64 0)).setCell ⟨w.heap.size, 3, none⟩ (.int .i64 0) = w2 at *
    simp only [List.set] at KZ
    have KS := Lib.hid (Blk.of (vs := #[.int .i64 0, .int .u64 0, .int .i64 0, .int .u64 0, .int .i64 0, .int .i64 0, .int .i64 0]) (t := 51) (w := w2) (b := w2.heap.size) rfl)
    have hb3 : Below w2.heap.size w2 (w2.alloc (.cells #[.int .i64 0, .int .u64 0, .int .i64 0, .int .u64 0, .int .i64 0, .int .i64 0, .int .i64 0] 51)) := (Below.refl _ _).alloc (Nat.le_refl _) _
    have hnS := HB.out.size
    have nzS_Z := KZ.out.lt
    replace HB := Lib.hid (HB.out.trans (hb3.mono HB.out.size))
    replace KZ := Lib.hid (KZ.out.below hb3)
    clear hb3
    generalize w2.alloc (.cells #[.int .i64 0, .int .u64 0, .int .i64 0, .int .u64 0, .int .i64 0, .int .i64 0, .int .i64 0] 51) = w3 at *
    generalize w2.heap.size = bS at *
    have neS_Z : bS ≠ w.heap.size := by omega
    clear nzS_Z
    have yZ := KZ.out
    have yZ_0 := yZ.c 0 _ rfl
    have yZ_1 := yZ.c 1 _ rfl
    have yZ_2 := yZ.c 2 _ rfl
    have yZ_3 := yZ.c 3 _ rfl
    have yZ_z := yZ.lt
    clear yZ
    refine bodyPost_ret (v := .tuple #[.agg #[.int .i64 0, .int .i64 0, .int .i64 0, .int .i64 0], .int .i64 c]) (by simp [results, Tryz.results13, go_sem, yZ_0, yZ_1, yZ_2, yZ_3]) rfl ⟨by rw [HV.out]; rfl, HB.out⟩
end Go.Proofs.YtplgdlooglnpmaaGreat
namespace Go.Proofs.YtplgdlooglnpmaaGreat
set_option linter.unusedVariables false
open Go.RowKit
set_option maxHeartbeats 8000000 in
set_option maxRecDepth 100000 in
theorem noi_any (l : List Ms) (v : Value) (w : World) (h : LstAt l v w) :
    Calls Tryz.prog 10 #[v] w fun e w' => e = .returned (.tuple #[.int .i64 (noiF l).1.1, .int .i64 (noiF l).1.2, .int .i64 (noiF l).2]) ∧ Below w.heap.size w w' := by
  obtain ⟨p, cap, rfl⟩ := lst_form h
  by_cases hs : solE l = 0
  · obtain ⟨hc, hd, hx, hy⟩ := sol_chk hs
    have SO := Lib.hid fun w h => sol_ok l (.slice p l.length cap) w h hs
    have SV := Lib.hid fun w h => solve_any l (.slice p l.length cap) w h hc
    have HV : Hid (noiF l = pairF (noiX l) (noiY l) (detN l)) := Lib.hid (by unfold noiF; rw [if_pos hs])
    have nb := noi_bd (okL_of hc)
    have db := (sol_bd (nrm_bd (okL_of hc))).det
    have dp := det_pos hc hd
    have SZ := Lib.hid fun w => sizes_any (noiX l) (noiY l) (detN l) w nb.1.1 (by omega) nb.2.1 (by omega) dp (by omega)
    unfold wv at SZ
    clear hs hc hd hx hy nb db dp
    generalize solX l = X at *
    generalize solY l = Y at *
    generalize cenX l = cx at *
    generalize cenY l = cy at *
    generalize pairF (noiX l) (noiY l) (detN l) = R at *
    generalize noiX l = U at *
    generalize noiY l = V at *
    generalize detN l = T at *
    have H0 := Lib.hid h
    have HB := Lib.hid (Below.refl w.heap.size w)
    go_enter Tryz.func10, Tryz.ntmps10
    clear h
    go_wp2_with fail
    refine (SO.out _ H0.out).mono ?_
    rintro e1 w1 ⟨rfl, hb1⟩
    replace HB := Lib.hid (HB.out.trans (hb1.mono HB.out.size))
    clear hb1
    go_wp2_with fail
    have KS := Lib.hid (Blk.of (vs := #[.int .i64 (hiW X), .int .u64 (loW X), .int .i64 (hiW Y), .int .u64 (loW Y), .int .i64 T, .int .i64 cx, .int .i64 cy]) (t := 51) (w := w1) (b := w1.heap.size) rfl)
    have hb2 : Below w1.heap.size w1 (w1.alloc (.cells #[.int .i64 (hiW X), .int .u64 (loW X), .int .i64 (hiW Y), .int .u64 (loW Y), .int .i64 T, .int .i64 cx, .int .i64 cy] 51)) := (Below.refl _ _).alloc (Nat.le_refl _) _
    have hnS := HB.out.size
    replace HB := Lib.hid (HB.out.trans (hb2.mono HB.out.size))
    clear hb2
    generalize w1.alloc (.cells #[.int .i64 (hiW X), .int .u64 (loW X), .int .i64 (hiW Y), .int .u64 (loW Y), .int .i64 T, .int .i64 cx, .int .i64 cy] 51) = w2 at *
    generalize w1.heap.size = bS at *
    refine (SV.out _ (H0.out.below HB.out)).mono ?_
    rintro e3 w3 ⟨rfl, hb3⟩
    replace HB := Lib.hid (HB.out.trans (hb3.mono HB.out.size))
    replace KS := Lib.hid (KS.out.below hb3)
    clear hb3
    go_wp2_with fail
    have KE := Lib.hid (Blk.of (vs := #[.int .i64 (hiW X), .int .u64 (loW X), .int .i64 (hiW Y), .int .u64 (loW Y), .int .i64 (hiW U), .int .u64 (loW U), .int .i64 (hiW V), .int .u64 (loW V), .int .i64 T]) (t := 58) (w := w3) (b := w3.heap.size) rfl)
    have hb4 : Below w3.heap.size w3 (w3.alloc (.cells #[.int .i64 (hiW X), .int .u64 (loW X), .int .i64 (hiW Y), .int .u64 (loW Y), .int .i64 (hiW U), .int .u64 (loW U), .int .i64 (hiW V), .int .u64 (loW V), .int .i64 T] 58)) := (Below.refl _ _).alloc (Nat.le_refl _) _
    have hnE := HB.out.size
    have nzE_S := KS.out.lt
    replace HB := Lib.hid (HB.out.trans (hb4.mono HB.out.size))
    replace KS := Lib.hid (KS.out.below hb4)
    clear hb4
    generalize w3.alloc (.cells #[.int .i64 (hiW X), .int .u64 (loW X), .int .i64 (hiW Y), .int .u64 (loW Y), .int .i64 (hiW U), .int .u64 (loW U), .int .i64 (hiW V), .int .u64 (loW V), .int .i64 T] 58) = w4 at *
    generalize w3.heap.size = bE at *
    have neE_S : bE ≠ bS := by omega
    clear nzE_S
    refine (SZ.out _).mono ?_
    rintro e5 w5 ⟨rfl, hb5⟩
    replace HB := Lib.hid (HB.out.trans (hb5.mono HB.out.size))
    replace KS := Lib.hid (KS.out.below hb5)
    replace KE := Lib.hid (KE.out.below hb5)
    clear hb5
    go_wp2
    refine bodyPost_ret (v := .tuple #[.int .i64 R.1.1, .int .i64 R.1.2, .int .i64 R.2]) (by simp [results, Tryz.results10, go_sem]) rfl ⟨by rw [HV.out], HB.out⟩
  · have SO := Lib.hid fun w h => sol_bad l (.slice p l.length cap) w h hs
    have HV : Hid (noiF l = ((0, 0), solE l)) := Lib.hid (by unfold noiF; rw [if_neg hs])
    have g : (solE l != 0) = true := by simpa using hs
    have g' : (solE l == 0) = false := by simpa using hs
    clear hs
    generalize solE l = c at *
    have H0 := Lib.hid h
    have HB := Lib.hid (Below.refl w.heap.size w)
    go_enter Tryz.func10, Tryz.ntmps10
    clear h
    go_wp2_with fail
    refine (SO.out _ H0.out).mono ?_
    rintro e1 w1 ⟨rfl, hb1⟩
    replace HB := Lib.hid (HB.out.trans (hb1.mono HB.out.size))
    clear hb1
    go_wp2
    have KS := Lib.hid (Blk.of (vs := #[.int .i64 0, .int .u64 0, .int .i64 0, .int .u64 0, .int .i64 0, .int .i64 0, .int .i64 0]) (t := 51) (w := w1) (b := w1.heap.size) rfl)
    have hb2 : Below w1.heap.size w1 (w1.alloc (.cells #[.int .i64 0, .int .u64 0, .int .i64 0, .int .u64 0, .int .i64 0, .int .i64 0, .int .i64 0] 51)) := (Below.refl _ _).alloc (Nat.le_refl _) _
    have hnS := HB.out.size
    replace HB := Lib.hid (HB.out.trans (hb2.mono HB.out.size))
    clear hb2
    generalize w1.alloc (.cells #[.int .i64 0, .int .u64 0, .int .i64 0, .int .u64 0, .int .i64 0, .int .i64 0, .int .i64 0] 51) = w2 at *
    generalize w1.heap.size = bS at *
    refine bodyPost_ret (v := .tuple #[.int .i64 0, .int .i64 0, .int .i64 c]) (by simp [results, Tryz.results10, go_sem]) rfl ⟨by rw [HV.out], HB.out⟩
end Go.Proofs.YtplgdlooglnpmaaGreat
namespace Go.Proofs.YtplgdlooglnpmaaGreat
set_option linter.unusedVariables false
def insI : List Int → Int → List Int
  | [], x => [x]
  | y :: r, x => if y < x then y :: insI r x else if y = x then y :: r else x :: y :: r
theorem mem_ins {x z : Int} : ∀ {out : List Int}, z ∈ insI out x ↔ z ∈ out ∨ z = x
  | [] => by unfold insI; simp
  | y :: r => by
    unfold insI
    split
    · rw [List.mem_cons, List.mem_cons, mem_ins (out := r)]
      constructor
      · rintro (h | h | h)
        · exact .inl (.inl h)
        · exact .inl (.inr h)
        · exact .inr h
      · rintro ((h | h) | h)
        · exact .inl h
        · exact .inr (.inl h)
        · exact .inr (.inr h)
    · split
      · rename_i h
        subst h
        constructor
        · exact .inl
        · rintro (h | rfl)
          · exact h
          · exact List.mem_cons_self
      · rw [List.mem_cons]
        constructor
        · rintro (h | h)
          · exact .inr h
          · exact .inl h
        · rintro (h | h)
          · exact .inr h
          · exact .inl h
theorem ins_lt {x : Int} : ∀ {out : List Int}, out.Pairwise (· < ·) → (insI out x).Pairwise (· < ·)
  | [], _ => by unfold insI; simp
  | y :: r, h => by
    rw [List.pairwise_cons] at h
    unfold insI
    split
    · rename_i q
      rw [List.pairwise_cons]
      refine ⟨fun z hz => ?_, ins_lt h.2⟩
      rcases mem_ins.1 hz with g | rfl
      · exact h.1 z g
      · exact q
    · split
      · exact List.pairwise_cons.2 h
      · rename_i q q'
        rw [List.pairwise_cons]
        refine ⟨fun z hz => ?_, List.pairwise_cons.2 h⟩
        rcases List.mem_cons.1 hz with rfl | g
        · omega
        · have := h.1 z g
          omega
/-- the sources of the first k -/
def refK (l : List Ms) (k : Nat) : List Int := ((l.take k).map Ms.s).foldl insI []
theorem refK_succ {l : List Ms} {k : Nat} (h : k < l.length) : refK l (k + 1) = insI (refK l k) (nth l k).s := by
  unfold refK
  rw [take_nth h, List.map_append, List.foldl_append]
  rfl
theorem fold_lt (zs : List Int) : ∀ out : List Int, out.Pairwise (· < ·) → (zs.foldl insI out).Pairwise (· < ·) := by
  induction zs with
  | nil => exact fun out h => h
  | cons z r ih => exact fun out h => ih _ (ins_lt h)
theorem fold_mem (zs : List Int) : ∀ (out : List Int) (x : Int), x ∈ zs.foldl insI out ↔ x ∈ out ∨ x ∈ zs := by
  induction zs with
  | nil => intro out x; simp
  | cons z r ih =>
    intro out x
    rw [List.foldl_cons, ih, mem_ins, List.mem_cons]
    constructor
    · rintro ((h | h) | h)
      · exact .inl h
      · exact .inr (.inl h)
      · exact .inr (.inr h)
    · rintro (h | h | h)
      · exact .inl (.inl h)
      · exact .inl (.inr h)
      · exact .inr h
theorem refK_eq (l : List Ms) : refK l l.length = srcL l := by
  unfold refK
  rw [List.take_length]
  refine asc_uniq _ _ (fold_lt _ _ List.Pairwise.nil) (srcL_lt l) fun x => ?_
  rw [fold_mem, mem_srcL, List.mem_map]
  simp
theorem fold_len (zs : List Int) : ∀ out : List Int, (zs.foldl insI out).length ≤ out.length + zs.length := by
  have one : ∀ (out : List Int) (x : Int), (insI out x).length ≤ out.length + 1 := by
    intro out x
    induction out with
    | nil => simp [insI]
    | cons y r ih =>
      unfold insI
      split
      · simp only [List.length_cons]; omega
      · split
        · simp
        · simp
  induction zs with
  | nil => simp
  | cons z r ih =>
    intro out
    have := ih (insI out z)
    have := one out z
    simp only [List.foldl_cons, List.length_cons]
    omega
theorem refK_len {l : List Ms} {k : Nat} : (refK l k).length ≤ l.length := by
  have := fold_len ((l.take k).map Ms.s) []
  unfold refK
  rw [List.length_map, List.length_take] at this
  simp only [List.length_nil] at this
  omega
/-- where the number goes -/
theorem ins_at (x : Int) : ∀ (out : List Int) (i : Nat), (∀ j, j < i → out.getD j 0 < x) → i ≤ out.length → (i = out.length ∨ ¬ out.getD i 0 < x) →
    insI out x = if i = out.length ∨ out.getD i 0 ≠ x then out.take i ++ x :: out.drop i else out
  | [], i, _, h, _ => by
    obtain rfl : i = 0 := by simpa using h
    simp [insI]
  | y :: r, 0, _, _, h => by
    have hy : ¬ y < x := by
      rcases h with h | h
      · simp at h
      · simpa using h
    unfold insI
    rw [if_neg hy]
    by_cases e : y = x
    · rw [if_pos e, if_neg]
      rintro (q | q)
      · simp at q
      · exact q (by simpa using e)
    · rw [if_neg e, if_pos (.inr (by simpa using e))]
      rfl
  | y :: r, i + 1, hj, hi, h => by
    have hy : y < x := by simpa using hj 0 (by omega)
    have ih := ins_at x r i (fun j q => by simpa using hj (j + 1) (by omega)) (by simpa using hi) (by
      rcases h with h | h
      · exact .inl (by simpa using h)
      · exact .inr (by simpa using h))
    unfold insI
    rw [if_pos hy, ih]
    by_cases c : i = r.length ∨ r.getD i 0 ≠ x
    · rw [if_pos c, if_pos (by rcases c with c | c; exact .inl (by simp [c]); exact .inr (by simpa using c))]
      rfl
    · rw [if_neg c, if_neg]
      rintro (q | q)
      · exact c (.inl (by simpa using q))
      · exact c (.inr (by simpa using q))
/-- the list while its tail moves up -/
def shS (out : List Int) (j : Nat) : List Int := (out ++ [0]).take (j + 1) ++ out.drop j
theorem shS_cons (y : Int) (r : List Int) (j : Nat) : shS (y :: r) (j + 1) = y :: shS r j := by
  unfold shS
  rfl
theorem shS_zero (out : List Int) : ∃ z, shS out 0 = z :: out := by
  unfold shS
  cases out with
  | nil => exact ⟨0, rfl⟩
  | cons y r => exact ⟨y, rfl⟩
theorem shS_len : ∀ (out : List Int) (j : Nat), j ≤ out.length → (shS out j).length = out.length + 1
  | out, 0, _ => by obtain ⟨z, h⟩ := shS_zero out; rw [h]; rfl
  | [], j + 1, h => by simp at h
  | y :: r, j + 1, h => by
    rw [shS_cons, List.length_cons, shS_len r j (by simpa using h)]
    rfl
theorem shS_top (out : List Int) : shS out out.length = out ++ [0] := by
  unfold shS
  rw [List.drop_length, List.append_nil, List.take_of_length_le (by simp)]
theorem shS_get : ∀ (out : List Int) (j : Nat), j < out.length → (shS out (j + 1)).getD j 0 = out.getD j 0
  | [], j, h => by simp at h
  | y :: r, 0, _ => by rw [shS_cons]; rfl
  | y :: r, j + 1, h => by
    rw [shS_cons]
    have := shS_get r j (by simpa using h)
    simpa using this
theorem shS_set : ∀ (out : List Int) (j : Nat), j < out.length → (shS out (j + 1)).set (j + 1) (out.getD j 0) = shS out j
  | [], j, h => by simp at h
  | y :: r, 0, _ => by
    obtain ⟨z, e⟩ := shS_zero r
    rw [shS_cons, e]
    rfl
  | y :: r, j + 1, h => by
    have ih := shS_set r j (by simpa using h)
    rw [shS_cons, shS_cons, ← ih]
    rfl
theorem shS_ins (x : Int) : ∀ (out : List Int) (i : Nat), i ≤ out.length → (shS out i).set i x = out.take i ++ x :: out.drop i
  | out, 0, _ => by
    obtain ⟨z, e⟩ := shS_zero out
    rw [e]
    rfl
  | [], i + 1, h => by simp at h
  | y :: r, i + 1, h => by
    rw [shS_cons]
    have := shS_ins x r i (by simpa using h)
    show y :: (shS r i).set i x = _
    rw [this]
    rfl
end Go.Proofs.YtplgdlooglnpmaaGreat
namespace Go.Proofs.YtplgdlooglnpmaaGreat
set_option linter.unusedVariables false
open Go.RowKit
structure CopyAt (m : Ms) (bm : Nat) (W : World) : Prop where
  lt : bm < W.heap.size
  c0 : W.cell? ⟨bm, 0, none⟩ = some (.int .i64 m.s)
  c1 : W.cell? ⟨bm, 1, none⟩ = some (.int .i64 m.a)
  c2 : W.cell? ⟨bm, 2, none⟩ = some (.int .i64 m.b)
  c3 : W.cell? ⟨bm, 3, none⟩ = some (.int .i64 m.z)
  c4 : W.cell? ⟨bm, 4, none⟩ = some (.int .i64 m.d)
  c5 : W.cell? ⟨bm, 5, none⟩ = some (.int .i64 m.w)
theorem copy_new (m : Ms) (w : World) (t : TypeId) : CopyAt m w.heap.size (w.alloc (.cells #[.int .i64 m.s, .int .i64 m.a, .int .i64 m.b, .int .i64 m.z, .int .i64 m.d, .int .i64 m.w] t)) :=
  ⟨by simp, by rw [World.cell?_alloc_at _ _ _ _ rfl]; rfl, by rw [World.cell?_alloc_at _ _ _ _ rfl]; rfl, by rw [World.cell?_alloc_at _ _ _ _ rfl]; rfl, by rw [World.cell?_alloc_at _ _ _ _ rfl]; rfl, by rw [World.cell?_alloc_at _ _ _ _ rfl]; rfl, by rw [World.cell?_alloc_at _ _ _ _ rfl]; rfl⟩
theorem CopyAt.same {m : Ms} {bm : Nat} {W w' : World} (h : CopyAt m bm W) (hk : w'.heap[bm]? = W.heap[bm]?) (hs : W.heap.size ≤ w'.heap.size) : CopyAt m bm w' :=
  ⟨Nat.lt_of_lt_of_le h.lt hs, (World.cell?_of_block (w := W) (a := ⟨bm, 0, none⟩) hk).trans h.c0, (World.cell?_of_block (w := W) (a := ⟨bm, 1, none⟩) hk).trans h.c1, (World.cell?_of_block (w := W) (a := ⟨bm, 2, none⟩) hk).trans h.c2, (World.cell?_of_block (w := W) (a := ⟨bm, 3, none⟩) hk).trans h.c3, (World.cell?_of_block (w := W) (a := ⟨bm, 4, none⟩) hk).trans h.c4, (World.cell?_of_block (w := W) (a := ⟨bm, 5, none⟩) hk).trans h.c5⟩
theorem CopyAt.below {m : Ms} {bm : Nat} {W w' : World} (h : CopyAt m bm W) (hb : Below W.heap.size W w') : CopyAt m bm w' := h.same (hb.block bm h.lt) hb.size
end Go.Proofs.YtplgdlooglnpmaaGreat
namespace Go.Proofs.YtplgdlooglnpmaaGreat
set_option linter.unusedVariables false
open Go.RowKit
theorem oi_at {B : Nat} {w : World} {g cap : Nat} {l : List Int} (h : OI B w (.slice (some ⟨g, 0, none⟩) l.length cap) l) : B ≤ g ∧ g < w.heap.size ∧ l.length ≤ cap ∧ (∀ i, i < l.length → w.cell? ⟨g, i, none⟩ = some (.int .i64 (l.getD i 0))) ∧ ∀ j, w.frozen? ⟨g, j, none⟩ = false := by
  rcases oi_cases h with ⟨e, _⟩ | ⟨g', cap', e, h2, h3, h4, h5⟩
  · cases e
  · cases e
    exact ⟨h4, h5.lt, h2, h5.c, fun j => World.ownsRow.frozenAt h j⟩
theorem inC_set (l : List Int) (j : Nat) (x : Int) : inC (l.set j x) = (inC l).set j (.int .i64 x) := by
  unfold inC
  rw [List.map_set]
def SRa (l : List Ms) (w : World) (v s : Value) (wr : World) : Prop := ∃ k : Nat, s = .int .i64 k ∧ k ≤ l.length ∧ ∃ g cap, v = .slice (some ⟨g, 0, none⟩) (refK l k).length cap ∧ Hid (Below w.heap.size w wr) ∧ Hid (OI w.heap.size wr (.slice (some ⟨g, 0, none⟩) (refK l k).length cap) (refK l k))
def SRb (w : World) (out : List Int) (m : Ms) (bm g cap : Nat) (s : Value) (wr : World) : Prop := ∃ i : Nat, s = .int .i64 i ∧ i ≤ out.length ∧ Hid (∀ j, j < i → out.getD j 0 < m.s) ∧ Hid (Below w.heap.size w wr) ∧ Hid (OI w.heap.size wr (.slice (some ⟨g, 0, none⟩) out.length cap) out) ∧ Hid (CopyAt m bm wr)
def SRc (w : World) (out : List Int) (i : Nat) (m : Ms) (bm g N cap : Nat) (s : Value) (wr : World) : Prop := ∃ j : Nat, s = .int .i64 j ∧ i ≤ j ∧ j ≤ out.length ∧ Hid (Below w.heap.size w wr) ∧ Hid (OI w.heap.size wr (.slice (some ⟨g, 0, none⟩) N cap) (shS out j)) ∧ Hid (CopyAt m bm wr)
set_option maxHeartbeats 100000000 in
set_option maxRecDepth 100000 in
theorem srcref_some (l : List Ms) (b o cap : Nat) (w : World) (h : MsAt l b o w) (hc : l.length ≤ cap) (hm : cap ≤ 9223372036854775807) (hl : l.length ≤ 1000) :
    Calls Tryz.prog 26 #[.slice (some ⟨b, o, none⟩) l.length cap] w fun e w' => (∃ u, e = .returned u ∧ OI w.heap.size w' u (srcL l)) ∧ Below w.heap.size w w' := by
  have H := Lib.hid h
  have hlt := h.lt
  clear h
  go_enter Tryz.func26, Tryz.ntmps26
  go_wp2_with fail
  go_loopw [3, 11] (SRa l w) (fun _ i _ => l.length - (intOf i).toNat)
  case atStart => exact ⟨0, rfl, Nat.zero_le _, _, 0, rfl, Lib.hid ((Below.refl _ _).alloc (Nat.le_refl _) _), Lib.hid (World.ownsRow_lit w #[] 0 (Nat.le_refl _) (by decide) rfl)⟩
  case round =>
    obtain ⟨k, rfl, hk, g, cp, rfl, HB, HO⟩ := hrel
    by_cases q : k < l.length
    · have q' : decide (k < l.length) = true := by simpa using q
      have M := H.out.keep HB.out hlt
      have c0 := M.c0 k q
      have c1 := M.c1 k q
      have c2 := M.c2 k q
      have c3 := M.c3 k q
      have c4 := M.c4 k q
      have c5 := M.c5 k q
      have RK := Lib.hid (refK_succ q)
      have lk := Nat.le_trans (refK_len (l := l) (k := k)) hl
      clear M
      generalize nth l k = m at *
      generalize refK l k = out at *
      have CO := Lib.hid (copy_new m wr 70)
      have HB1 := Lib.hid (HB.out.alloc HB.out.size (.cells #[.int .i64 m.s, .int .i64 m.a, .int .i64 m.b, .int .i64 m.z, .int .i64 m.d, .int .i64 m.w] 70))
      have HO1 := Lib.hid (HO.out.below ((Below.refl _ _).alloc (Nat.le_refl _) (.cells #[.int .i64 m.s, .int .i64 m.a, .int .i64 m.b, .int .i64 m.z, .int .i64 m.d, .int .i64 m.w] 70)))
      have NG := Lib.hid (show g ≠ wr.heap.size from fun e => by have := (oi_at HO.out).2.1; omega)
      clear HB HO
      go_wp2_with fail
      generalize wr.heap.size = bm at *
      generalize wr.alloc (.cells #[.int .i64 m.s, .int .i64 m.a, .int .i64 m.b, .int .i64 m.z, .int .i64 m.d, .int .i64 m.w] 70) = wo at *
      clear c0 c1 c2 c3 c4 c5
      go_loopw [6] (SRb w out m bm g cp) (fun i _ => out.length - (intOf i).toNat)
      case atStart => exact ⟨0, rfl, Nat.zero_le _, Lib.hid (fun j hj => absurd hj (by omega)), HB1, HO1, CO⟩
      case round =>
        obtain ⟨i, rfl, hi, HJ, HB, HO, HM⟩ := hrel
        have cm := HM.out
        have y0 := cm.c0
        have yz := cm.lt
        clear cm
        obtain ⟨a1, a2, a3, a4, -⟩ := oi_at HO.out
        have key : (decide (i < out.length) = true ∧ i < out.length ∧ decide (out.getD i 0 < m.s) = true) ∨ ((decide (i < out.length) = true ∧ decide (out.getD i 0 < m.s) = false ∧ ((i : Int) == (out.length : Int)) = false ∧ (out.getD i 0 != m.s) = false) ∧ insI out m.s = out ∧ i < out.length) ∨ (((decide (i < out.length) = true ∧ decide (out.getD i 0 < m.s) = false ∧ ((i : Int) == (out.length : Int)) = false ∧ (out.getD i 0 != m.s) = true ∧ i < out.length) ∨ (decide (i < out.length) = false ∧ ((i : Int) == (out.length : Int)) = true ∧ i = out.length)) ∧ insI out m.s = out.take i ++ m.s :: out.drop i) := by
          by_cases z1 : i < out.length
          · by_cases z2 : out.getD i 0 < m.s
            · exact .inl ⟨by simpa using z1, z1, by simpa using z2⟩
            · have IA := ins_at m.s out i HJ.out hi (.inr z2)
              by_cases z3 : out.getD i 0 = m.s
              · rw [if_neg (by rintro (e | e); omega; exact e z3)] at IA
                exact .inr (.inl ⟨⟨by simpa using z1, by simpa using z2, by rw [beq_eq_false_iff_ne]; omega, by rw [z3]; simp⟩, IA, z1⟩)
              · rw [if_pos (.inr z3)] at IA
                exact .inr (.inr ⟨.inl ⟨by simpa using z1, by simpa using z2, by rw [beq_eq_false_iff_ne]; omega, by simpa using z3, z1⟩, IA⟩)
          · obtain rfl : i = out.length := by omega
            have IA := ins_at m.s out out.length HJ.out (Nat.le_refl _) (.inl rfl)
            rw [if_pos (.inl rfl)] at IA
            exact .inr (.inr ⟨.inr ⟨by simp, by simp, rfl⟩, IA⟩)
        rcases key with ⟨k1, z1, k2⟩ | ⟨⟨k1, k2, k3, k4⟩, IA, z1⟩ | ⟨key, IA⟩
        · have d0 := a4 i z1
          clear a4
          have k2s := Lib.hid k2
          generalize hx : out.getD i 0 = x at *
          have HX := Lib.hid hx
          clear hx
          go_wp2_with fail
          go_quiet (fail)
          go_wp2
          go_roundw
          case rel =>
            have hb := below_drewN (Below.refl wr.heap.size wr) nq
            exact ⟨i + 1, by go_num, by omega, Lib.hid (fun j hj => (Nat.lt_or_ge j i).elim (fun qq => HJ.out j qq) (fun qq => by rw [show j = i by omega, HX.out]; simpa using k2s.out)), Lib.hid (HB.out.trans (hb.mono HB.out.size)), Lib.hid (HO.out.below hb), Lib.hid (HM.out.below hb)⟩
          case measure => simp [intOf]; omega
        · have d0 := a4 i z1
          clear a4
          have HIA := Lib.hid IA
          generalize out.getD i 0 = x at *
          clear IA
          go_wp2_with fail
          go_quiet (fail)
          generalize hnq : nq = nq1 at *
          go_wp2_with fail
          go_quiet (fail)
          go_wp2
          go_roundw
          case rel =>
            have hb := (below_drewN (Below.refl wr.heap.size wr) (nq1 + nq))
            exact ⟨k + 1, by go_num, by omega, g, cp, by rw [RK.out, HIA.out], Lib.hid (HB.out.trans (hb.mono HB.out.size)), by rw [RK.out, HIA.out]; exact Lib.hid (HO.out.below hb)⟩
          case measure => simp [intOf]; omega
        · have HIA := Lib.hid IA
          clear IA
          rcases key with ⟨k1, k2, k3, k4, z1⟩ | ⟨k1, k3, z1⟩
          · have d0 := a4 i z1
            clear a4
            generalize out.getD i 0 = x at *
            go_wp2_with fail
            go_quiet (fail)
            generalize hnq : nq = nq1 at *
            go_wp2_with fail
            go_quiet (fail)
            have hbq : Below wr.heap.size wr (wr.drewN (nq1 + nq)) := below_drewN (Below.refl wr.heap.size wr) _
            have HBq := Lib.hid (HB.out.trans (hbq.mono HB.out.size))
            have HOq := Lib.hid (HO.out.below hbq)
            have HMq := Lib.hid (HM.out.below hbq)
            go_wp2_with (at_builtin; refine Halt.mk ?_)
            unfold Halt
            have HWS : Hid (wr.heap.size = (wr.drewN (nq1 + nq)).heap.size) := Lib.hid rfl
            generalize wr.drewN (nq1 + nq) = wq at *
            clear HB HO HM hbq y0 yz a1 a2 a3
            refine wpList_oi rfl (.tmp 43) (.tmp 44) rfl w.heap.size (.slice (some ⟨g, 0, none⟩) out.length cp) out rfl wq HOq.out _ 0 1 (by rw [← HWS.out]; rfl) (by omega) HBq.out.size ?_
            intro u2 w5 ho5 hg5 hat5
            have HBa := Lib.hid ((Below.refl wq.heap.size wq).alloc (Nat.le_refl _) (.cells #[.int .i64 0] 3))
            have HB5 : Hid (Below w.heap.size w w5) := Lib.hid (below_grown (HBq.out.trans (HBa.out.mono HBq.out.size)) hg5 (by simp; have := HBq.out.size; omega) (fun k hk => (World.ownsRow.lt HOq.out k hk).1))
            have HM5 : Hid (CopyAt m bm w5) := Lib.hid ((HMq.out.below HBa.out).same (hg5.block bm (by rw [World.size_alloc]; have := HMq.out.lt; omega) (fun e => NG.out (Option.some.inj e).symm)) hg5.size)
            obtain ⟨g5, cap5, hu2⟩ := Go.Joins.ownsRow_form ho5 (show 0 < (out ++ [0]).length by rw [List.length_append, List.length_singleton]; omega)
            rw [List.length_append, List.length_singleton] at hu2
            subst hu2
            have NG5 := Lib.hid (show g5 ≠ bm from by rcases hat5 with h | h; exact fun e => NG.out ((Option.some.inj h).symm.trans e); intro e; have h2 : g5 = wq.heap.size + 1 := Option.some.inj h; have := HMq.out.lt; omega)
            have HO5 : Hid (OI w.heap.size w5 (.slice (some ⟨g5, 0, none⟩) (out.length + 1) cap5) (shS out out.length)) := Lib.hid (by rw [shS_top]; exact ho5)
            clear hg5 hat5 ho5
            go_wp2_with fail
            go_loopw [7] (SRc w out i m bm g5 (out.length + 1) cap5) (fun j _ => (intOf j).toNat)
            case atStart => exact ⟨out.length, by go_num, by omega, Nat.le_refl _, HB5, HO5, HM5⟩
            case round =>
              obtain ⟨j, rfl, hij, hj, HB, HO, HM⟩ := hrel
              have OA := HO.out
              rw [← shS_len out j hj] at OA
              obtain ⟨a1, a2, a3, a4, a5⟩ := oi_at OA
              rw [shS_len out j hj] at a4
              by_cases r : i < j
              · obtain ⟨j, rfl⟩ : ∃ j', j = j' + 1 := ⟨j - 1, by omega⟩
                have r' : decide ((i : Int) < (j : Int) + 1) = true := by simpa using (show (i : Int) < (j : Int) + 1 by omega)
                have x0 := a4 j (by omega)
                rw [shS_get out j (by omega)] at x0
                have x1 := a4 (j + 1) (by omega)
                have f1 := a5 (j + 1)
                have z1 : j + 1 < out.length + 1 := by omega
                have z2 : j < out.length + 1 := by omega
                have SS := Lib.hid (shS_set out j (by omega))
                have SL := Lib.hid (shS_len out j (by omega))
                clear a4 a5 OA
                generalize out.getD j 0 = x at *
                generalize (shS out (j + 1)).getD (j + 1) 0 = x' at *
                go_wp2_with fail
                go_roundw
                case rel =>
                  have S1 := World.ownsRow.stored (show wr.ownsRow w.heap.size 3 1 (.slice (some ⟨g5, 0, none⟩) (out.length + 1) cap5) (out.length + 1) (inC (shS out (j + 1))) by have := HO.out; unfold OI at this; rw [shS_len out (j + 1) hj] at this; exact this) (j + 1) (.int .i64 x)
                  refine ⟨j, by go_num, by omega, by omega, Lib.hid (below_grown HB.out S1.2 HB.out.size (fun k hk => by cases hk; exact a1)), Lib.hid ?_, Lib.hid (HM.out.same (S1.2.block bm HM.out.lt (fun e => NG5.out (Option.some.inj e).symm)) S1.2.size)⟩
                  unfold OI
                  rw [SL.out, ← SS.out, inC_set]
                  exact S1.1
                case measure => simp [intOf] <;> omega
              · obtain rfl : j = i := by omega
                have r' : decide ((j : Int) < (j : Int)) = false := by simp
                have cm := HM.out
                have y0 := cm.c0
                have yz := cm.lt
                have x1 := a4 j (by omega)
                have f1 := a5 j
                have z1 : j < out.length + 1 := by omega
                have SI := Lib.hid (shS_ins m.s out j hj)
                clear a4 a5 OA cm
                generalize (shS out j).getD j 0 = x' at *
                go_wp2_with fail
                go_roundw
                case rel =>
                  have S1 := World.ownsRow.stored (show wr.ownsRow w.heap.size 3 1 (.slice (some ⟨g5, 0, none⟩) (out.length + 1) cap5) (out.length + 1) (inC (shS out j)) by have := HO.out; unfold OI at this; rw [shS_len out j hj] at this; exact this) j (.int .i64 m.s)
                  have LN : (insI out m.s).length = out.length + 1 := by rw [HIA.out, ← SI.out, List.length_set, shS_len out j hj]
                  refine ⟨k + 1, by go_num, by omega, g5, cap5, by rw [RK.out, LN], Lib.hid (below_grown HB.out S1.2 HB.out.size (fun k hk => by cases hk; exact a1)), Lib.hid ?_⟩
                  rw [RK.out, LN]
                  unfold OI
                  rw [LN, HIA.out, ← SI.out, inC_set]
                  exact S1.1
                case measure => simp [intOf]; omega
          · clear a4 z1
            go_wp2_with fail
            go_quiet (fail)
            generalize hnq : nq = nq1 at *
            go_wp2_with fail
            go_quiet (fail)
            have hbq : Below wr.heap.size wr (wr.drewN (nq1 + nq)) := below_drewN (Below.refl wr.heap.size wr) _
            have HBq := Lib.hid (HB.out.trans (hbq.mono HB.out.size))
            have HOq := Lib.hid (HO.out.below hbq)
            have HMq := Lib.hid (HM.out.below hbq)
            go_wp2_with (at_builtin; refine Halt.mk ?_)
            unfold Halt
            have HWS : Hid (wr.heap.size = (wr.drewN (nq1 + nq)).heap.size) := Lib.hid rfl
            generalize wr.drewN (nq1 + nq) = wq at *
            clear HB HO HM hbq y0 yz a1 a2 a3
            refine wpList_oi rfl (.tmp 43) (.tmp 44) rfl w.heap.size (.slice (some ⟨g, 0, none⟩) out.length cp) out rfl wq HOq.out _ 0 1 (by rw [← HWS.out]; rfl) (by omega) HBq.out.size ?_
            intro u2 w5 ho5 hg5 hat5
            have HBa := Lib.hid ((Below.refl wq.heap.size wq).alloc (Nat.le_refl _) (.cells #[.int .i64 0] 3))
            have HB5 : Hid (Below w.heap.size w w5) := Lib.hid (below_grown (HBq.out.trans (HBa.out.mono HBq.out.size)) hg5 (by simp; have := HBq.out.size; omega) (fun k hk => (World.ownsRow.lt HOq.out k hk).1))
            have HM5 : Hid (CopyAt m bm w5) := Lib.hid ((HMq.out.below HBa.out).same (hg5.block bm (by rw [World.size_alloc]; have := HMq.out.lt; omega) (fun e => NG.out (Option.some.inj e).symm)) hg5.size)
            obtain ⟨g5, cap5, hu2⟩ := Go.Joins.ownsRow_form ho5 (show 0 < (out ++ [0]).length by rw [List.length_append, List.length_singleton]; omega)
            rw [List.length_append, List.length_singleton] at hu2
            subst hu2
            have NG5 := Lib.hid (show g5 ≠ bm from by rcases hat5 with h | h; exact fun e => NG.out ((Option.some.inj h).symm.trans e); intro e; have h2 : g5 = wq.heap.size + 1 := Option.some.inj h; have := HMq.out.lt; omega)
            have HO5 : Hid (OI w.heap.size w5 (.slice (some ⟨g5, 0, none⟩) (out.length + 1) cap5) (shS out out.length)) := Lib.hid (by rw [shS_top]; exact ho5)
            clear hg5 hat5 ho5
            go_wp2_with fail
            go_loopw [7] (SRc w out i m bm g5 (out.length + 1) cap5) (fun j _ => (intOf j).toNat)
            case atStart => exact ⟨out.length, by go_num, by omega, Nat.le_refl _, HB5, HO5, HM5⟩
            case round =>
              obtain ⟨j, rfl, hij, hj, HB, HO, HM⟩ := hrel
              have OA := HO.out
              rw [← shS_len out j hj] at OA
              obtain ⟨a1, a2, a3, a4, a5⟩ := oi_at OA
              rw [shS_len out j hj] at a4
              by_cases r : i < j
              · obtain ⟨j, rfl⟩ : ∃ j', j = j' + 1 := ⟨j - 1, by omega⟩
                have r' : decide ((i : Int) < (j : Int) + 1) = true := by simpa using (show (i : Int) < (j : Int) + 1 by omega)
                have x0 := a4 j (by omega)
                rw [shS_get out j (by omega)] at x0
                have x1 := a4 (j + 1) (by omega)
                have f1 := a5 (j + 1)
                have z1 : j + 1 < out.length + 1 := by omega
                have z2 : j < out.length + 1 := by omega
                have SS := Lib.hid (shS_set out j (by omega))
                have SL := Lib.hid (shS_len out j (by omega))
                clear a4 a5 OA
                generalize out.getD j 0 = x at *
                generalize (shS out (j + 1)).getD (j + 1) 0 = x' at *
                go_wp2_with fail
                go_roundw
                case rel =>
                  have S1 := World.ownsRow.stored (show wr.ownsRow w.heap.size 3 1 (.slice (some ⟨g5, 0, none⟩) (out.length + 1) cap5) (out.length + 1) (inC (shS out (j + 1))) by have := HO.out; unfold OI at this; rw [shS_len out (j + 1) hj] at this; exact this) (j + 1) (.int .i64 x)
                  refine ⟨j, by go_num, by omega, by omega, Lib.hid (below_grown HB.out S1.2 HB.out.size (fun k hk => by cases hk; exact a1)), Lib.hid ?_, Lib.hid (HM.out.same (S1.2.block bm HM.out.lt (fun e => NG5.out (Option.some.inj e).symm)) S1.2.size)⟩
                  unfold OI
                  rw [SL.out, ← SS.out, inC_set]
                  exact S1.1
                case measure => simp [intOf] <;> omega
              · obtain rfl : j = i := by omega
                have r' : decide ((j : Int) < (j : Int)) = false := by simp
                have cm := HM.out
                have y0 := cm.c0
                have yz := cm.lt
                have x1 := a4 j (by omega)
                have f1 := a5 j
                have z1 : j < out.length + 1 := by omega
                have SI := Lib.hid (shS_ins m.s out j hj)
                clear a4 a5 OA cm
                generalize (shS out j).getD j 0 = x' at *
                go_wp2_with fail
                go_roundw
                case rel =>
                  have S1 := World.ownsRow.stored (show wr.ownsRow w.heap.size 3 1 (.slice (some ⟨g5, 0, none⟩) (out.length + 1) cap5) (out.length + 1) (inC (shS out j)) by have := HO.out; unfold OI at this; rw [shS_len out j hj] at this; exact this) j (.int .i64 m.s)
                  have LN : (insI out m.s).length = out.length + 1 := by rw [HIA.out, ← SI.out, List.length_set, shS_len out j hj]
                  refine ⟨k + 1, by go_num, by omega, g5, cap5, by rw [RK.out, LN], Lib.hid (below_grown HB.out S1.2 HB.out.size (fun k hk => by cases hk; exact a1)), Lib.hid ?_⟩
                  rw [RK.out, LN]
                  unfold OI
                  rw [LN, HIA.out, ← SI.out, inC_set]
                  exact S1.1
                case measure => simp [intOf]; omega
    · obtain rfl : k = l.length := by omega
      go_wp2
      go_ret
      exact ⟨⟨_, rfl, by rw [← refK_eq]; exact HO.out⟩, HB.out⟩
end Go.Proofs.YtplgdlooglnpmaaGreat
namespace Go.Proofs.YtplgdlooglnpmaaGreat
set_option linter.unusedVariables false
open Go.RowKit
theorem srcref_nil (w : World) :
    Calls Tryz.prog 26 #[.slice none 0 0] w fun e w' => (∃ u, e = .returned u ∧ OI w.heap.size w' u (srcL [])) ∧ Below w.heap.size w w' := by
  go_enter Tryz.func26, Tryz.ntmps26
  go_wp2
  go_loop [3, 11] (fun u v => u = .slice (some ⟨w.heap.size, 0, none⟩) 0 0 ∧ v = .int .i64 0) (fun _ _ => 0)
  case atStart => exact ⟨rfl, rfl⟩
  case round =>
    obtain ⟨rfl, rfl⟩ := hrel
    go_wp2
    go_ret
    have e : srcL [] = [] := by unfold srcL srtL; rw [List.map_nil, List.mergeSort_nil]; rfl
    exact ⟨⟨_, rfl, by rw [e]; exact World.ownsRow_lit w #[] 0 (Nat.le_refl _) (by decide) rfl⟩, (Below.refl _ _).alloc (Nat.le_refl _) _⟩
theorem srcref_any (l : List Ms) (v : Value) (w : World) (h : LstAt l v w) (hl : l.length ≤ 1000) :
    Calls Tryz.prog 26 #[v] w fun e w' => (∃ u, e = .returned u ∧ OI w.heap.size w' u (srcL l)) ∧ Below w.heap.size w w' := by
  rcases h with ⟨rfl, rfl⟩ | ⟨b, o, cap, rfl, h2, h3, h4⟩
  · exact srcref_nil w
  · exact srcref_some l b o cap w h4 h2 h3 hl
end Go.Proofs.YtplgdlooglnpmaaGreat
namespace Go.Proofs.YtplgdlooglnpmaaGreat
set_option linter.unusedVariables false
open Go.RowKit
def WoRr (l : List Ms) (s : Int) (w : World) (v u : Value) (wr : World) : Prop := ∃ k : Nat, u = .int .i64 k ∧ k ≤ l.length ∧ Hid (Below w.heap.size w wr) ∧ Hid (OM w.heap.size wr v (woL (l.take k) s))
set_option maxHeartbeats 4000000 in
set_option maxRecDepth 100000 in
theorem woref_some (l : List Ms) (s : Int) (b o cap : Nat) (w : World) (h : MsAt l b o w) (hc : l.length ≤ cap) (hm : cap ≤ 9223372036854775807) (hl : l.length ≤ 18) :
    Calls Tryz.prog 27 #[.slice (some ⟨b, o, none⟩) l.length cap, .int .i64 s] w fun e w' => (∃ u, e = .returned u ∧ OM w.heap.size w' u (woL l s)) ∧ Below w.heap.size w w' := by
  have H := Lib.hid h
  have hlt := h.lt
  clear h
  go_enter Tryz.func27, Tryz.ntmps27
  go_wp2
  go_loopw [5, 11] (WoRr l s w) (fun _ i _ => l.length - (intOf i).toNat)
  case atStart => exact ⟨0, rfl, Nat.zero_le _, Lib.hid ((Below.refl _ _).alloc (Nat.le_refl _) _), Lib.hid (World.ownsRow_lit w #[] 0 (Nat.le_refl _) (by decide) rfl)⟩
  case round =>
    obtain ⟨k, rfl, hk, HB, HO⟩ := hrel
    by_cases q : k < l.length
    · have q' : decide (k < l.length) = true := by simpa using q
      have M := H.out.keep HB.out hlt
      have c0 := M.c0 k q
      have c1 := M.c1 k q
      have c2 := M.c2 k q
      have c3 := M.c3 k q
      have c4 := M.c4 k q
      have c5 := M.c5 k q
      have WS := Lib.hid (woL_succ (s := s) q)
      have SZ := Lib.hid (show (woL (l.take k) s).length ≤ 100000 by have := woL_len (l.take k) s; rw [List.length_take] at this; omega)
      have HS := Lib.hid HB.out.size
      clear M
      generalize hp : nth l k = p at *
      clear hp
      by_cases e : p.s = s
      · have g : (p.s != s) = false := by simpa using e
        have E := Lib.hid e
        clear e
        go_wp2
        go_roundw
        case rel =>
          have hb := (Below.refl wr.heap.size wr).alloc (Nat.le_refl _) (.cells #[.int .i64 p.s, .int .i64 p.a, .int .i64 p.b, .int .i64 p.z, .int .i64 p.d, .int .i64 p.w] 70)
          exact ⟨k + 1, by go_num, by omega, HB.out.trans (hb.mono HS.out), by rw [WS.out, if_pos E.out]; exact HO.out.below hb⟩
        case measure => simp [intOf]; omega
      · have g : (p.s != s) = true := by simpa using e
        have HA := Lib.hid ((Below.refl wr.heap.size wr).alloc (Nat.le_refl _) (.cells #[.int .i64 p.s, .int .i64 p.a, .int .i64 p.b, .int .i64 p.z, .int .i64 p.d, .int .i64 p.w] 70))
        go_wp2_with (at_builtin; refine Halt.mk ?_)
        unfold Halt
        refine wpList_om rfl (.tmp 19) (.tmp 21) rfl w.heap.size u5 (woL (l.take k) s) rfl (wr.alloc (.cells #[.int .i64 p.s, .int .i64 p.a, .int .i64 p.b, .int .i64 p.z, .int .i64 p.d, .int .i64 p.w] 70)) (HO.out.below HA.out) _ p 1 (by rw [World.size_alloc]; rfl) SZ.out (by have := HS.out; simp; omega) ?_
        intro u2 w5 ho5 hg5 hat5
        have HO5 : Hid (OM w.heap.size w5 u2 (woL (l.take (k + 1)) s)) := Lib.hid (by rw [WS.out, if_neg e]; exact ho5)
        have HB5 : Hid (Below w.heap.size w w5) := Lib.hid (below_grown ((HB.out.trans (HA.out.mono HS.out)).alloc (by simp; have := HS.out; omega) _) hg5 (by simp; have := HS.out; omega) (fun k hk => (World.ownsRow.lt HO.out k hk).1))
        clear hg5 hat5 c0 c1 c2 c3 c4 c5
        obtain ⟨g5, cap5, hu2⟩ := Go.Joins.ownsRow_form ho5 (show 0 < (woL (l.take k) s ++ [p]).length by rw [List.length_append, List.length_singleton]; omega)
        obtain ⟨N5, hN5⟩ : ∃ N, (woL (l.take k) s ++ [p]).length = N := ⟨_, rfl⟩
        rw [hN5] at hu2
        clear ho5 hN5
        subst hu2
        go_wp2
        go_roundw
        case rel => exact ⟨k + 1, by go_num, by omega, HB5, HO5⟩
        case measure => simp [intOf]; omega
    · obtain rfl : k = l.length := by omega
      rw [List.take_length] at HO
      rcases om_cases HO.out with ⟨rfl, hz⟩ | ⟨g, cap', rfl, _⟩
      · go_wp2
        go_ret
        exact ⟨⟨_, rfl, HO.out⟩, HB.out⟩
      · go_wp2
        go_ret
        exact ⟨⟨_, rfl, HO.out⟩, HB.out⟩
theorem woref_nil (s : Int) (w : World) :
    Calls Tryz.prog 27 #[.slice none 0 0, .int .i64 s] w fun e w' => (∃ u, e = .returned u ∧ OM w.heap.size w' u (woL [] s)) ∧ Below w.heap.size w w' := by
  go_enter Tryz.func27, Tryz.ntmps27
  go_wp2
  go_loop [5, 11] (fun u v => u = .slice (some ⟨w.heap.size, 0, none⟩) 0 0 ∧ v = .int .i64 0) (fun _ _ => 0)
  case atStart => exact ⟨rfl, rfl⟩
  case round =>
    obtain ⟨rfl, rfl⟩ := hrel
    go_wp2
    go_ret
    exact ⟨⟨_, rfl, World.ownsRow_lit w #[] 0 (Nat.le_refl _) (by decide) rfl⟩, (Below.refl _ _).alloc (Nat.le_refl _) _⟩
theorem woref_any (l : List Ms) (s : Int) (v : Value) (w : World) (h : LstAt l v w) (hl : l.length ≤ 18) :
    Calls Tryz.prog 27 #[v, .int .i64 s] w fun e w' => (∃ u, e = .returned u ∧ OM w.heap.size w' u (woL l s)) ∧ Below w.heap.size w w' := by
  rcases h with ⟨rfl, rfl⟩ | ⟨b, o, cap, rfl, h2, h3, h4⟩
  · exact woref_nil s w
  · exact woref_some l s b o cap w h4 h2 h3 hl
end Go.Proofs.YtplgdlooglnpmaaGreat
namespace Go.Proofs.YtplgdlooglnpmaaGreat
set_option linter.unusedVariables false
open Go.RowKit
/-- the reference's worst error over some sources -/
def wsF (l : List Ms) (cx cy : Int) (ks : List Int) : Int := if ks.any (fun k => decide ((reachF cx cy (woL l k)).2 ≠ 0)) = true then 2 else 0
theorem ws_nil (l : List Ms) (cx cy : Int) : wsF l cx cy [] = 0 := rfl
theorem ws_snoc (l : List Ms) (cx cy : Int) (ks : List Int) (k : Int) : wsF l cx cy (ks ++ [k]) = if (reachF cx cy (woL l k)).2 = 0 then wsF l cx cy ks else 2 := by
  unfold wsF
  rw [List.any_append]
  by_cases h : (reachF cx cy (woL l k)).2 = 0
  · rw [if_pos h]; simp [h]
  · rw [if_neg h]; simp [h]
theorem ws_cases (l : List Ms) (cx cy : Int) (ks : List Int) : (wsF l cx cy ks = 0 ∧ ∀ i, i < ks.length → (reachF cx cy (woL l (ks.getD i 0))).2 = 0) ∨ (wsF l cx cy ks = 2 ∧ ∃ i, i < ks.length ∧ (reachF cx cy (woL l (ks.getD i 0))).2 ≠ 0) := by
  unfold wsF
  by_cases h : ks.any (fun k => decide ((reachF cx cy (woL l k)).2 ≠ 0)) = true
  · rw [if_pos h]
    obtain ⟨z, hz, e⟩ := List.any_eq_true.1 h
    obtain ⟨i, hi, rfl⟩ := mem_getD hz
    exact .inr ⟨rfl, i, hi, of_decide_eq_true e⟩
  · rw [if_neg h]
    refine .inl ⟨rfl, fun i hi => ?_⟩
    rcases Decidable.em ((reachF cx cy (woL l (ks.getD i 0))).2 = 0) with a | a
    · exact a
    · exact absurd (List.any_eq_true.2 ⟨_, getD_mem hi, decide_eq_true a⟩) h
theorem ints_other {l : List Int} {g n j : Nat} {W : World} (h : IntsAt l g W) (hn : n ≠ g) (u : Value) : IntsAt l g (W.setCell ⟨n, j, none⟩ u) :=
  ⟨Nat.lt_of_lt_of_le h.lt (by simp [World.setCell]), fun i hi => (World.cell?_of_block (w := W) (a := ⟨g, i, none⟩) (Below.heap_setCell _ _ _ _ (Ne.symm hn))).trans (h.c i hi)⟩
def RlR (l : List Ms) (K : List Int) (cx cy : Int) (B bs : Nat) (S7 : List Value) (ps : Option Addr) (caps : Nat) (w : World) (u s : Value) (wr : World) : Prop := ∃ k : Nat, s = .int .i64 k ∧ u = .int .i64 (wsF l cx cy (K.take k)) ∧ k ≤ K.length ∧ Hid (Below w.heap.size w wr) ∧ Hid (Blk [.int .i64 0, .int .i64 0, .int .i64 0, .int .i64 0] w.heap.size wr) ∧ Hid (Blk S7 bs wr) ∧ Hid (Blk [.int .i64 cx, .int .i64 cy, .int .i64 (maxF (mxF l cx cy) (K.take k)), .int .i64 (maxF (myF l cx cy) (K.take k))] B wr) ∧ Hid (∀ k, k < K.length → ∃ g, ps = some ⟨g, 0, none⟩ ∧ K.length ≤ caps ∧ caps ≤ 9223372036854775807 ∧ B ≠ g ∧ IntsAt K g wr) ∧ Hid (∀ i, i < k → detN (woL l (K.getD i 0)) ≠ 0)
set_option maxHeartbeats 40000000 in
set_option maxRecDepth 100000 in
theorem rlev_any (l : List Ms) (v : Value) (w : World) (h : LstAt l v w) :
    Calls Tryz.prog 9 #[v] w fun e w' => e = .returned (.tuple #[boxV (levF l).1, .int .i64 (levF l).2]) ∧ Below w.heap.size w w' := by
  obtain ⟨p, cap, rfl⟩ := lst_form h
  by_cases hs : solE l = 0
  · obtain ⟨hc, hd, hx, hy⟩ := sol_chk hs
    have SO := Lib.hid fun w h => rsol_ok l (.slice p l.length cap) w h hs
    have L18 := Lib.hid (show l.length ≤ 18 by have := (okL_of hc).len; omega)
    have SR := Lib.hid fun w h => srcref_any l (.slice p l.length cap) w h (Nat.le_trans L18.out (by omega))
    have HC := Lib.hid hc
    have EV1 := Lib.hid fun k (h : k ∈ srcL l) hd => lev_rank hs h hd
    have EV2 := Lib.hid fun hr k (h : k ∈ srcL l) hw => lev_wide hs hr h hw
    have EV3 := Lib.hid fun hr hw => lev_good hs hr hw
    have RE := Lib.hid fun k (hd : detN (woL l k) ≠ 0) => rre_list ((okL_of hc).wo k) (det_pos (chk_wo hc k) hd) hx hy
    have KM := Lib.hid fun k (h : k < (srcL l).length) => getD_mem h
    have KL := Lib.hid (show (srcL l).length ≤ 18 from Nat.le_trans (src_len l) L18.out)
    clear hs hc hd hx hy
    generalize solX l = X at *
    generalize solY l = Y at *
    generalize detN l = T at *
    generalize cenX l = cx at *
    generalize cenY l = cy at *
    obtain ⟨K, hK⟩ : ∃ x, srcL l = x := ⟨_, rfl⟩
    rw [hK] at SR KM EV1 EV2 EV3 KL
    clear hK
    have H0 := Lib.hid h
    have KZ := Lib.hid (Blk.of (vs := #[.int .i64 0, .int .i64 0, .int .i64 0, .int .i64 0]) (t := 28) (w := w) (b := w.heap.size) (by simp))
    have HB := Lib.hid ((Below.refl w.heap.size w).alloc (by simp; try omega) (.cells #[.int .i64 0, .int .i64 0, .int .i64 0, .int .i64 0] 28))
    go_enter Tryz.func9, Tryz.ntmps9
    clear h
    go_wp2_with fail
    generalize w.alloc (.cells #[.int .i64 0, .int .i64 0, .int .i64 0, .int .i64 0] 28) = w0 at *
    refine (SO.out _ (H0.out.below HB.out)).mono ?_
    rintro e1 w1 ⟨rfl, hb1⟩
    replace HB := Lib.hid (HB.out.trans (hb1.mono HB.out.size))
    replace KZ := Lib.hid (KZ.out.below hb1)
    clear hb1
    go_wp2_with fail
    have KS := Lib.hid ((Blk.of (vs := #[.int .i64 (hiW X), .int .u64 (loW X), .int .i64 (hiW Y), .int .u64 (loW Y), .int .i64 T, .int .i64 cx, .int .i64 cy]) (t := 51) (w := w1) (b := w1.heap.size) rfl).alloc (.cells #[.int .i64 cx, .int .i64 cy, .int .i64 0, .int .i64 0] 28))
    have KB := Lib.hid (Blk.of (vs := #[.int .i64 cx, .int .i64 cy, .int .i64 0, .int .i64 0]) (t := 28) (w := w1.alloc (.cells #[.int .i64 (hiW X), .int .u64 (loW X), .int .i64 (hiW Y), .int .u64 (loW Y), .int .i64 T, .int .i64 cx, .int .i64 cy] 51)) (b := w1.heap.size + 1) (by simp))
    have hb2 : Below w1.heap.size w1 ((w1.alloc (.cells #[.int .i64 (hiW X), .int .u64 (loW X), .int .i64 (hiW Y), .int .u64 (loW Y), .int .i64 T, .int .i64 cx, .int .i64 cy] 51)).alloc (.cells #[.int .i64 cx, .int .i64 cy, .int .i64 0, .int .i64 0] 28)) := ((Below.refl _ _).alloc (Nat.le_refl _) _).alloc (by simp) _
    have hnS := HB.out.size
    have nzS_Z := KZ.out.lt
    replace HB := Lib.hid (HB.out.trans (hb2.mono HB.out.size))
    replace KZ := Lib.hid (KZ.out.below hb2)
    clear hb2
    generalize (w1.alloc (.cells #[.int .i64 (hiW X), .int .u64 (loW X), .int .i64 (hiW Y), .int .u64 (loW Y), .int .i64 T, .int .i64 cx, .int .i64 cy] 51)).alloc (.cells #[.int .i64 cx, .int .i64 cy, .int .i64 0, .int .i64 0] 28) = w2 at *
    generalize w1.heap.size = bS at *
    have neS_Z : bS ≠ w.heap.size := by omega
    have neB_Z : bS + 1 ≠ w.heap.size := by omega
    clear nzS_Z
    refine (SR.out _ (H0.out.below HB.out)).mono ?_
    rintro e9 w9 ⟨⟨us, rfl, hoi⟩, hb9⟩
    have hzB := KB.out.lt
    replace HB := Lib.hid (HB.out.trans (hb9.mono HB.out.size))
    replace KZ := Lib.hid (KZ.out.below hb9)
    replace KS := Lib.hid (KS.out.below hb9)
    replace KB := Lib.hid (KB.out.below hb9)
    clear hb9
    obtain ⟨ps, caps, rfl, IK⟩ : ∃ ps caps, us = .slice ps K.length caps ∧ Hid (∀ k, k < K.length → ∃ g, ps = some ⟨g, 0, none⟩ ∧ K.length ≤ caps ∧ caps ≤ 9223372036854775807 ∧ (bS + 1) ≠ g ∧ IntsAt K g w9) := by
      rcases oi_cases hoi with ⟨rfl, e⟩ | ⟨g, cap', rfl, q1, q2, q3, q4⟩
      · exact ⟨none, 0, by rw [e]; rfl, Lib.hid fun k hk => absurd hk (by rw [e]; simp)⟩
      · exact ⟨_, cap', rfl, Lib.hid fun k hk => ⟨g, rfl, q1, q2, by omega, q4⟩⟩
    clear hoi hzB
    go_wp2
    go_loopw [7, 32] (RlR l K cx cy (bS + 1) bS [.int .i64 (hiW X), .int .u64 (loW X), .int .i64 (hiW Y), .int .u64 (loW Y), .int .i64 T, .int .i64 cx, .int .i64 cy] ps caps w) (fun _ i _ => K.length - (intOf i).toNat)
    case atStart => exact ⟨0, rfl, by rw [List.take_zero, ws_nil], Nat.zero_le _, HB, KZ, KS, by rw [List.take_zero]; exact KB, IK, Lib.hid fun i hi => absurd hi (by omega)⟩
    case round =>
      clear HB KZ KS KB IK
      obtain ⟨k, rfl, rfl, hk, HB, KZ, KS, KB, IK, HR⟩ := hrel
      by_cases q : k < K.length
      · have q' : decide (k < K.length) = true := by simpa using q
        obtain ⟨gk, rfl, hk1, hk2, hgb, IA⟩ := IK.out k q
        have IX := Lib.hid IA
        have ck := IA.c k q
        have ckz := IA.lt
        clear IA IK
        have MX := Lib.hid (show maxF (mxF l cx cy) (K.take (k + 1)) = max (maxF (mxF l cx cy) (K.take k)) (reachF cx cy (woL l (K.getD k 0))).1.1 by rw [take_int q, max_snoc]; rfl)
        have MY := Lib.hid (show maxF (myF l cx cy) (K.take (k + 1)) = max (maxF (myF l cx cy) (K.take k)) (reachF cx cy (woL l (K.getD k 0))).1.2 by rw [take_int q, max_snoc]; rfl)
        have MW := Lib.hid (show wsF l cx cy (K.take (k + 1)) = if (reachF cx cy (woL l (K.getD k 0))).2 = 0 then wsF l cx cy (K.take k) else 2 by rw [take_int q, ws_snoc])
        have WO := Lib.hid fun w h => woref_any l (K.getD k 0) (.slice p l.length cap) w h L18.out
        have SV0 := Lib.hid fun hd v w h => rex_rank (woL l (K.getD k 0)) v w h (chk_wo HC.out _) hd
        have SV1 := Lib.hid fun hd v w h => rex_ok (woL l (K.getD k 0)) v w h (chk_wo HC.out _) hd
        have NS := Lib.hid fun v w h => rnoise_any (woL l (K.getD k 0)) v w h (chk_wo HC.out _)
        have ER := Lib.hid fun hd => EV1.out _ (KM.out k q) hd
        have RE2 := Lib.hid fun hd => RE.out (K.getD k 0) hd
        have RB := reach_bad cx cy (woL l (K.getD k 0))
        have HRD := Lib.hid fun (h : detN (woL l (K.getD k 0)) ≠ 0) i (hi : i < k + 1) => show detN (woL l (K.getD i 0)) ≠ 0 from by rcases Nat.lt_or_ge i k with a | a; exact HR.out i a; rw [show i = k by omega]; exact h
        generalize maxF (mxF l cx cy) (K.take k) = m1 at *
        generalize maxF (myF l cx cy) (K.take k) = m2 at *
        generalize wsF l cx cy (K.take k) = ws at *
        obtain ⟨R, hR⟩ : ∃ z, reachF cx cy (woL l (K.getD k 0)) = z := ⟨_, rfl⟩
        rw [hR] at RE2 RB MX MY MW
        clear hR
        generalize hkk : K.getD k 0 = kk at *
        clear hkk
        have WE := Lib.hid (rfl : woL l kk = woL l kk)
        generalize woL l kk = lw at *
        clear WE
        go_wp2_with fail
        refine (WO.out _ (H0.out.below HB.out)).mono ?_
        rintro e21 w21 ⟨⟨uw, rfl, how⟩, hb21⟩
        have HW := Lib.hid (OM.lst how)
        replace HB := Lib.hid (HB.out.trans (hb21.mono HB.out.size))
        replace KZ := Lib.hid (KZ.out.below hb21)
        replace KS := Lib.hid (KS.out.below hb21)
        replace KB := Lib.hid (KB.out.below hb21)
        replace IX := Lib.hid (IX.out.below hb21)
        clear hb21
        clear how ck ckz WO
        by_cases hd : detN lw = 0
        · have HV := Lib.hid (ER.out hd)
          have SV := Lib.hid (SV0.out hd)
          clear ER SV0 SV1 RE2 HRD MX MY MW RB hd NS
          go_wp2_with fail
          refine (SV.out _ _ HW.out).mono ?_
          rintro e22 w22 ⟨rfl, hb22⟩
          replace HB := Lib.hid (HB.out.trans (hb22.mono HB.out.size))
          replace KZ := Lib.hid (KZ.out.below hb22)
          replace KS := Lib.hid (KS.out.below hb22)
          replace KB := Lib.hid (KB.out.below hb22)
          replace IX := Lib.hid (IX.out.below hb22)
          clear hb22
          have yZ := KZ.out
          have yZ_0 := yZ.c 0 _ rfl
          have yZ_1 := yZ.c 1 _ rfl
          have yZ_2 := yZ.c 2 _ rfl
          have yZ_3 := yZ.c 3 _ rfl
          have yZ_z := yZ.lt
          have yZ_f0 := yZ.f 0 _ rfl
          have yZ_f1 := yZ.f 1 _ rfl
          have yZ_f2 := yZ.f 2 _ rfl
          have yZ_f3 := yZ.f 3 _ rfl
          clear yZ
          go_wp2
          replace KZ := Lib.hid (blk_set (blk_set (blk_set (blk_set KZ.out (j := 0) (by simp) (.int .i64 0)) (j := 1) (by simp) (.int .i64 0)) (j := 2) (by simp) (.int .i64 0)) (j := 3) (by simp) (.int .i64 0))
          replace KS := Lib.hid (blk_other (b := bS) (n := w.heap.size) (j := 3) (blk_other (b := bS) (n := w.heap.size) (j := 2) (blk_other (b := bS) (n := w.heap.size) (j := 1) (blk_other (b := bS) (n := w.heap.size) (j := 0) KS.out (by omega) (.int .i64 0)) (by omega) (.int .i64 0)) (by omega) (.int .i64 0)) (by omega) (.int .i64 0))
          replace KB := Lib.hid (blk_other (b := (bS + 1)) (n := w.heap.size) (j := 3) (blk_other (b := (bS + 1)) (n := w.heap.size) (j := 2) (blk_other (b := (bS + 1)) (n := w.heap.size) (j := 1) (blk_other (b := (bS + 1)) (n := w.heap.size) (j := 0) KB.out (by omega) (.int .i64 0)) (by omega) (.int .i64 0)) (by omega) (.int .i64 0)) (by omega) (.int .i64 0))
          replace HB := Lib.hid ((((HB.out.setCell (p := ⟨w.heap.size, 0, none⟩) (show w.heap.size ≤ w.heap.size by omega) (.int .i64 0)).setCell (p := ⟨w.heap.size, 1, none⟩) (show w.heap.size ≤ w.heap.size by omega) (.int .i64 0)).setCell (p := ⟨w.heap.size, 2, none⟩) (show w.heap.size ≤ w.heap.size by omega) (.int .i64 0)).setCell (p := ⟨w.heap.size, 3, none⟩) (show w.heap.size ≤ w.heap.size by omega) (.int .i64 0))
          clear yZ_0 yZ_1 yZ_2 yZ_3 yZ_z yZ_f0 yZ_f1 yZ_f2 yZ_f3
          generalize (((w22.setCell ⟨w.heap.size, 0, none⟩ (.int .i64 0)).setCell ⟨w.heap.size, 1, none⟩ (.int .i64 0)).setCell ⟨w.heap.size, 2, none⟩ (.int .i64 0)).setCell ⟨w.heap.size, 3, none⟩ (.int .i64 0) = w23 at *
          simp only [List.set] at KZ
          have KE := Lib.hid (Blk.of (vs := #[.int .i64 0, .int .u64 0, .int .i64 0, .int .u64 0, .int .i64 0, .int .i64 0, .int .i64 0]) (t := 51) (w := w23) (b := w23.heap.size) rfl)
          have hb24 : Below w23.heap.size w23 (w23.alloc (.cells #[.int .i64 0, .int .u64 0, .int .i64 0, .int .u64 0, .int .i64 0, .int .i64 0, .int .i64 0] 51)) := (Below.refl _ _).alloc (Nat.le_refl _) _
          have hnE := HB.out.size
          have nzE_Z := KZ.out.lt
          have nzE_S := KS.out.lt
          have nzE_B := KB.out.lt
          replace HB := Lib.hid (HB.out.trans (hb24.mono HB.out.size))
          replace KZ := Lib.hid (KZ.out.below hb24)
          replace KS := Lib.hid (KS.out.below hb24)
          replace KB := Lib.hid (KB.out.below hb24)
          clear hb24
          generalize w23.alloc (.cells #[.int .i64 0, .int .u64 0, .int .i64 0, .int .u64 0, .int .i64 0, .int .i64 0, .int .i64 0] 51) = w24 at *
          generalize w23.heap.size = bE at *
          have neE_Z : bE ≠ w.heap.size := by omega
          have neE_S : bE ≠ bS := by omega
          have neE_B : bE ≠ (bS + 1) := by omega
          clear nzE_Z nzE_S nzE_B
          have yZ := KZ.out
          have yZ_0 := yZ.c 0 _ rfl
          have yZ_1 := yZ.c 1 _ rfl
          have yZ_2 := yZ.c 2 _ rfl
          have yZ_3 := yZ.c 3 _ rfl
          have yZ_z := yZ.lt
          clear yZ
          refine bodyPost_ret (v := .tuple #[.agg #[.int .i64 0, .int .i64 0, .int .i64 0, .int .i64 0], .int .i64 14]) (by simp [results, Tryz.results9, go_sem, yZ_0, yZ_1, yZ_2, yZ_3]) rfl ⟨by rw [HV.out]; rfl, HB.out⟩
        · have HRD2 := Lib.hid (HRD.out hd)
          have SV := Lib.hid (SV1.out hd)
          obtain ⟨ax, ay, px, py, sz⟩ := RE2.out hd
          clear ER SV0 SV1 RE2 HRD hd
          generalize noiX lw + apartI cx (solX lw) (detN lw) = px' at *
          generalize noiY lw + apartI cy (solY lw) (detN lw) = py' at *
          generalize apartI cx (solX lw) (detN lw) = ax' at *
          generalize apartI cy (solY lw) (detN lw) = ay' at *
          generalize solX lw = x at *
          generalize solY lw = y at *
          generalize noiX lw = u at *
          generalize noiY lw = v at *
          generalize detN lw = t at *
          unfold wv at ax ay px py sz
          have AX := Lib.hid ax
          have AY := Lib.hid ay
          have PX := Lib.hid px
          have PY := Lib.hid py
          have SZ := Lib.hid sz
          clear ax ay px py sz
          go_wp2_with fail
          refine (SV.out _ _ HW.out).mono ?_
          rintro e22 w22 ⟨rfl, hb22⟩
          replace HB := Lib.hid (HB.out.trans (hb22.mono HB.out.size))
          replace KZ := Lib.hid (KZ.out.below hb22)
          replace KS := Lib.hid (KS.out.below hb22)
          replace KB := Lib.hid (KB.out.below hb22)
          replace IX := Lib.hid (IX.out.below hb22)
          replace HW := Lib.hid (HW.out.below hb22)
          clear hb22
          go_wp2_with fail
          have KE := Lib.hid (Blk.of (vs := #[.int .i64 (hiW x), .int .u64 (loW x), .int .i64 (hiW y), .int .u64 (loW y), .int .i64 t, .int .i64 0, .int .i64 0]) (t := 51) (w := w22) (b := w22.heap.size) rfl)
          have hb23 : Below w22.heap.size w22 (w22.alloc (.cells #[.int .i64 (hiW x), .int .u64 (loW x), .int .i64 (hiW y), .int .u64 (loW y), .int .i64 t, .int .i64 0, .int .i64 0] 51)) := (Below.refl _ _).alloc (Nat.le_refl _) _
          have hnE := HB.out.size
          have nzE_Z := KZ.out.lt
          have nzE_S := KS.out.lt
          have nzE_B := KB.out.lt
          replace HB := Lib.hid (HB.out.trans (hb23.mono HB.out.size))
          replace KZ := Lib.hid (KZ.out.below hb23)
          replace KS := Lib.hid (KS.out.below hb23)
          replace KB := Lib.hid (KB.out.below hb23)
          replace IX := Lib.hid (IX.out.below hb23)
          replace HW := Lib.hid (HW.out.below hb23)
          clear hb23
          generalize w22.alloc (.cells #[.int .i64 (hiW x), .int .u64 (loW x), .int .i64 (hiW y), .int .u64 (loW y), .int .i64 t, .int .i64 0, .int .i64 0] 51) = w23 at *
          generalize w22.heap.size = bE at *
          have neE_Z : bE ≠ w.heap.size := by omega
          have neE_S : bE ≠ bS := by omega
          have neE_B : bE ≠ (bS + 1) := by omega
          clear nzE_Z nzE_S nzE_B
          refine (NS.out _ _ HW.out).mono ?_
          rintro e24 w24 ⟨rfl, hb24⟩
          replace HB := Lib.hid (HB.out.trans (hb24.mono HB.out.size))
          replace KZ := Lib.hid (KZ.out.below hb24)
          replace KS := Lib.hid (KS.out.below hb24)
          replace KB := Lib.hid (KB.out.below hb24)
          replace KE := Lib.hid (KE.out.below hb24)
          replace IX := Lib.hid (IX.out.below hb24)
          replace HW := Lib.hid (HW.out.below hb24)
          clear hb24
          go_wp2_with fail
          have KA := Lib.hid ((Blk.of (vs := #[.int .i64 (hiW u), .int .u64 (loW u)]) (t := 49) (w := w24) (b := w24.heap.size) rfl).alloc (.cells #[.int .i64 (hiW v), .int .u64 (loW v)] 49))
          have KC := Lib.hid (Blk.of (vs := #[.int .i64 (hiW v), .int .u64 (loW v)]) (t := 49) (w := w24.alloc (.cells #[.int .i64 (hiW u), .int .u64 (loW u)] 49)) (b := w24.heap.size + 1) (by simp))
          have hb25 : Below w24.heap.size w24 ((w24.alloc (.cells #[.int .i64 (hiW u), .int .u64 (loW u)] 49)).alloc (.cells #[.int .i64 (hiW v), .int .u64 (loW v)] 49)) := ((Below.refl _ _).alloc (Nat.le_refl _) _).alloc (by simp) _
          have hnA := HB.out.size
          have nzA_Z := KZ.out.lt
          have nzA_S := KS.out.lt
          have nzA_B := KB.out.lt
          have nzA_E := KE.out.lt
          replace HB := Lib.hid (HB.out.trans (hb25.mono HB.out.size))
          replace KZ := Lib.hid (KZ.out.below hb25)
          replace KS := Lib.hid (KS.out.below hb25)
          replace KB := Lib.hid (KB.out.below hb25)
          replace KE := Lib.hid (KE.out.below hb25)
          replace IX := Lib.hid (IX.out.below hb25)
          replace HW := Lib.hid (HW.out.below hb25)
          clear hb25
          generalize (w24.alloc (.cells #[.int .i64 (hiW u), .int .u64 (loW u)] 49)).alloc (.cells #[.int .i64 (hiW v), .int .u64 (loW v)] 49) = w25 at *
          generalize w24.heap.size = bA at *
          have neA_Z : bA ≠ w.heap.size := by omega
          have neC_Z : bA + 1 ≠ w.heap.size := by omega
          have neA_S : bA ≠ bS := by omega
          have neC_S : bA + 1 ≠ bS := by omega
          have neA_B : bA ≠ (bS + 1) := by omega
          have neC_B : bA + 1 ≠ (bS + 1) := by omega
          have neA_E : bA ≠ bE := by omega
          have neC_E : bA + 1 ≠ bE := by omega
          clear nzA_Z nzA_S nzA_B nzA_E
          have gS_5 := fun d os => cell_regrown (KS.out.c 5 _ rfl) d os
          have gS_6 := fun d os => cell_regrown (KS.out.c 6 _ rfl) d os
          have gE_0 := fun d os => cell_regrown (KE.out.c 0 _ rfl) d os
          have gE_1 := fun d os => cell_regrown (KE.out.c 1 _ rfl) d os
          have gE_2 := fun d os => cell_regrown (KE.out.c 2 _ rfl) d os
          have gE_3 := fun d os => cell_regrown (KE.out.c 3 _ rfl) d os
          have gE_4 := fun d os => cell_regrown (KE.out.c 4 _ rfl) d os
          have gA_0 := fun d os => cell_regrown (KA.out.c 0 _ rfl) d os
          have gA_1 := fun d os => cell_regrown (KA.out.c 1 _ rfl) d os
          have gC_0 := fun d os => cell_regrown (KC.out.c 0 _ rfl) d os
          have gC_1 := fun d os => cell_regrown (KC.out.c 1 _ rfl) d os
          have rv0 := Lib.hid (fun d os => Calls.regrown_of (AX.out (Go.Sort.grow (redrawn w25 d) os)))
          have rv1 := Lib.hid (fun d os => Calls.regrown_of (AY.out (Go.Sort.grow (redrawn w25 d) os)))
          have rv2 := Lib.hid (fun d os => Calls.regrown_of (PX.out (Go.Sort.grow (redrawn w25 d) os)))
          have rv3 := Lib.hid (fun d os => Calls.regrown_of (PY.out (Go.Sort.grow (redrawn w25 d) os)))
          have rv4 := Lib.hid (fun d os => Calls.regrown_of (SZ.out (Go.Sort.grow (redrawn w25 d) os)))
          refine wp_region_quiet_below (by kernel_rfl) (by kernel_rfl) ?_
          repeat (quiet_step (first | with_reducible exact rv0.out _ _ | with_reducible exact rv1.out _ _ | with_reducible exact rv2.out _ _ | with_reducible exact rv3.out _ _ | with_reducible exact rv4.out _ _))
          refine wpQuiet_nil ?_
          intro w26 hw26
          have hb26 : Below w25.heap.size w25 w26 := by
            obtain ⟨⟨dq, osq⟩, hw2⟩ := hw26
            rw [hw2]; exact below_regrown _ dq osq
          clear gS_5 gS_6 gE_0 gE_1 gE_2 gE_3 gE_4 gA_0 gA_1 gC_0 gC_1 rv0 rv1 rv2 rv3 rv4 hw26
          replace HB := Lib.hid (HB.out.trans (hb26.mono HB.out.size))
          replace KZ := Lib.hid (KZ.out.below hb26)
          replace KS := Lib.hid (KS.out.below hb26)
          replace KB := Lib.hid (KB.out.below hb26)
          replace KE := Lib.hid (KE.out.below hb26)
          replace KA := Lib.hid (KA.out.below hb26)
          replace KC := Lib.hid (KC.out.below hb26)
          replace IX := Lib.hid (IX.out.below hb26)
          replace HW := Lib.hid (HW.out.below hb26)
          clear hb26
          obtain ⟨⟨rx, ry⟩, re⟩ := R
          have MX2 := Lib.hid MX.out
          have MY2 := Lib.hid MY.out
          have MW2 := Lib.hid MW.out
          clear MX MY MW AX AY PX PY SZ NS SV
          rcases RB with RB | RB
          · simp only at RB
            subst RB
            have MW3 := Lib.hid (MW2.out.trans (if_pos rfl))
            clear MW2
            have yB := KB.out
            have yB_0 := yB.c 0 _ rfl
            have yB_1 := yB.c 1 _ rfl
            have yB_2 := yB.c 2 _ rfl
            have yB_3 := yB.c 3 _ rfl
            have yB_z := yB.lt
            have yB_f0 := yB.f 0 _ rfl
            have yB_f1 := yB.f 1 _ rfl
            have yB_f2 := yB.f 2 _ rfl
            have yB_f3 := yB.f 3 _ rfl
            clear yB
            go_wp2
            replace KZ := Lib.hid (blk_other (b := w.heap.size) (n := (bS + 1)) (j := 3) (blk_other (b := w.heap.size) (n := (bS + 1)) (j := 2) KZ.out (by omega) (.int .i64 (max m1 rx))) (by omega) (.int .i64 (max m2 ry)))
            replace KS := Lib.hid (blk_other (b := bS) (n := (bS + 1)) (j := 3) (blk_other (b := bS) (n := (bS + 1)) (j := 2) KS.out (by omega) (.int .i64 (max m1 rx))) (by omega) (.int .i64 (max m2 ry)))
            replace KB := Lib.hid (blk_set (blk_set KB.out (j := 2) (by simp) (.int .i64 (max m1 rx))) (j := 3) (by simp) (.int .i64 (max m2 ry)))
            replace KE := Lib.hid (blk_other (b := bE) (n := (bS + 1)) (j := 3) (blk_other (b := bE) (n := (bS + 1)) (j := 2) KE.out (by omega) (.int .i64 (max m1 rx))) (by omega) (.int .i64 (max m2 ry)))
            replace KA := Lib.hid (blk_other (b := bA) (n := (bS + 1)) (j := 3) (blk_other (b := bA) (n := (bS + 1)) (j := 2) KA.out (by omega) (.int .i64 (max m1 rx))) (by omega) (.int .i64 (max m2 ry)))
            replace KC := Lib.hid (blk_other (b := (bA + 1)) (n := (bS + 1)) (j := 3) (blk_other (b := (bA + 1)) (n := (bS + 1)) (j := 2) KC.out (by omega) (.int .i64 (max m1 rx))) (by omega) (.int .i64 (max m2 ry)))
            replace HB := Lib.hid ((HB.out.setCell (p := ⟨(bS + 1), 2, none⟩) (show w.heap.size ≤ (bS + 1) by omega) (.int .i64 (max m1 rx))).setCell (p := ⟨(bS + 1), 3, none⟩) (show w.heap.size ≤ (bS + 1) by omega) (.int .i64 (max m2 ry)))
            clear yB_0 yB_1 yB_2 yB_3 yB_z yB_f0 yB_f1 yB_f2 yB_f3
            simp only [List.set] at KB
            have IX2 := Lib.hid (ints_other (j := 3) (ints_other (j := 2) IX.out hgb (.int .i64 (max m1 rx))) hgb (.int .i64 (max m2 ry)))
            exact ⟨⟨k + 1, by go_num, by rw [MW3.out], by omega, HB, KZ, KS, by rw [MX2.out, MY2.out]; exact KB, Lib.hid fun k hk => ⟨gk, rfl, hk1, hk2, hgb, IX2.out⟩, HRD2⟩, by simp [intOf]; omega⟩
          · injection RB with RB1 RB2
            injection RB1 with RB3 RB4
            subst RB2 RB3 RB4
            have MW3 := Lib.hid (MW2.out.trans (if_neg (by simp)))
            clear MW2
            have yB := KB.out
            have yB_0 := yB.c 0 _ rfl
            have yB_1 := yB.c 1 _ rfl
            have yB_2 := yB.c 2 _ rfl
            have yB_3 := yB.c 3 _ rfl
            have yB_z := yB.lt
            have yB_f0 := yB.f 0 _ rfl
            have yB_f1 := yB.f 1 _ rfl
            have yB_f2 := yB.f 2 _ rfl
            have yB_f3 := yB.f 3 _ rfl
            clear yB
            go_wp2
            replace KZ := Lib.hid (blk_other (b := w.heap.size) (n := (bS + 1)) (j := 3) (blk_other (b := w.heap.size) (n := (bS + 1)) (j := 2) KZ.out (by omega) (.int .i64 (max m1 0))) (by omega) (.int .i64 (max m2 0)))
            replace KS := Lib.hid (blk_other (b := bS) (n := (bS + 1)) (j := 3) (blk_other (b := bS) (n := (bS + 1)) (j := 2) KS.out (by omega) (.int .i64 (max m1 0))) (by omega) (.int .i64 (max m2 0)))
            replace KB := Lib.hid (blk_set (blk_set KB.out (j := 2) (by simp) (.int .i64 (max m1 0))) (j := 3) (by simp) (.int .i64 (max m2 0)))
            replace KE := Lib.hid (blk_other (b := bE) (n := (bS + 1)) (j := 3) (blk_other (b := bE) (n := (bS + 1)) (j := 2) KE.out (by omega) (.int .i64 (max m1 0))) (by omega) (.int .i64 (max m2 0)))
            replace KA := Lib.hid (blk_other (b := bA) (n := (bS + 1)) (j := 3) (blk_other (b := bA) (n := (bS + 1)) (j := 2) KA.out (by omega) (.int .i64 (max m1 0))) (by omega) (.int .i64 (max m2 0)))
            replace KC := Lib.hid (blk_other (b := (bA + 1)) (n := (bS + 1)) (j := 3) (blk_other (b := (bA + 1)) (n := (bS + 1)) (j := 2) KC.out (by omega) (.int .i64 (max m1 0))) (by omega) (.int .i64 (max m2 0)))
            replace HB := Lib.hid ((HB.out.setCell (p := ⟨(bS + 1), 2, none⟩) (show w.heap.size ≤ (bS + 1) by omega) (.int .i64 (max m1 0))).setCell (p := ⟨(bS + 1), 3, none⟩) (show w.heap.size ≤ (bS + 1) by omega) (.int .i64 (max m2 0)))
            clear yB_0 yB_1 yB_2 yB_3 yB_z yB_f0 yB_f1 yB_f2 yB_f3
            simp only [List.set] at KB
            have IX2 := Lib.hid (ints_other (j := 3) (ints_other (j := 2) IX.out hgb (.int .i64 (max m1 0))) hgb (.int .i64 (max m2 0)))
            exact ⟨⟨k + 1, by go_num, by rw [MW3.out], by omega, HB, KZ, KS, by rw [MX2.out, MY2.out]; exact KB, Lib.hid fun k hk => ⟨gk, rfl, hk1, hk2, hgb, IX2.out⟩, HRD2⟩, by simp [intOf]; omega⟩
      · obtain rfl : k = K.length := by omega
        rw [List.take_length] at KB
        rw [List.take_length]
        rcases ws_cases l cx cy K with ⟨we, hw⟩ | ⟨we, i, hi, hw⟩
        · rw [we]
          have HV := Lib.hid (EV3.out HR.out hw)
          clear we hw
          generalize maxF (mxF l cx cy) K = m1 at *
          generalize maxF (myF l cx cy) K = m2 at *
          have yZ := KZ.out
          have yZ_0 := yZ.c 0 _ rfl
          have yZ_1 := yZ.c 1 _ rfl
          have yZ_2 := yZ.c 2 _ rfl
          have yZ_3 := yZ.c 3 _ rfl
          have yZ_z := yZ.lt
          have yZ_f0 := yZ.f 0 _ rfl
          have yZ_f1 := yZ.f 1 _ rfl
          have yZ_f2 := yZ.f 2 _ rfl
          have yZ_f3 := yZ.f 3 _ rfl
          clear yZ
          have yB := KB.out
          have yB_0 := yB.c 0 _ rfl
          have yB_1 := yB.c 1 _ rfl
          have yB_2 := yB.c 2 _ rfl
          have yB_3 := yB.c 3 _ rfl
          have yB_z := yB.lt
          clear yB
          go_wp2
          replace KZ := Lib.hid (blk_set (blk_set (blk_set (blk_set KZ.out (j := 0) (by simp) (.int .i64 cx)) (j := 1) (by simp) (.int .i64 cy)) (j := 2) (by simp) (.int .i64 m1)) (j := 3) (by simp) (.int .i64 m2))
          replace KS := Lib.hid (blk_other (b := bS) (n := w.heap.size) (j := 3) (blk_other (b := bS) (n := w.heap.size) (j := 2) (blk_other (b := bS) (n := w.heap.size) (j := 1) (blk_other (b := bS) (n := w.heap.size) (j := 0) KS.out (by omega) (.int .i64 cx)) (by omega) (.int .i64 cy)) (by omega) (.int .i64 m1)) (by omega) (.int .i64 m2))
          replace KB := Lib.hid (blk_other (b := (bS + 1)) (n := w.heap.size) (j := 3) (blk_other (b := (bS + 1)) (n := w.heap.size) (j := 2) (blk_other (b := (bS + 1)) (n := w.heap.size) (j := 1) (blk_other (b := (bS + 1)) (n := w.heap.size) (j := 0) KB.out (by omega) (.int .i64 cx)) (by omega) (.int .i64 cy)) (by omega) (.int .i64 m1)) (by omega) (.int .i64 m2))
          replace HB := Lib.hid ((((HB.out.setCell (p := ⟨w.heap.size, 0, none⟩) (show w.heap.size ≤ w.heap.size by omega) (.int .i64 cx)).setCell (p := ⟨w.heap.size, 1, none⟩) (show w.heap.size ≤ w.heap.size by omega) (.int .i64 cy)).setCell (p := ⟨w.heap.size, 2, none⟩) (show w.heap.size ≤ w.heap.size by omega) (.int .i64 m1)).setCell (p := ⟨w.heap.size, 3, none⟩) (show w.heap.size ≤ w.heap.size by omega) (.int .i64 m2))
          clear yZ_0 yZ_1 yZ_2 yZ_3 yZ_z yZ_f0 yZ_f1 yZ_f2 yZ_f3 yB_0 yB_1 yB_2 yB_3 yB_z
          generalize (((wr.setCell ⟨w.heap.size, 0, none⟩ (.int .i64 cx)).setCell ⟨w.heap.size, 1, none⟩ (.int .i64 cy)).setCell ⟨w.heap.size, 2, none⟩ (.int .i64 m1)).setCell ⟨w.heap.size, 3, none⟩ (.int .i64 m2) = w51 at *
          simp only [List.set] at KZ
          have yZ := KZ.out
          have yZ_0 := yZ.c 0 _ rfl
          have yZ_1 := yZ.c 1 _ rfl
          have yZ_2 := yZ.c 2 _ rfl
          have yZ_3 := yZ.c 3 _ rfl
          have yZ_z := yZ.lt
          clear yZ
          refine bodyPost_ret (v := .tuple #[.agg #[.int .i64 cx, .int .i64 cy, .int .i64 m1, .int .i64 m2], .int .i64 0]) (by simp [results, Tryz.results9, go_sem, yZ_0, yZ_1, yZ_2, yZ_3]) rfl ⟨by rw [HV.out]; rfl, HB.out⟩
        · rw [we]
          have HV := Lib.hid (EV2.out HR.out _ (KM.out i hi) hw)
          clear we hw hi
          generalize maxF (mxF l cx cy) K = m1 at *
          generalize maxF (myF l cx cy) K = m2 at *
          have yZ := KZ.out
          have yZ_0 := yZ.c 0 _ rfl
          have yZ_1 := yZ.c 1 _ rfl
          have yZ_2 := yZ.c 2 _ rfl
          have yZ_3 := yZ.c 3 _ rfl
          have yZ_z := yZ.lt
          have yZ_f0 := yZ.f 0 _ rfl
          have yZ_f1 := yZ.f 1 _ rfl
          have yZ_f2 := yZ.f 2 _ rfl
          have yZ_f3 := yZ.f 3 _ rfl
          clear yZ
          go_wp2
          replace KZ := Lib.hid (blk_set (blk_set (blk_set (blk_set KZ.out (j := 0) (by simp) (.int .i64 0)) (j := 1) (by simp) (.int .i64 0)) (j := 2) (by simp) (.int .i64 0)) (j := 3) (by simp) (.int .i64 0))
          replace KS := Lib.hid (blk_other (b := bS) (n := w.heap.size) (j := 3) (blk_other (b := bS) (n := w.heap.size) (j := 2) (blk_other (b := bS) (n := w.heap.size) (j := 1) (blk_other (b := bS) (n := w.heap.size) (j := 0) KS.out (by omega) (.int .i64 0)) (by omega) (.int .i64 0)) (by omega) (.int .i64 0)) (by omega) (.int .i64 0))
          replace KB := Lib.hid (blk_other (b := (bS + 1)) (n := w.heap.size) (j := 3) (blk_other (b := (bS + 1)) (n := w.heap.size) (j := 2) (blk_other (b := (bS + 1)) (n := w.heap.size) (j := 1) (blk_other (b := (bS + 1)) (n := w.heap.size) (j := 0) KB.out (by omega) (.int .i64 0)) (by omega) (.int .i64 0)) (by omega) (.int .i64 0)) (by omega) (.int .i64 0))
          replace HB := Lib.hid ((((HB.out.setCell (p := ⟨w.heap.size, 0, none⟩) (show w.heap.size ≤ w.heap.size by omega) (.int .i64 0)).setCell (p := ⟨w.heap.size, 1, none⟩) (show w.heap.size ≤ w.heap.size by omega) (.int .i64 0)).setCell (p := ⟨w.heap.size, 2, none⟩) (show w.heap.size ≤ w.heap.size by omega) (.int .i64 0)).setCell (p := ⟨w.heap.size, 3, none⟩) (show w.heap.size ≤ w.heap.size by omega) (.int .i64 0))
          clear yZ_0 yZ_1 yZ_2 yZ_3 yZ_z yZ_f0 yZ_f1 yZ_f2 yZ_f3
          generalize (((wr.setCell ⟨w.heap.size, 0, none⟩ (.int .i64 0)).setCell ⟨w.heap.size, 1, none⟩ (.int .i64 0)).setCell ⟨w.heap.size, 2, none⟩ (.int .i64 0)).setCell ⟨w.heap.size, 3, none⟩ (.int .i64 0) = w51 at *
          simp only [List.set] at KZ
          have yZ := KZ.out
          have yZ_0 := yZ.c 0 _ rfl
          have yZ_1 := yZ.c 1 _ rfl
          have yZ_2 := yZ.c 2 _ rfl
          have yZ_3 := yZ.c 3 _ rfl
          have yZ_z := yZ.lt
          clear yZ
          refine bodyPost_ret (v := .tuple #[.agg #[.int .i64 0, .int .i64 0, .int .i64 0, .int .i64 0], .int .i64 2]) (by simp [results, Tryz.results9, go_sem, yZ_0, yZ_1, yZ_2, yZ_3]) rfl ⟨by rw [HV.out]; rfl, HB.out⟩
  · have SO := Lib.hid fun w h => rsol_bad l (.slice p l.length cap) w h hs
    have HV : Hid (levF l = (box0, solE l)) := Lib.hid (by unfold levF; rw [if_neg hs])
    have g : (solE l != 0) = true := by simpa using hs
    have g' : (solE l == 0) = false := by simpa using hs
    clear hs
    generalize solE l = c at *
    have H0 := Lib.hid h
    have KZ := Lib.hid (Blk.of (vs := #[.int .i64 0, .int .i64 0, .int .i64 0, .int .i64 0]) (t := 28) (w := w) (b := w.heap.size) (by simp))
    have HB := Lib.hid ((Below.refl w.heap.size w).alloc (by simp; try omega) (.cells #[.int .i64 0, .int .i64 0, .int .i64 0, .int .i64 0] 28))
    go_enter Tryz.func9, Tryz.ntmps9
    clear h
    go_wp2_with fail
    generalize w.alloc (.cells #[.int .i64 0, .int .i64 0, .int .i64 0, .int .i64 0] 28) = w0 at *
    refine (SO.out _ (H0.out.below HB.out)).mono ?_
    rintro e1 w1 ⟨rfl, hb1⟩
    replace HB := Lib.hid (HB.out.trans (hb1.mono HB.out.size))
    replace KZ := Lib.hid (KZ.out.below hb1)
    clear hb1
    have yZ := KZ.out
    have yZ_0 := yZ.c 0 _ rfl
    have yZ_1 := yZ.c 1 _ rfl
    have yZ_2 := yZ.c 2 _ rfl
    have yZ_3 := yZ.c 3 _ rfl
    have yZ_z := yZ.lt
    have yZ_f0 := yZ.f 0 _ rfl
    have yZ_f1 := yZ.f 1 _ rfl
    have yZ_f2 := yZ.f 2 _ rfl
    have yZ_f3 := yZ.f 3 _ rfl
    clear yZ
    go_wp2
    replace KZ := Lib.hid (blk_set (blk_set (blk_set (blk_set KZ.out (j := 0) (by simp) (.int .i64 0)) (j := 1) (by simp) (.int .i64 0)) (j := 2) (by simp) (.int .i64 0)) (j := 3) (by simp) (.int .i64 0))
    replace HB := Lib.hid ((((HB.out.setCell (p := ⟨w.heap.size, 0, none⟩) (show w.heap.size ≤ w.heap.size by omega) (.int .i64 0)).setCell (p := ⟨w.heap.size, 1, none⟩) (show w.heap.size ≤ w.heap.size by omega) (.int .i64 0)).setCell (p := ⟨w.heap.size, 2, none⟩) (show w.heap.size ≤ w.heap.size by omega) (.int .i64 0)).setCell (p := ⟨w.heap.size, 3, none⟩) (show w.heap.size ≤ w.heap.size by omega) (.int .i64 0))
    clear yZ_0 yZ_1 yZ_2 yZ_3 yZ_z yZ_f0 yZ_f1 yZ_f2 yZ_f3
    generalize (((w1.setCell ⟨w.heap.size, 0, none⟩ (.int .i64 0)).setCell ⟨w.heap.size, 1, none⟩ (.int .i64 0)).setCell ⟨w.heap.size, 2, none⟩ (.int .i64 0)).setCell ⟨w.heap.size, 3, none⟩ (.int .i64 0) = w2 at *
    simp only [List.set] at KZ
    have KS := Lib.hid (Blk.of (vs := #[.int .i64 0, .int .u64 0, .int .i64 0, .int .u64 0, .int .i64 0, .int .i64 0, .int .i64 0]) (t := 51) (w := w2) (b := w2.heap.size) rfl)
    have hb3 : Below w2.heap.size w2 (w2.alloc (.cells #[.int .i64 0, .int .u64 0, .int .i64 0, .int .u64 0, .int .i64 0, .int .i64 0, .int .i64 0] 51)) := (Below.refl _ _).alloc (Nat.le_refl _) _
    have hnS := HB.out.size
    have nzS_Z := KZ.out.lt
    replace HB := Lib.hid (HB.out.trans (hb3.mono HB.out.size))
    replace KZ := Lib.hid (KZ.out.below hb3)
    clear hb3
    generalize w2.alloc (.cells #[.int .i64 0, .int .u64 0, .int .i64 0, .int .u64 0, .int .i64 0, .int .i64 0, .int .i64 0] 51) = w3 at *
    generalize w2.heap.size = bS at *
    have neS_Z : bS ≠ w.heap.size := by omega
    clear nzS_Z
    have yZ := KZ.out
    have yZ_0 := yZ.c 0 _ rfl
    have yZ_1 := yZ.c 1 _ rfl
    have yZ_2 := yZ.c 2 _ rfl
    have yZ_3 := yZ.c 3 _ rfl
    have yZ_z := yZ.lt
    clear yZ
    refine bodyPost_ret (v := .tuple #[.agg #[.int .i64 0, .int .i64 0, .int .i64 0, .int .i64 0], .int .i64 c]) (by simp [results, Tryz.results9, go_sem, yZ_0, yZ_1, yZ_2, yZ_3]) rfl ⟨by rw [HV.out]; rfl, HB.out⟩
end Go.Proofs.YtplgdlooglnpmaaGreat
