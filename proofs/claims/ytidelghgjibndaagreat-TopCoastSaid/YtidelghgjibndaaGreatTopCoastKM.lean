/-
  The walk of the law TopCoast.
-/
import Derived.Test.YtidelghgjibndaaGreatStepN7M
import Derived.Test.YtidelghgjibndaaGreatM7t8
import Derived.Deep.DeepCutAuto
import Derived.Test.YtidelghgjibndaaGreatTopCoastRM
namespace Go.Proofs.YtidelghgjibndaaGreat.topCoast
set_option linter.unusedVariables false
open Go.ChangeShapes Go.WideShapes Go.ChangeAt Go.RowKit

/-- the point's bounds, and that it lies in the box while the moves were within the drift -/
structure CoP (b : Bx4) (k : Nat) (hb : Bool) (bx : Bx4) (px py : Int) : Prop where
  z : k = 0 → px = b.cx ∧ py = b.cy
  p : k ≠ 0 → (-2000000 - 2000000 * k ≤ px ∧ px ≤ 2000000 + 2000000 * k) ∧ -2000000 - 2000000 * k ≤ py ∧ py ≤ 2000000 + 2000000 * k
  i : hb = true → k ≠ 0 → inB bx px py
theorem cop_bd {b : Bx4} {t m ve vn dr : Int} {k : Nat} {hb : Bool} {bx : Bx4} {t' m' px py : Int} (h : CoP b k hb bx px py) (s : CoS b t m ve vn dr k bx t' m') (c : CoI b t m ve vn dr k bx t' m') : ((-2000000 - 2000000 * k ≤ px ∧ px ≤ 2000000 + 2000000 * k) ∧ -2000000 - 2000000 * k ≤ py ∧ py ≤ 2000000 + 2000000 * k) ∧ (hb = true → inB bx px py) := by
  have v := bxV_iff.1 s.b0
  by_cases z : k = 0
  · obtain ⟨e1, e2⟩ := h.z z
    have e : bx = b := by rw [c.box, z, show ((0 : Nat) : Int) = 0 from rfl, mov_zero]
    subst e
    refine ⟨by omega, fun _ => ?_⟩
    unfold inB
    omega
  · exact ⟨h.p z, fun q => h.i q z⟩
theorem cop_next {b : Bx4} {t m ve vn dr : Int} {k : Nat} {hb : Bool} {bx : Bx4} {t' m' px py dx dy : Int} (h : CoP b k hb bx px py) (s : CoS b t m ve vn dr k bx t' m') (c : CoI b t m ve vn dr k bx t' m') (hx : -2000000 ≤ dx ∧ dx ≤ 2000000) (hy : -2000000 ≤ dy ∧ dy ≤ 2000000) (h2 : Bool)
    (hh : h2 = true → hb = true ∧ (dx - ve ≤ dr ∧ ve - dx ≤ dr) ∧ dy - vn ≤ dr ∧ vn - dy ≤ dr) : CoP b (k + 1) h2 (movB bx ve vn dr 1) (px + dx) (py + dy) := by
  obtain ⟨h3, h4⟩ := cop_bd h s c
  refine ⟨fun q => absurd q (by omega), fun _ => by omega, fun q _ => ?_⟩
  obtain ⟨q0, q1, q2⟩ := hh q
  exact in_move (h4 q0) q1 q2
def CoR (L : List Pt) (b : Bx4) (t0 m ve vn dr rq : Int) (bA bP : Nat) (w : World) (u10 u12 : Value) (wr : World) : Prop := ∃ (k : Nat) (hb : Bool) (bx : Bx4) (t' m' px py tk : Int), u12 = .int .i64 k ∧ u10 = .bool hb ∧ k ≤ L.length ∧ Hid (Below w.heap.size w wr) ∧ Hid (Blk [.int .i64 b.cx, .int .i64 b.cy, .int .i64 b.x, .int .i64 b.y, .int .i64 t0, .int .i64 m] w.heap.size wr) ∧ Hid (Blk [.int .i64 tk, .slice none 0 0, .int .i64 ve, .int .i64 vn, .int .i64 dr, .int .i64 rq] (w.heap.size + 1) wr) ∧ Hid (Blk [.int .i64 bx.cx, .int .i64 bx.cy, .int .i64 bx.x, .int .i64 bx.y, .int .i64 (t'), .int .i64 (m')] bA wr) ∧ Hid (Blk [.int .i64 px, .int .i64 py] bP wr) ∧ Hid (CoI b t0 m ve vn dr k bx t' m') ∧ Hid (CoP b k hb bx px py)
set_option maxHeartbeats 40000000 in
set_option maxRecDepth 100000 in
theorem walk (cx cy x y t m tk : Int) (rv : Value) (ve vn dr rq : Int) (v : Value) (L : List Pt) (w : World) (h : PlAt L v w) (hL : ∀ i, i < L.length → (-9223372036854775808 ≤ (nthP L i).x ∧ (nthP L i).x ≤ 9223372036854775807) ∧ (-9223372036854775808 ≤ (nthP L i).y ∧ (nthP L i).y ≤ 9223372036854775807)) :
    Calls Tryz.prog 4 #[.agg #[.int .i64 cx, .int .i64 cy, .int .i64 x, .int .i64 y, .int .i64 t, .int .i64 m], .agg #[.int .i64 tk, rv, .int .i64 ve, .int .i64 vn, .int .i64 dr, .int .i64 rq], v] w fun e w' => e = .returned (.bool true) ∧ Below w.heap.size w w' := by
  have HL := Lib.hid hL
  have C1 := Lib.hid fun w => coast_any ⟨0, 0, 1, 0⟩ 2 0 1 3 w
  rw [show cstF ⟨0, 0, 1, 0⟩ 2 0 1 3 = (⟨6, 0, 4, 3⟩, 0) from by kernel_rfl] at C1
  clear hL
  obtain ⟨p, cap, rfl⟩ := pl_form h
  have H0 := Lib.hid h
  obtain ⟨KS, KI, HB⟩ := ent2 w #[.int .i64 cx, .int .i64 cy, .int .i64 x, .int .i64 y, .int .i64 t, .int .i64 m] 41 #[.int .i64 tk, rv, .int .i64 ve, .int .i64 vn, .int .i64 dr, .int .i64 rq] 45
  go_enter Tryz.func4, Tryz.ntmps4
  clear h
  go_wp2_with fail
  generalize (w.alloc (.cells #[.int .i64 cx, .int .i64 cy, .int .i64 x, .int .i64 y, .int .i64 t, .int .i64 m] 41)).alloc (.cells #[.int .i64 tk, rv, .int .i64 ve, .int .i64 vn, .int .i64 dr, .int .i64 rq] 45) = w0 at *
  refine (C1.out _).mono ?_
  rintro e1 w1 ⟨rfl, hb1⟩
  replace HB := hT HB hb1
  replace KS := hK KS hb1
  replace KI := hK KI hb1
  clear hb1
  go_upto_region 2 with (fail)
  obtain ⟨KB, hb2⟩ := alB w1 #[.int .i64 6, .int .i64 0, .int .i64 4, .int .i64 3] 26
  have hnB := HB.out.size
  have nzB_S := KS.out.lt
  have nzB_I := KI.out.lt
  replace HB := hT HB hb2
  replace KS := hK KS hb2
  replace KI := hK KI hb2
  clear hb2
  generalize w1.alloc (.cells #[.int .i64 6, .int .i64 0, .int .i64 4, .int .i64 3] 26) = w2 at *
  generalize w1.heap.size = bB at *
  have neB_S : bB ≠ w.heap.size := by omega
  have neB_I : bB ≠ (w.heap.size + 1) := by omega
  clear nzB_S nzB_I
  obtain ⟨yB_0, yB_1, yB_2, yB_3, yB_z⟩ := blk4 KB
  go_upto_region 4 with (fail)
  clear yB_0 yB_1 yB_2 yB_3 yB_z
  obtain ⟨yS_0, yS_1, yS_2, yS_3, yS_4, yS_5, yS_z⟩ := blk6 KS
  go_cut [40] (fun s40 wx => wx = w2 ∧ ∃ q : Bool, s40 = .bool q ∧ (q = false → 0 ≤ t ∧ t ≤ 1099511627676))
  case first =>
    by_cases h0 : t < 0
    · have g0 : decide (t < 0) = true := by simpa using h0
      clear h0
      go_wp2_with fail
      go_meet
      exact ⟨rfl, _, rfl, fun q => absurd q (by simp)⟩
    · have g0 : decide (t < 0) = false := by simpa using h0
      by_cases h1 : 1099511627676 < t
      · have g1 : decide (1099511627676 < t) = true := by simpa using h1
        clear h0 h1
        go_wp2_with fail
        go_meet
        exact ⟨rfl, _, rfl, fun q => absurd q (by simp)⟩
      · have g1 : decide (1099511627676 < t) = false := by simpa using h1
        have HT := Lib.hid (show 0 ≤ t ∧ t ≤ 1099511627676 by omega)
        clear h0 h1
        go_wp2_with fail
        go_meet
        exact ⟨rfl, _, rfl, fun _ => HT.out⟩
  case rest =>
    clear yS_0 yS_1 yS_2 yS_3 yS_4 yS_5 yS_z
    obtain ⟨hwc, q, rfl, hq⟩ := hcut
    subst hwc
    have HQ := Lib.hid hq
    clear hq
    go_upto_if 40 with (fail)
    go_cut [] (fun wx => ∃ t0 : Int, Hid (0 ≤ t0 ∧ t0 ≤ 1099511627676) ∧ Hid (Below w.heap.size w wx) ∧ Hid (Blk [.int .i64 cx, .int .i64 cy, .int .i64 x, .int .i64 y, .int .i64 t0, .int .i64 m] w.heap.size wx) ∧ Hid (Blk [.int .i64 tk, rv, .int .i64 ve, .int .i64 vn, .int .i64 dr, .int .i64 rq] (w.heap.size + 1) wx))
    case first =>
      cases q with
      | true =>
        obtain ⟨yS_0, yS_1, yS_2, yS_3, yS_4, yS_5, yS_z, yS_f0, yS_f1, yS_f2, yS_f3, yS_f4, yS_f5⟩ := blf6 KS
        go_wp2_with fail
        have hs := st1 wc w.heap.size 4 (.int .i64 0)
        replace KS := Lib.hid (blk_set KS.out (j := 4) (by simp) (.int .i64 0))
        replace KI := oB hs KI (by omega)
        replace KB := oB hs KB (by omega)
        replace HB := oH hs HB (by omega)
        clear hs
        clear yS_0 yS_1 yS_2 yS_3 yS_4 yS_5 yS_z yS_f0 yS_f1 yS_f2 yS_f3 yS_f4 yS_f5
        simp only [List.set] at KS
        go_meet
        exact ⟨0, Lib.hid (by omega), HB, KS, KI⟩
      | false =>
        go_wp2_with fail
        go_meet
        exact ⟨t, Lib.hid (HQ.out (by first | rfl | trivial)), HB, KS, KI⟩
    case rest =>
      clear HB KS KI KB HQ q
      obtain ⟨t0, HT0, HB, KS, KI⟩ := hcut
      obtain ⟨yI_0, yI_1, yI_2, yI_3, yI_4, yI_5, yI_z, yI_f0, yI_f1, yI_f2, yI_f3, yI_f4, yI_f5⟩ := blf6 KI
      go_wp2_with fail
      have hs := st1 wc (w.heap.size + 1) 1 (.slice none 0 0)
      replace KS := oB hs KS (by omega)
      replace KI := Lib.hid (blk_set KI.out (j := 1) (by simp) (.slice none 0 0))
      replace HB := oH hs HB (by omega)
      clear hs
      clear yI_0 yI_1 yI_2 yI_3 yI_4 yI_5 yI_z yI_f0 yI_f1 yI_f2 yI_f3 yI_f4 yI_f5
      generalize wc.setCell ⟨(w.heap.size + 1), 1, none⟩ (.slice none 0 0) = w21 at *
      simp only [List.set] at KI
      have gS_0 := fun d os => cell_regrown (KS.out.c 0 _ rfl) d os
      have gS_1 := fun d os => cell_regrown (KS.out.c 1 _ rfl) d os
      have gS_2 := fun d os => cell_regrown (KS.out.c 2 _ rfl) d os
      have gS_3 := fun d os => cell_regrown (KS.out.c 3 _ rfl) d os
      have gS_4 := fun d os => cell_regrown (KS.out.c 4 _ rfl) d os
      have gS_5 := fun d os => cell_regrown (KS.out.c 5 _ rfl) d os
      apply wp_two (R := fun b d w' => w.heap.size ≤ b ∧ w.heap.size ≤ d ∧ b ≠ d ∧ b ≠ w.heap.size ∧ b ≠ (w.heap.size + 1) ∧ d ≠ w.heap.size ∧ d ≠ (w.heap.size + 1) ∧ Hid (Below w.heap.size w w') ∧ Hid (Blk [.int .i64 cx, .int .i64 cy, .int .i64 x, .int .i64 y, .int .i64 t0, .int .i64 m] b w') ∧ Hid (Blk [.int .i64 cx, .int .i64 cy] d w') ∧ Hid (Blk [.int .i64 cx, .int .i64 cy, .int .i64 x, .int .i64 y, .int .i64 t0, .int .i64 m] w.heap.size w') ∧ Hid (Blk [.int .i64 tk, .slice none 0 0, .int .i64 ve, .int .i64 vn, .int .i64 dr, .int .i64 rq] (w.heap.size + 1) w'))
      · refine wp_region_calm (fun w' => ∃ p : Regrown, w' = Go.Sort.grow (redrawn w21 p.d) p.os) (by kernel_rfl) ?_
        refine wpAnyC_heads oneOut_normal (by kernel_rfl) [0, 1, 2, 3] 5 (Array.replicate 9 false) _ _ (by kernel_rfl) ?_
        simp only [pick, List.filterMap_cons, List.filterMap_nil, List.getElem?_cons_zero, List.getElem?_cons_succ]
        repeat (refine wpCalm_step (fun K hK => ?_); go_simp; first | (refine hK _ ?_; clear hK K) | (refine ⟨_, fun _ => calm_intro, hK _ ?_⟩; clear hK K))
        refine wpCalm_nil ?_
        have HX := Lib.hid (below_drew1 (Below.refl w21.heap.size w21))
        generalize w21.drew = wa at HX ⊢
        refine wpAnyC_node (i := 4) (rs := [5]) (by kernel_rfl) (regrown_of_below HX.out) (all2 ?_ ?_)
        · refine wpOp_of_list (by rfl) ?_
          go_wp2_with fail
          refine Then1.mk ?_
          have KA := Lib.hid (Blk.of (vs := #[.int .i64 0, .int .i64 0, .int .i64 0, .int .i64 0, .int .i64 0, .int .i64 0]) (t := 41) (w := wa) (b := wa.heap.size) rfl)
          have hA := HX.out.size
          replace HX := Lib.hid (HX.out.alloc HX.out.size (.cells #[.int .i64 0, .int .i64 0, .int .i64 0, .int .i64 0, .int .i64 0, .int .i64 0] 41))
          generalize wa.alloc (.cells #[.int .i64 0, .int .i64 0, .int .i64 0, .int .i64 0, .int .i64 0, .int .i64 0] 41) = wb1 at *
          generalize wa.heap.size = bA at *
          refine wpAnyC_node (i := 5) (rs := []) (by kernel_rfl) (regrown_of_below HX.out) (all1 ?_)
          refine wpOp_of_list (by rfl) ?_
          go_wp2_with fail
          refine Then1.mk ?_
          have KP := Lib.hid (Blk.of (vs := #[.int .i64 0, .int .i64 0]) (t := 24) (w := wb1) (b := wb1.heap.size) rfl)
          have hP := HX.out.size
          have ePA : wb1.heap.size ≠ bA := Nat.ne_of_gt KA.out.lt
          replace KA := Lib.hid (KA.out.alloc (.cells #[.int .i64 0, .int .i64 0] 24))
          replace HX := Lib.hid (HX.out.alloc HX.out.size (.cells #[.int .i64 0, .int .i64 0] 24))
          generalize wb1.alloc (.cells #[.int .i64 0, .int .i64 0] 24) = wb2 at *
          generalize wb1.heap.size = bP at *
          refine wpAnyC_node (i := 6) (rs := []) (by kernel_rfl) (regrown_of_below HX.out) (all1 ?_)
          refine wpOp_of_list (by rfl) ?_
          have yA := KA.out
          have yA_0 := yA.c 0 _ rfl
          have yA_1 := yA.c 1 _ rfl
          have yA_2 := yA.c 2 _ rfl
          have yA_3 := yA.c 3 _ rfl
          have yA_4 := yA.c 4 _ rfl
          have yA_5 := yA.c 5 _ rfl
          have yA_f0 := yA.f 0 _ rfl
          have yA_f1 := yA.f 1 _ rfl
          have yA_f2 := yA.f 2 _ rfl
          have yA_f3 := yA.f 3 _ rfl
          have yA_f4 := yA.f 4 _ rfl
          have yA_f5 := yA.f 5 _ rfl
          have yA_z := yA.lt
          clear yA
          go_wp2_with fail
          refine Then1.mk ?_
          replace KA := Lib.hid (blk_set (blk_set (blk_set (blk_set (blk_set (blk_set KA.out (j := 0) (by simp) (.int .i64 cx)) (j := 1) (by simp) (.int .i64 cy)) (j := 2) (by simp) (.int .i64 x)) (j := 3) (by simp) (.int .i64 y)) (j := 4) (by simp) (.int .i64 t0)) (j := 5) (by simp) (.int .i64 m))
          replace KP := Lib.hid (blk_other (j := 5) (blk_other (j := 4) (blk_other (j := 3) (blk_other (j := 2) (blk_other (j := 1) (blk_other (j := 0) KP.out (Ne.symm ePA) (.int .i64 cx)) (Ne.symm ePA) (.int .i64 cy)) (Ne.symm ePA) (.int .i64 x)) (Ne.symm ePA) (.int .i64 y)) (Ne.symm ePA) (.int .i64 t0)) (Ne.symm ePA) (.int .i64 m))
          replace HX := Lib.hid ((((((HX.out.setCell (p := ⟨bA, 0, none⟩) hA (.int .i64 cx)).setCell (p := ⟨bA, 1, none⟩) hA (.int .i64 cy)).setCell (p := ⟨bA, 2, none⟩) hA (.int .i64 x)).setCell (p := ⟨bA, 3, none⟩) hA (.int .i64 y)).setCell (p := ⟨bA, 4, none⟩) hA (.int .i64 t0)).setCell (p := ⟨bA, 5, none⟩) hA (.int .i64 m))
          clear yA_0 yA_f0 yA_1 yA_f1 yA_2 yA_f2 yA_3 yA_f3 yA_4 yA_f4 yA_5 yA_f5 yA_z
          generalize (((((wb2.setCell ⟨bA, 0, none⟩ (.int .i64 cx)).setCell ⟨bA, 1, none⟩ (.int .i64 cy)).setCell ⟨bA, 2, none⟩ (.int .i64 x)).setCell ⟨bA, 3, none⟩ (.int .i64 y)).setCell ⟨bA, 4, none⟩ (.int .i64 t0)).setCell ⟨bA, 5, none⟩ (.int .i64 m) = wb3 at *
          simp only [List.set] at KA
          refine wpAnyC_heads oneOut_normal (by kernel_rfl) [7] 1 _ _ _ (by kernel_rfl) ?_
          simp only [pick, List.filterMap_cons, List.filterMap_nil, List.getElem?_cons_zero, List.getElem?_cons_succ]
          repeat (refine wpCalm_step (fun K hK => ?_); go_simp; first | (refine hK _ ?_; clear hK K) | (refine ⟨_, fun _ => calm_intro, hK _ ?_⟩; clear hK K))
          refine wpCalm_nil ?_
          refine wpAnyC_node (i := 8) (rs := []) (by kernel_rfl) (regrown_of_below HX.out) (all1 ?_)
          refine wpOp_of_list (by rfl) ?_
          have yP := KP.out
          have yP_0 := yP.c 0 _ rfl
          have yP_1 := yP.c 1 _ rfl
          have yP_f0 := yP.f 0 _ rfl
          have yP_f1 := yP.f 1 _ rfl
          have yP_z := yP.lt
          clear yP
          go_wp2_with fail
          refine Then1.mk ?_
          replace KP := Lib.hid (blk_set (blk_set KP.out (j := 0) (by simp) (.int .i64 cx)) (j := 1) (by simp) (.int .i64 cy))
          replace KA := Lib.hid (blk_other (j := 1) (blk_other (j := 0) KA.out ePA (.int .i64 cx)) ePA (.int .i64 cy))
          replace HX := Lib.hid ((HX.out.setCell (p := ⟨bP, 0, none⟩) hP (.int .i64 cx)).setCell (p := ⟨bP, 1, none⟩) hP (.int .i64 cy))
          clear yP_0 yP_f0 yP_1 yP_f1 yP_z
          generalize (wb3.setCell ⟨bP, 0, none⟩ (.int .i64 cx)).setCell ⟨bP, 1, none⟩ (.int .i64 cy) = wb4 at *
          simp only [List.set] at KP
          refine wpAnyC_leaf (by kernel_rfl) (regrown_of_below HX.out) (OneOut.mk ⟨bA, bP, rfl, ?_⟩)
          exact ⟨Nat.le_trans HB.out.size hA, Nat.le_trans HB.out.size hP, (Ne.symm ePA), Nat.ne_of_gt (Nat.lt_of_lt_of_le KS.out.lt hA), Nat.ne_of_gt (Nat.lt_of_lt_of_le KI.out.lt hA), Nat.ne_of_gt (Nat.lt_of_lt_of_le KS.out.lt hP), Nat.ne_of_gt (Nat.lt_of_lt_of_le KI.out.lt hP), Lib.hid (HB.out.trans (HX.out.mono HB.out.size)), KA, KP, Lib.hid (KS.out.below HX.out), Lib.hid (KI.out.below HX.out)⟩
        · refine wpOp_of_list (by rfl) ?_
          go_wp2_with fail
          refine Then1.mk ?_
          have KP := Lib.hid (Blk.of (vs := #[.int .i64 0, .int .i64 0]) (t := 24) (w := wa) (b := wa.heap.size) rfl)
          have hP := HX.out.size
          replace HX := Lib.hid (HX.out.alloc HX.out.size (.cells #[.int .i64 0, .int .i64 0] 24))
          generalize wa.alloc (.cells #[.int .i64 0, .int .i64 0] 24) = wb1 at *
          generalize wa.heap.size = bP at *
          refine wpAnyC_node (i := 4) (rs := []) (by kernel_rfl) (regrown_of_below HX.out) (all1 ?_)
          refine wpOp_of_list (by rfl) ?_
          go_wp2_with fail
          refine Then1.mk ?_
          have KA := Lib.hid (Blk.of (vs := #[.int .i64 0, .int .i64 0, .int .i64 0, .int .i64 0, .int .i64 0, .int .i64 0]) (t := 41) (w := wb1) (b := wb1.heap.size) rfl)
          have hA := HX.out.size
          have eAP : wb1.heap.size ≠ bP := Nat.ne_of_gt KP.out.lt
          replace KP := Lib.hid (KP.out.alloc (.cells #[.int .i64 0, .int .i64 0, .int .i64 0, .int .i64 0, .int .i64 0, .int .i64 0] 41))
          replace HX := Lib.hid (HX.out.alloc HX.out.size (.cells #[.int .i64 0, .int .i64 0, .int .i64 0, .int .i64 0, .int .i64 0, .int .i64 0] 41))
          generalize wb1.alloc (.cells #[.int .i64 0, .int .i64 0, .int .i64 0, .int .i64 0, .int .i64 0, .int .i64 0] 41) = wb2 at *
          generalize wb1.heap.size = bA at *
          refine wpAnyC_node (i := 6) (rs := []) (by kernel_rfl) (regrown_of_below HX.out) (all1 ?_)
          refine wpOp_of_list (by rfl) ?_
          have yA := KA.out
          have yA_0 := yA.c 0 _ rfl
          have yA_1 := yA.c 1 _ rfl
          have yA_2 := yA.c 2 _ rfl
          have yA_3 := yA.c 3 _ rfl
          have yA_4 := yA.c 4 _ rfl
          have yA_5 := yA.c 5 _ rfl
          have yA_f0 := yA.f 0 _ rfl
          have yA_f1 := yA.f 1 _ rfl
          have yA_f2 := yA.f 2 _ rfl
          have yA_f3 := yA.f 3 _ rfl
          have yA_f4 := yA.f 4 _ rfl
          have yA_f5 := yA.f 5 _ rfl
          have yA_z := yA.lt
          clear yA
          go_wp2_with fail
          refine Then1.mk ?_
          replace KA := Lib.hid (blk_set (blk_set (blk_set (blk_set (blk_set (blk_set KA.out (j := 0) (by simp) (.int .i64 cx)) (j := 1) (by simp) (.int .i64 cy)) (j := 2) (by simp) (.int .i64 x)) (j := 3) (by simp) (.int .i64 y)) (j := 4) (by simp) (.int .i64 t0)) (j := 5) (by simp) (.int .i64 m))
          replace KP := Lib.hid (blk_other (j := 5) (blk_other (j := 4) (blk_other (j := 3) (blk_other (j := 2) (blk_other (j := 1) (blk_other (j := 0) KP.out eAP (.int .i64 cx)) eAP (.int .i64 cy)) eAP (.int .i64 x)) eAP (.int .i64 y)) eAP (.int .i64 t0)) eAP (.int .i64 m))
          replace HX := Lib.hid ((((((HX.out.setCell (p := ⟨bA, 0, none⟩) hA (.int .i64 cx)).setCell (p := ⟨bA, 1, none⟩) hA (.int .i64 cy)).setCell (p := ⟨bA, 2, none⟩) hA (.int .i64 x)).setCell (p := ⟨bA, 3, none⟩) hA (.int .i64 y)).setCell (p := ⟨bA, 4, none⟩) hA (.int .i64 t0)).setCell (p := ⟨bA, 5, none⟩) hA (.int .i64 m))
          clear yA_0 yA_f0 yA_1 yA_f1 yA_2 yA_f2 yA_3 yA_f3 yA_4 yA_f4 yA_5 yA_f5 yA_z
          generalize (((((wb2.setCell ⟨bA, 0, none⟩ (.int .i64 cx)).setCell ⟨bA, 1, none⟩ (.int .i64 cy)).setCell ⟨bA, 2, none⟩ (.int .i64 x)).setCell ⟨bA, 3, none⟩ (.int .i64 y)).setCell ⟨bA, 4, none⟩ (.int .i64 t0)).setCell ⟨bA, 5, none⟩ (.int .i64 m) = wb3 at *
          simp only [List.set] at KA
          refine wpAnyC_heads oneOut_normal (by kernel_rfl) [7] 1 _ _ _ (by kernel_rfl) ?_
          simp only [pick, List.filterMap_cons, List.filterMap_nil, List.getElem?_cons_zero, List.getElem?_cons_succ]
          repeat (refine wpCalm_step (fun K hK => ?_); go_simp; first | (refine hK _ ?_; clear hK K) | (refine ⟨_, fun _ => calm_intro, hK _ ?_⟩; clear hK K))
          refine wpCalm_nil ?_
          refine wpAnyC_node (i := 8) (rs := []) (by kernel_rfl) (regrown_of_below HX.out) (all1 ?_)
          refine wpOp_of_list (by rfl) ?_
          have yP := KP.out
          have yP_0 := yP.c 0 _ rfl
          have yP_1 := yP.c 1 _ rfl
          have yP_f0 := yP.f 0 _ rfl
          have yP_f1 := yP.f 1 _ rfl
          have yP_z := yP.lt
          clear yP
          go_wp2_with fail
          refine Then1.mk ?_
          replace KP := Lib.hid (blk_set (blk_set KP.out (j := 0) (by simp) (.int .i64 cx)) (j := 1) (by simp) (.int .i64 cy))
          replace KA := Lib.hid (blk_other (j := 1) (blk_other (j := 0) KA.out (Ne.symm eAP) (.int .i64 cx)) (Ne.symm eAP) (.int .i64 cy))
          replace HX := Lib.hid ((HX.out.setCell (p := ⟨bP, 0, none⟩) hP (.int .i64 cx)).setCell (p := ⟨bP, 1, none⟩) hP (.int .i64 cy))
          clear yP_0 yP_f0 yP_1 yP_f1 yP_z
          generalize (wb3.setCell ⟨bP, 0, none⟩ (.int .i64 cx)).setCell ⟨bP, 1, none⟩ (.int .i64 cy) = wb4 at *
          simp only [List.set] at KP
          refine wpAnyC_leaf (by kernel_rfl) (regrown_of_below HX.out) (OneOut.mk ⟨bA, bP, rfl, ?_⟩)
          exact ⟨Nat.le_trans HB.out.size hA, Nat.le_trans HB.out.size hP, eAP, Nat.ne_of_gt (Nat.lt_of_lt_of_le KS.out.lt hA), Nat.ne_of_gt (Nat.lt_of_lt_of_le KI.out.lt hA), Nat.ne_of_gt (Nat.lt_of_lt_of_le KS.out.lt hP), Nat.ne_of_gt (Nat.lt_of_lt_of_le KI.out.lt hP), Lib.hid (HB.out.trans (HX.out.mono HB.out.size)), KA, KP, Lib.hid (KS.out.below HX.out), Lib.hid (KI.out.below HX.out)⟩
      clear gS_0 gS_1 gS_2 gS_3 gS_4 gS_5
      rintro bA bP w30 ⟨nA, nP, neA_P, neA_S, neA_I, neP_S, neP_I, HB2, KA, KP, KS2, KI2⟩
      replace HB := HB2
      clear HB2
      replace KS := KS2
      clear KS2
      replace KI := KI2
      clear KI2
      go_wp2
      go_loopw [10, 12] (CoR L ⟨cx, cy, x, y⟩ t0 m ve vn dr rq bA bP w) (fun _ i _ => L.length - (intOf i).toNat)
      case atStart => exact ⟨0, true, ⟨cx, cy, x, y⟩, t0, m, cx, cy, tk, rfl, rfl, Nat.zero_le _, HB, KS, KI, KA, KP, Lib.hid (co_start _ _ _ _ _ _), Lib.hid ⟨fun _ => ⟨rfl, rfl⟩, fun q => absurd rfl q, fun _ q => absurd rfl q⟩⟩
      case round =>
        clear HB KS KI KA KP
        obtain ⟨k, hb, bx, t', m', px, py, tk', rfl, rfl, hk, HB, KS, KI, KA, KP, HC, HP⟩ := hrel
        by_cases q : k < L.length
        · by_cases q8 : k < 24
          · have q' : decide (k < L.length) = true := by simpa using q
            have q8' : decide (k < 24) = true := by simpa using q8
            have q9 : decide ((k : Int) < 24) = true := by simp; omega
            obtain ⟨ax, ay, a1, a2⟩ := bx
            simp only at KS KA
            have st : IntKind.i64.wrap (t' + 1) = t' + 1 := IntWalk.i64_in _ (by have := HC.out.tick; have := HT0.out; omega)
            obtain ⟨yI_0, yI_1, yI_2, yI_3, yI_4, yI_5, yI_z, yI_f0, yI_f1, yI_f2, yI_f3, yI_f4, yI_f5⟩ := blf6 KI
            obtain ⟨yA_0, yA_1, yA_2, yA_3, yA_4, yA_5, yA_z⟩ := blk6 KA
            go_wp2_with fail
            have hs := st1 wr (w.heap.size + 1) 0 (.int .i64 (t' + 1))
            replace KS := oB hs KS (by omega)
            replace KI := Lib.hid (blk_set KI.out (j := 0) (by simp) (.int .i64 (t' + 1)))
            replace KA := oB hs KA (by omega)
            replace KP := oB hs KP (by omega)
            replace HB := oH hs HB (by omega)
            clear hs
            clear yI_0 yI_1 yI_2 yI_3 yI_4 yI_5 yI_z yI_f0 yI_f1 yI_f2 yI_f3 yI_f4 yI_f5 yA_0 yA_1 yA_2 yA_3 yA_4 yA_5 yA_z
            generalize wr.setCell ⟨(w.heap.size + 1), 0, none⟩ (.int .i64 (t' + 1)) = w41 at *
            simp only [List.set] at KI
            clear st
            by_cases he : stpE ⟨ax, ay, a1, a2⟩ t' m' (t' + 1) ve vn dr rq = 0
            · have SG := Lib.hid fun w => step_ok0 ⟨ax, ay, a1, a2⟩ t' m' (t' + 1) ve vn dr rq w he
              have CS := co_step HC.out q8 he
              have e1 : t' + 1 - t' = 1 := by omega
              rw [e1] at SG
              clear e1 he
              have HN := Lib.hid fun (dx dy : Int) (hx : -2000000 ≤ dx ∧ dx ≤ 2000000) (hy : -2000000 ≤ dy ∧ dy ≤ 2000000) (h2 : Bool) hh => cop_next (dx := dx) (dy := dy) HP.out CS HC.out hx hy h2 hh
              have PB := Lib.hid (cop_bd HP.out CS HC.out).1
              obtain ⟨cnext, cwhole, cms, cb0, cb1, crg, cm0, cm1⟩ := CS
              have RG := Lib.hid (rngC_iff.1 crg)
              have BN := Lib.hid (bxV_iff.1 cb1)
              have CO := Lib.hid fun w => coast_any ⟨cx, cy, x, y⟩ ve vn dr (k + 1) w
              rw [cwhole] at CO
              have CN := Lib.hid cnext
              have gM : (min (m' + 1) 1000 != min (m + k + 1) 1000) = false := by rw [cms]; simp
              have sm0 : IntKind.i64.wrap (m + k) = m + k := IntWalk.i64_in _ (by omega)
              have sm1 : IntKind.i64.wrap (m + k + 1) = m + k + 1 := IntWalk.i64_in _ (by omega)
              clear cwhole cnext cms cb0 cb1 crg cm0 cm1 HC HP
              generalize movB ⟨ax, ay, a1, a2⟩ ve vn dr 1 = nb at *
              obtain ⟨nx, ny, n1, n2⟩ := nb
              simp only at SG CO BN
              generalize useB n1 n2 rq = us at *
              obtain ⟨mm, hmm⟩ : ∃ z, min (m' + 1) 1000 = z := ⟨_, rfl⟩
              rw [hmm] at SG gM CN
              clear hmm
              refine (SG.out _).mono ?_
              rintro e42 w42 ⟨rfl, hb42⟩
              replace HB := hT HB hb42
              replace KS := hK KS hb42
              replace KI := hK KI hb42
              replace KA := hK KA hb42
              replace KP := hK KP hb42
              clear hb42
              clear SG
              go_upto_region 15 with (fail)
              have KN := Lib.hid ((Blk.of (vs := #[.int .i64 nx, .int .i64 ny, .int .i64 n1, .int .i64 n2, .int .i64 (t' + 1), .int .i64 mm]) (t := 41) (w := w42) (b := w42.heap.size) rfl).alloc (.cells #[.int .i64 nx, .int .i64 ny, .int .i64 n1, .int .i64 n2, .bool us, .int .i64 0] 48))
              have KO := Lib.hid (Blk.of (vs := #[.int .i64 nx, .int .i64 ny, .int .i64 n1, .int .i64 n2, .bool us, .int .i64 0]) (t := 48) (w := w42.alloc (.cells #[.int .i64 nx, .int .i64 ny, .int .i64 n1, .int .i64 n2, .int .i64 (t' + 1), .int .i64 mm] 41)) (b := w42.heap.size + 1) (by simp))
              have hb43 : Below w42.heap.size w42 ((w42.alloc (.cells #[.int .i64 nx, .int .i64 ny, .int .i64 n1, .int .i64 n2, .int .i64 (t' + 1), .int .i64 mm] 41)).alloc (.cells #[.int .i64 nx, .int .i64 ny, .int .i64 n1, .int .i64 n2, .bool us, .int .i64 0] 48)) := ((Below.refl _ _).alloc (Nat.le_refl _) _).alloc (by simp) _
              have hnN := HB.out.size
              have nzN_S := KS.out.lt
              have nzN_I := KI.out.lt
              have nzN_A := KA.out.lt
              have nzN_P := KP.out.lt
              replace HB := hT HB hb43
              replace KS := hK KS hb43
              replace KI := hK KI hb43
              replace KA := hK KA hb43
              replace KP := hK KP hb43
              clear hb43
              generalize (w42.alloc (.cells #[.int .i64 nx, .int .i64 ny, .int .i64 n1, .int .i64 n2, .int .i64 (t' + 1), .int .i64 mm] 41)).alloc (.cells #[.int .i64 nx, .int .i64 ny, .int .i64 n1, .int .i64 n2, .bool us, .int .i64 0] 48) = w43 at *
              generalize w42.heap.size = bN at *
              have neN_S : bN ≠ w.heap.size := by omega
              have neO_S : bN + 1 ≠ w.heap.size := by omega
              have neN_I : bN ≠ (w.heap.size + 1) := by omega
              have neO_I : bN + 1 ≠ (w.heap.size + 1) := by omega
              have neN_A : bN ≠ bA := by omega
              have neO_A : bN + 1 ≠ bA := by omega
              have neN_P : bN ≠ bP := by omega
              have neO_P : bN + 1 ≠ bP := by omega
              clear nzN_S nzN_I nzN_A nzN_P
              obtain ⟨bm, om, rfl, hcap, hmax, MM⟩ := pl_at (H0.out.below HB.out) q
              have c0 := MM.c0 k q
              have c1 := MM.c1 k q
              have clt := MM.lt
              have LK := Lib.hid (HL.out k q)
              clear MM
              generalize nthP L k = dd at *
              obtain ⟨dx, dy⟩ := dd
              simp only at c0 c1 LK
              go_upto_region 16 with (fail)
              obtain ⟨KD, hb44⟩ := alB w43 #[.int .i64 dx, .int .i64 dy] 24
              have hnD := HB.out.size
              have nzD_S := KS.out.lt
              have nzD_I := KI.out.lt
              have nzD_A := KA.out.lt
              have nzD_P := KP.out.lt
              have nzD_N := KN.out.lt
              have nzD_O := KO.out.lt
              replace HB := hT HB hb44
              replace KS := hK KS hb44
              replace KI := hK KI hb44
              replace KA := hK KA hb44
              replace KP := hK KP hb44
              replace KN := hK KN hb44
              replace KO := hK KO hb44
              clear hb44
              generalize w43.alloc (.cells #[.int .i64 dx, .int .i64 dy] 24) = w44 at *
              generalize w43.heap.size = bD at *
              have neD_S : bD ≠ w.heap.size := by omega
              have neD_I : bD ≠ (w.heap.size + 1) := by omega
              have neD_A : bD ≠ bA := by omega
              have neD_P : bD ≠ bP := by omega
              have neD_N : bD ≠ bN := by omega
              have neD_O : bD ≠ (bN + 1) := by omega
              clear nzD_S nzD_I nzD_A nzD_P nzD_N nzD_O
              clear c0 c1 clt
              go_cut [101] (fun sq wx => (Hid (Below w.heap.size w wx) ∧ Hid (Blk [.int .i64 cx, .int .i64 cy, .int .i64 x, .int .i64 y, .int .i64 t0, .int .i64 m] w.heap.size wx) ∧ Hid (Blk [.int .i64 (t' + 1), .slice none 0 0, .int .i64 ve, .int .i64 vn, .int .i64 dr, .int .i64 rq] (w.heap.size + 1) wx) ∧ Hid (Blk [.int .i64 ax, .int .i64 ay, .int .i64 a1, .int .i64 a2, .int .i64 (t'), .int .i64 (m')] bA wx) ∧ Hid (Blk [.int .i64 px, .int .i64 py] bP wx) ∧ Hid (Blk [.int .i64 nx, .int .i64 ny, .int .i64 n1, .int .i64 n2, .int .i64 (t' + 1), .int .i64 mm] bN wx) ∧ Hid (Blk [.int .i64 nx, .int .i64 ny, .int .i64 n1, .int .i64 n2, .bool us, .int .i64 0] (bN + 1) wx) ∧ Hid (Blk [.int .i64 dx, .int .i64 dy] bD wx)) ∧ ∃ q : Bool, sq = .bool q ∧ Hid (q = false → (-1048576 ≤ dx ∧ dx ≤ 1048576) ∧ -1048576 ≤ dy ∧ dy ≤ 1048576))
              case first =>
                refine reg16 KD LK _ _ ?_
                intro u82 u83 u84 u85 u86 u87 u88 u89 u90 u91 u92 u93 u94 u95 u96 u97 u98 u99 u100 q wx hb hq
                replace HB := hT HB hb
                replace KS := hK KS hb
                replace KI := hK KI hb
                replace KA := hK KA hb
                replace KP := hK KP hb
                replace KN := hK KN hb
                replace KO := hK KO hb
                replace KD := hK KD hb
                have HQ := Lib.hid hq
                clear hb hq
                go_wp2_with fail
                go_meet
                exact ⟨⟨HB, KS, KI, KA, KP, KN, KO, KD⟩, _, rfl, HQ⟩
              case rest =>
                clear HB KS KI KA KP KN KO KD
                obtain ⟨⟨HB, KS, KI, KA, KP, KN, KO, KD⟩, q2, rfl, HQ⟩ := hcut
                go_upto_if 101 with (fail)
                go_cut [] (fun wx => ∃ ddx ddy : Int, Hid ((-2000000 ≤ ddx ∧ ddx ≤ 2000000) ∧ -2000000 ≤ ddy ∧ ddy ≤ 2000000) ∧ Hid (Below w.heap.size w wx) ∧ Hid (Blk [.int .i64 cx, .int .i64 cy, .int .i64 x, .int .i64 y, .int .i64 t0, .int .i64 m] w.heap.size wx) ∧ Hid (Blk [.int .i64 (t' + 1), .slice none 0 0, .int .i64 ve, .int .i64 vn, .int .i64 dr, .int .i64 rq] (w.heap.size + 1) wx) ∧ Hid (Blk [.int .i64 ax, .int .i64 ay, .int .i64 a1, .int .i64 a2, .int .i64 (t'), .int .i64 (m')] bA wx) ∧ Hid (Blk [.int .i64 px, .int .i64 py] bP wx) ∧ Hid (Blk [.int .i64 nx, .int .i64 ny, .int .i64 n1, .int .i64 n2, .int .i64 (t' + 1), .int .i64 mm] bN wx) ∧ Hid (Blk [.int .i64 nx, .int .i64 ny, .int .i64 n1, .int .i64 n2, .bool us, .int .i64 0] (bN + 1) wx) ∧ Hid (Blk [.int .i64 ddx, .int .i64 ddy] bD wx))
                case first =>
                  cases q2 with
                  | true =>
                    obtain ⟨yI_0, yI_1, yI_2, yI_3, yI_4, yI_5, yI_z⟩ := blk6 KI
                    obtain ⟨yD_0, yD_1, yD_z, yD_f0, yD_f1⟩ := blf2 KD
                    go_wp2_with fail
                    have hs := st2 wc bD 0 (.int .i64 ve) 1 (.int .i64 vn)
                    replace KS := oB hs KS (by omega)
                    replace KI := oB hs KI (by omega)
                    replace KA := oB hs KA (by omega)
                    replace KP := oB hs KP (by omega)
                    replace KN := oB hs KN (by omega)
                    replace KO := oB hs KO (by omega)
                    replace KD := Lib.hid (blk_set (blk_set KD.out (j := 0) (by simp) (.int .i64 ve)) (j := 1) (by simp) (.int .i64 vn))
                    replace HB := oH hs HB (by omega)
                    clear hs
                    clear yI_0 yI_1 yI_2 yI_3 yI_4 yI_5 yI_z yD_0 yD_1 yD_z yD_f0 yD_f1
                    simp only [List.set] at KD
                    go_meet
                    exact ⟨ve, vn, Lib.hid (by have := RG.out; omega), HB, KS, KI, KA, KP, KN, KO, KD⟩
                  | false =>
                    go_wp2_with fail
                    go_meet
                    exact ⟨dx, dy, Lib.hid (by have := HQ.out (by first | rfl | trivial); omega), HB, KS, KI, KA, KP, KN, KO, KD⟩
                case rest =>
                  clear HB KS KI KA KP KN KO KD HQ q2
                  obtain ⟨ddx, ddy, DB, HB, KS, KI, KA, KP, KN, KO, KD⟩ := hcut
                  have sp0 : IntKind.i64.wrap (px + ddx) = px + ddx := IntWalk.i64_in _ (by have := PB.out; have := DB.out; omega)
                  have sp1 : IntKind.i64.wrap (py + ddy) = py + ddy := IntWalk.i64_in _ (by have := PB.out; have := DB.out; omega)
                  obtain ⟨yP_0, yP_1, yP_z, yP_f0, yP_f1⟩ := blf2 KP
                  obtain ⟨yD_0, yD_1, yD_z⟩ := blk2 KD
                  go_wp2_with fail
                  have hs := st2 wc bP 0 (.int .i64 (px + ddx)) 1 (.int .i64 (py + ddy))
                  replace KS := oB hs KS (by omega)
                  replace KI := oB hs KI (by omega)
                  replace KA := oB hs KA (by omega)
                  replace KP := Lib.hid (blk_set (blk_set KP.out (j := 0) (by simp) (.int .i64 (px + ddx))) (j := 1) (by simp) (.int .i64 (py + ddy)))
                  replace KN := oB hs KN (by omega)
                  replace KO := oB hs KO (by omega)
                  replace KD := oB hs KD (by omega)
                  replace HB := oH hs HB (by omega)
                  clear hs
                  clear yP_0 yP_1 yP_z yP_f0 yP_f1 yD_0 yD_1 yD_z
                  generalize (wc.setCell ⟨bP, 0, none⟩ (.int .i64 (px + ddx))).setCell ⟨bP, 1, none⟩ (.int .i64 (py + ddy)) = w61 at *
                  simp only [List.set] at KP
                  clear sp0 sp1
                  have sd0 : IntKind.i64.wrap (ddx - ve) = ddx - ve := IntWalk.i64_in _ (by have := DB.out; have := RG.out; omega)
                  have sd1 : IntKind.i64.wrap (ddy - vn) = ddy - vn := IntWalk.i64_in _ (by have := DB.out; have := RG.out; omega)
                  have NX := Lib.hid fun w => nsz_below (ddx - ve) w
                  have NY := Lib.hid fun w => nsz_below (ddy - vn) w
                  go_cut [10] (fun sq wx => (Hid (Below w.heap.size w wx) ∧ Hid (Blk [.int .i64 cx, .int .i64 cy, .int .i64 x, .int .i64 y, .int .i64 t0, .int .i64 m] w.heap.size wx) ∧ Hid (Blk [.int .i64 (t' + 1), .slice none 0 0, .int .i64 ve, .int .i64 vn, .int .i64 dr, .int .i64 rq] (w.heap.size + 1) wx) ∧ Hid (Blk [.int .i64 ax, .int .i64 ay, .int .i64 a1, .int .i64 a2, .int .i64 (t'), .int .i64 (m')] bA wx) ∧ Hid (Blk [.int .i64 (px + ddx), .int .i64 (py + ddy)] bP wx) ∧ Hid (Blk [.int .i64 nx, .int .i64 ny, .int .i64 n1, .int .i64 n2, .int .i64 (t' + 1), .int .i64 mm] bN wx) ∧ Hid (Blk [.int .i64 nx, .int .i64 ny, .int .i64 n1, .int .i64 n2, .bool us, .int .i64 0] (bN + 1) wx) ∧ Hid (Blk [.int .i64 ddx, .int .i64 ddy] bD wx)) ∧ ∃ h2 : Bool, sq = .bool h2 ∧ Hid (h2 = true → hb = true ∧ (ddx - ve ≤ dr ∧ ve - ddx ≤ dr) ∧ ddy - vn ≤ dr ∧ vn - ddy ≤ dr))
                  case first =>
                    refine reg19 KD KI DB RG NX NY sd0 sd1 _ _ ?_
                    intro u120 u121 u122 u123 u124 u125 u126 u127 u128 u129 u130 u131 u132 u133 u134 u135 u136 u137 u138 u139 u140 u141 u142 u143 u144 h2 wx hb hq
                    replace HB := hT HB hb
                    replace KS := hK KS hb
                    replace KI := hK KI hb
                    replace KA := hK KA hb
                    replace KP := hK KP hb
                    replace KN := hK KN hb
                    replace KO := hK KO hb
                    replace KD := hK KD hb
                    have HQ := Lib.hid hq
                    clear hb hq
                    go_wp2_with fail
                    go_meet
                    exact ⟨⟨HB, KS, KI, KA, KP, KN, KO, KD⟩, _, rfl, HQ⟩
                  case rest =>
                    clear HB KS KI KA KP KN KO KD
                    obtain ⟨⟨HB, KS, KI, KA, KP, KN, KO, KD⟩, h2, rfl, HH⟩ := hcut
                    clear sd0 sd1 NX NY
                    have CP := Lib.hid (HN.out ddx ddy DB.out.1 DB.out.2 h2 HH.out)
                    clear HN HH
                    generalize hpx : px + ddx = px2 at *
                    generalize hpy : py + ddy = py2 at *
                    obtain ⟨yS_0, yS_1, yS_2, yS_3, yS_4, yS_5, yS_z⟩ := blk6 KS
                    obtain ⟨yI_0, yI_1, yI_2, yI_3, yI_4, yI_5, yI_z⟩ := blk6 KI
                    obtain ⟨yA_0, yA_1, yA_2, yA_3, yA_4, yA_5, yA_z, yA_f0, yA_f1, yA_f2, yA_f3, yA_f4, yA_f5⟩ := blf6 KA
                    obtain ⟨yN_0, yN_1, yN_2, yN_3, yN_4, yN_5, yN_z⟩ := blk6 KN
                    go_wp2_with fail
                    have hs := st6 wc bA 0 (.int .i64 nx) 1 (.int .i64 ny) 2 (.int .i64 n1) 3 (.int .i64 n2) 4 (.int .i64 (t' + 1)) 5 (.int .i64 mm)
                    replace KS := oB hs KS (by omega)
                    replace KI := oB hs KI (by omega)
                    replace KA := Lib.hid (blk_set (blk_set (blk_set (blk_set (blk_set (blk_set KA.out (j := 0) (by simp) (.int .i64 nx)) (j := 1) (by simp) (.int .i64 ny)) (j := 2) (by simp) (.int .i64 n1)) (j := 3) (by simp) (.int .i64 n2)) (j := 4) (by simp) (.int .i64 (t' + 1))) (j := 5) (by simp) (.int .i64 mm))
                    replace KP := oB hs KP (by omega)
                    replace KN := oB hs KN (by omega)
                    replace KO := oB hs KO (by omega)
                    replace KD := oB hs KD (by omega)
                    replace HB := oH hs HB (by omega)
                    clear hs
                    clear yS_0 yS_1 yS_2 yS_3 yS_4 yS_5 yS_z yI_0 yI_1 yI_2 yI_3 yI_4 yI_5 yI_z yA_0 yA_1 yA_2 yA_3 yA_4 yA_5 yA_z yA_f0 yA_f1 yA_f2 yA_f3 yA_f4 yA_f5 yN_0 yN_1 yN_2 yN_3 yN_4 yN_5 yN_z
                    generalize (((((wc.setCell ⟨bA, 0, none⟩ (.int .i64 nx)).setCell ⟨bA, 1, none⟩ (.int .i64 ny)).setCell ⟨bA, 2, none⟩ (.int .i64 n1)).setCell ⟨bA, 3, none⟩ (.int .i64 n2)).setCell ⟨bA, 4, none⟩ (.int .i64 (t' + 1))).setCell ⟨bA, 5, none⟩ (.int .i64 mm) = w71 at *
                    simp only [List.set] at KA
                    refine (CO.out _).mono ?_
                    rintro e72 w72 ⟨rfl, hb72⟩
                    replace HB := hT HB hb72
                    replace KS := hK KS hb72
                    replace KI := hK KI hb72
                    replace KA := hK KA hb72
                    replace KP := hK KP hb72
                    replace KN := hK KN hb72
                    replace KO := hK KO hb72
                    replace KD := hK KD hb72
                    clear hb72
                    clear CO
                    go_upto_region 22 with (fail)
                    obtain ⟨KQ, hb73⟩ := alB w72 #[.int .i64 nx, .int .i64 ny, .int .i64 n1, .int .i64 n2] 26
                    have hnQ := HB.out.size
                    have nzQ_S := KS.out.lt
                    have nzQ_I := KI.out.lt
                    have nzQ_A := KA.out.lt
                    have nzQ_P := KP.out.lt
                    have nzQ_N := KN.out.lt
                    have nzQ_O := KO.out.lt
                    have nzQ_D := KD.out.lt
                    replace HB := hT HB hb73
                    replace KS := hK KS hb73
                    replace KI := hK KI hb73
                    replace KA := hK KA hb73
                    replace KP := hK KP hb73
                    replace KN := hK KN hb73
                    replace KO := hK KO hb73
                    replace KD := hK KD hb73
                    clear hb73
                    generalize w72.alloc (.cells #[.int .i64 nx, .int .i64 ny, .int .i64 n1, .int .i64 n2] 26) = w73 at *
                    generalize w72.heap.size = bQ at *
                    have neQ_S : bQ ≠ w.heap.size := by omega
                    have neQ_I : bQ ≠ (w.heap.size + 1) := by omega
                    have neQ_A : bQ ≠ bA := by omega
                    have neQ_P : bQ ≠ bP := by omega
                    have neQ_N : bQ ≠ bN := by omega
                    have neQ_O : bQ ≠ (bN + 1) := by omega
                    have neQ_D : bQ ≠ bD := by omega
                    clear nzQ_S nzQ_I nzQ_A nzQ_P nzQ_N nzQ_O nzQ_D
                    have NI := Lib.hid fun (q : h2 = true) w => nib_true nx ny n1 n2 px2 py2 w (CP.out.i q (by omega)) (by have := BN.out; omega) (by have := BN.out; omega)
                    go_cut [186] (fun sq wx => (Hid (Below w.heap.size w wx) ∧ Hid (Blk [.int .i64 cx, .int .i64 cy, .int .i64 x, .int .i64 y, .int .i64 t0, .int .i64 m] w.heap.size wx) ∧ Hid (Blk [.int .i64 (t' + 1), .slice none 0 0, .int .i64 ve, .int .i64 vn, .int .i64 dr, .int .i64 rq] (w.heap.size + 1) wx) ∧ Hid (Blk [.int .i64 nx, .int .i64 ny, .int .i64 n1, .int .i64 n2, .int .i64 (t' + 1), .int .i64 mm] bA wx) ∧ Hid (Blk [.int .i64 px2, .int .i64 py2] bP wx) ∧ Hid (Blk [.int .i64 nx, .int .i64 ny, .int .i64 n1, .int .i64 n2, .int .i64 (t' + 1), .int .i64 mm] bN wx) ∧ Hid (Blk [.int .i64 nx, .int .i64 ny, .int .i64 n1, .int .i64 n2, .bool us, .int .i64 0] (bN + 1) wx) ∧ Hid (Blk [.int .i64 ddx, .int .i64 ddy] bD wx) ∧ Hid (Blk [.int .i64 nx, .int .i64 ny, .int .i64 n1, .int .i64 n2] bQ wx)) ∧ sq = .bool false)
                    case first =>
                      refine reg22 KA KS KQ KP gM sm0 sm1 NI _ _ ?_
                      intro u158 u159 u160 u161 u162 u163 u164 u165 u166 u167 u168 u169 u170 u171 u172 u173 u174 u175 u176 u177 u178 u179 u180 u181 u182 u183 u184 u185  wx hb
                      replace HB := hT HB hb
                      replace KS := hK KS hb
                      replace KI := hK KI hb
                      replace KA := hK KA hb
                      replace KP := hK KP hb
                      replace KN := hK KN hb
                      replace KO := hK KO hb
                      replace KD := hK KD hb
                      replace KQ := hK KQ hb
                      clear hb
                      go_wp2_with fail
                      go_meet
                      exact ⟨⟨HB, KS, KI, KA, KP, KN, KO, KD, KQ⟩, rfl⟩
                    case rest =>
                      clear HB KS KI KA KP KN KO KD KQ NI gM sm0 sm1
                      obtain ⟨⟨HB, KS, KI, KA, KP, KN, KO, KD, KQ⟩, rfl⟩ := hcut
                      go_upto_if 186 with (fail)
                      go_wp2
                      exact ⟨⟨k + 1, h2, ⟨nx, ny, n1, n2⟩, t' + 1, mm, px2, py2, t' + 1, by go_num, rfl, by omega, HB, KS, KI, KA, KP, CN, CP⟩, by simp [intOf]; omega⟩
            · have SB := Lib.hid fun w => step_bad0 ⟨ax, ay, a1, a2⟩ t' m' (t' + 1) ve vn dr rq w he ⟨by omega, by omega⟩
              have ge : (stpE ⟨ax, ay, a1, a2⟩ t' m' (t' + 1) ve vn dr rq != 0) = true := by simpa using he
              clear he
              generalize stpE ⟨ax, ay, a1, a2⟩ t' m' (t' + 1) ve vn dr rq = e at *
              refine (SB.out _).mono ?_
              rintro e42 w42 ⟨rfl, hb42⟩
              replace HB := hT HB hb42
              replace KS := hK KS hb42
              replace KI := hK KI hb42
              replace KA := hK KA hb42
              replace KP := hK KP hb42
              clear hb42
              go_wp2
              go_ret
              exact ⟨rfl, (HB.out.alloc HB.out.size _).alloc (by have := HB.out.size; simp; omega) _⟩
          · have q' : decide (k < L.length) = true := by simpa using q
            have q8' : decide (k < 24) = false := by simpa using q8
            have q9 : decide ((k : Int) < 24) = false := by simp; omega
            go_wp2
            go_ret
            exact ⟨rfl, HB.out⟩
        · have q' : decide (k < L.length) = false := by simpa using q
          go_wp2
          go_ret
          exact ⟨rfl, HB.out⟩
end Go.Proofs.YtidelghgjibndaaGreat.topCoast
