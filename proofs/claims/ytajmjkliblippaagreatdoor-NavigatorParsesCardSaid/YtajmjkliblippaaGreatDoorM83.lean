/-
  Walks and laws of the layers below, gathered from several texts.
-/
import Derived.Test.YtajmjkliblippaaGreatDoorM64
import Derived.Test.YtajmjkliblippaaGreatDoorM82
namespace Go.Proofs.YtajmjkliblippaaGreatDoor
set_option linter.unusedVariables false
open Go.RowKit
def OneV (F : Nat → Value → Act) (R : Nat → World → Prop) (a : Act) (w : World) : Prop := ∃ b u, a = F b u ∧ R b w
theorem OneV.mk {F : Nat → Value → Act} {R : Nat → World → Prop} {a : Act} {w : World} (b : Nat) (u : Value) (h : a = F b u) (k : R b w) : OneV F R a w := ⟨b, u, h, k⟩
theorem wp_onev {P : Program} {c : Code} {Q : Exit → Act → World → Prop} {a : Act} {w : World} {F : Nat → Value → Act} {R : Nat → World → Prop} (h : c.wp P (OneOut (OneV F R)) a w) (k : ∀ b u w', R b w' → Q .normal (F b u) w') : c.wp P Q a w :=
  Code.wp_mono (OneOut.imp fun a' w' ⟨b, u, ha, hr⟩ => by subst ha; exact k b u w' hr) h
set_option maxHeartbeats 40000000 in
set_option maxRecDepth 100000 in
theorem step_okR (b : Bx4) (t m tick ve vn dr rq : Int) (L : List Rp) (v : Value) (w : World) (h : RlG L v w) (hK : ∀ i, i < L.length → 0 ≤ (nthR L i).k ∧ (nthR L i).k ≤ 255) (he : stpE2 b t m tick ve vn dr rq L.length = 0) :
    Calls Tryz.prog 17 #[.agg #[.int .i64 b.cx, .int .i64 b.cy, .int .i64 b.x, .int .i64 b.y, .int .i64 t, .int .i64 m], .agg #[.int .i64 tick, v, .int .i64 ve, .int .i64 vn, .int .i64 dr, .int .i64 rq]] w fun e w' => e = .returned (.tuple #[.agg #[.int .i64 (stpC b t m tick ve vn dr L).box.cx, .int .i64 (stpC b t m tick ve vn dr L).box.cy, .int .i64 (stpC b t m tick ve vn dr L).box.x, .int .i64 (stpC b t m tick ve vn dr L).box.y, .int .i64 tick, .int .i64 (stpC b t m tick ve vn dr L).ms], .agg #[.int .i64 (stpC b t m tick ve vn dr L).box.cx, .int .i64 (stpC b t m tick ve vn dr L).box.cy, .int .i64 (stpC b t m tick ve vn dr L).box.x, .int .i64 (stpC b t m tick ve vn dr L).box.y, .bool (useB (stpC b t m tick ve vn dr L).box.x (stpC b t m tick ve vn dr L).box.y rq), .int .i64 (stpC b t m tick ve vn dr L).ex], .int .i64 0]) ∧ Below w.heap.size w w' := by
  obtain ⟨p, cap, rfl⟩ := rg_form h
  have H := Lib.hid h
  clear h
  obtain ⟨hc, h0, ⟨h1, h2, h3⟩, h8, h4⟩ := stp_ok2 he
  obtain ⟨_, ⟨c0, c1⟩, c2, c3⟩ := chkS_ok hc
  have CK0 := fun w => ncheck_any b t m w
  rw [hc] at CK0
  have CO0 := fun w => coast_any b ve vn dr (tick - t) w
  rw [(cst_val h4).2.2.2] at CO0
  have US0 := Lib.hid fun a0 a1 a2 a3 k w => usable_any a0 a1 a2 a3 k rq false w
  have E0 : stpC b t m tick ve vn dr L = cycF (movB b ve vn dr (tick - t)) m (rowsT tick (movB b ve vn dr (tick - t)).cx (movB b ve vn dr (tick - t)).cy (movB b ve vn dr (tick - t)).x (movB b ve vn dr (tick - t)).y L) := rfl
  generalize stpC b t m tick ve vn dr L = q at *
  have sw : IntKind.i64.wrap (tick - t) = tick - t := IntWalk.i64_in _ (by omega)
  have sm : IntKind.i64.wrap (m + 1) = m + 1 := IntWalk.i64_in _ (by omega)
  have g0 : decide (tick ≤ t) = false := by simp; omega
  have g1 : decide (1099511627776 < tick) = false := by simp; omega
  have g2 : decide (rq < 0) = false := by simp; omega
  have g3 : decide (2000000 < rq) = false := by simp; omega
  have g4 : decide (8 < L.length) = false := by simp; omega
  have g5 : decide ((8 : Int) < (L.length : Int)) = false := by simp; omega
  have hn : L.length ≤ 20000 := by omega
  clear he hc h0 h1 h2 h3 h4 h8 c0 c1 c2 c3
  generalize movB b ve vn dr (tick - t) = r at *
  have RW := Lib.hid fun w h => nrows_any L (.slice p L.length cap) tick ve vn dr rq r.cx r.cy r.x r.y w h hK hn
  obtain ⟨l, hl⟩ : ∃ z, rowsT tick r.cx r.cy r.x r.y L = z := ⟨_, rfl⟩
  rw [hl] at RW E0
  clear hl hn hK
  have FX := Lib.hid fun v w h => fix_any l v r w h
  unfold cycF at E0
  generalize fixF l r = f at *
  obtain ⟨⟨⟨dx, dy, d1, d2⟩, k⟩, ok⟩ := f
  obtain ⟨cx', cy', x', y'⟩ := r
  obtain ⟨cx, cy, x, y⟩ := b
  simp only at CK0 CO0 E0 RW FX
  obtain ⟨m1, hm1⟩ : ∃ z, min (m + 1) 1000 = z := ⟨_, rfl⟩
  rw [hm1] at E0
  have EV0 := Lib.hid E0
  have CK := Lib.hid CK0
  have CO := Lib.hid CO0
  clear CK0 CO0 E0
  obtain ⟨KS, KI, KA, KE, KC, HB⟩ := ent5 w #[.int .i64 cx, .int .i64 cy, .int .i64 x, .int .i64 y, .int .i64 t, .int .i64 m] 27 #[.int .i64 tick, .slice p L.length cap, .int .i64 ve, .int .i64 vn, .int .i64 dr, .int .i64 rq] 38 #[.int .i64 0, .int .i64 0, .int .i64 0, .int .i64 0, .int .i64 0, .int .i64 0] 27 #[.int .i64 0, .int .i64 0, .int .i64 0, .int .i64 0, .bool false, .int .i64 0] 41 #[.int .i64 0, .int .i64 0, .int .i64 0, .int .i64 0] 25
  go_enter Tryz.func17, Tryz.ntmps17
  go_wp2_with fail
  generalize ((((w.alloc (.cells #[.int .i64 cx, .int .i64 cy, .int .i64 x, .int .i64 y, .int .i64 t, .int .i64 m] 27)).alloc (.cells #[.int .i64 tick, .slice p L.length cap, .int .i64 ve, .int .i64 vn, .int .i64 dr, .int .i64 rq] 38)).alloc (.cells #[.int .i64 0, .int .i64 0, .int .i64 0, .int .i64 0, .int .i64 0, .int .i64 0] 27)).alloc (.cells #[.int .i64 0, .int .i64 0, .int .i64 0, .int .i64 0, .bool false, .int .i64 0] 41)).alloc (.cells #[.int .i64 0, .int .i64 0, .int .i64 0, .int .i64 0] 25) = w0 at *
  refine (CK.out _).mono ?_
  rintro e1 w1 ⟨rfl, hb1⟩
  replace HB := hT HB hb1
  replace KS := hK KS hb1
  replace KI := hK KI hb1
  replace KA := hK KA hb1
  replace KE := hK KE hb1
  replace KC := hK KC hb1
  clear hb1
  obtain ⟨yS_0, yS_1, yS_2, yS_3, yS_4, yS_5, yS_z⟩ := blk6 KS
  obtain ⟨yI_0, yI_1, yI_2, yI_3, yI_4, yI_5, yI_z⟩ := blk6 KI
  go_wp2_with fail
  refine (CO.out _).mono ?_
  rintro e2 w2 ⟨rfl, hb2⟩
  replace HB := hT HB hb2
  replace KS := hK KS hb2
  replace KI := hK KI hb2
  replace KA := hK KA hb2
  replace KE := hK KE hb2
  replace KC := hK KC hb2
  clear yS_0 yS_1 yS_2 yS_3 yS_4 yS_5 yS_z yI_0 yI_1 yI_2 yI_3 yI_4 yI_5 yI_z
  clear hb2
  obtain ⟨yS_0, yS_1, yS_2, yS_3, yS_4, yS_5, yS_z⟩ := blk6 KS
  obtain ⟨yI_0, yI_1, yI_2, yI_3, yI_4, yI_5, yI_z⟩ := blk6 KI
  obtain ⟨yC_0, yC_1, yC_2, yC_3, yC_z, yC_f0, yC_f1, yC_f2, yC_f3⟩ := blf4 KC
  go_wp2_with fail
  have hs := st4 w2 (w.heap.size + 1 + 1 + 1 + 1) 0 (.int .i64 (cx')) 1 (.int .i64 (cy')) 2 (.int .i64 (x')) 3 (.int .i64 (y'))
  replace KS := oB hs KS (by omega)
  replace KI := oB hs KI (by omega)
  replace KA := oB hs KA (by omega)
  replace KE := oB hs KE (by omega)
  replace KC := Lib.hid (blk_set (blk_set (blk_set (blk_set KC.out (j := 0) (by simp) (.int .i64 (cx'))) (j := 1) (by simp) (.int .i64 (cy'))) (j := 2) (by simp) (.int .i64 (x'))) (j := 3) (by simp) (.int .i64 (y')))
  replace HB := oH hs HB (by omega)
  clear hs
  clear yS_0 yS_1 yS_2 yS_3 yS_4 yS_5 yS_z yI_0 yI_1 yI_2 yI_3 yI_4 yI_5 yI_z yC_0 yC_1 yC_2 yC_3 yC_z yC_f0 yC_f1 yC_f2 yC_f3
  simp only [List.set] at KC
  have hz9 : ((((w2.setCell ⟨(w.heap.size + 1 + 1 + 1 + 1), 0, none⟩ (.int .i64 (cx'))).setCell ⟨(w.heap.size + 1 + 1 + 1 + 1), 1, none⟩ (.int .i64 (cy'))).setCell ⟨(w.heap.size + 1 + 1 + 1 + 1), 2, none⟩ (.int .i64 (x'))).setCell ⟨(w.heap.size + 1 + 1 + 1 + 1), 3, none⟩ (.int .i64 (y'))).heap.size = w2.heap.size := by simp [World.setCell]
  generalize (((w2.setCell ⟨(w.heap.size + 1 + 1 + 1 + 1), 0, none⟩ (.int .i64 (cx'))).setCell ⟨(w.heap.size + 1 + 1 + 1 + 1), 1, none⟩ (.int .i64 (cy'))).setCell ⟨(w.heap.size + 1 + 1 + 1 + 1), 2, none⟩ (.int .i64 (x'))).setCell ⟨(w.heap.size + 1 + 1 + 1 + 1), 3, none⟩ (.int .i64 (y')) = w9 at *
  rw [← hz9]
  clear hz9
  obtain ⟨KN, hb4⟩ := alB w9 #[.int .i64 (cx'), .int .i64 (cy'), .int .i64 (x'), .int .i64 (y'), .int .i64 tick, .int .i64 m1] 27
  have hnN := HB.out.size
  have nzN_S := KS.out.lt
  have nzN_I := KI.out.lt
  have nzN_A := KA.out.lt
  have nzN_E := KE.out.lt
  have nzN_C := KC.out.lt
  replace HB := hT HB hb4
  replace KS := hK KS hb4
  replace KI := hK KI hb4
  replace KA := hK KA hb4
  replace KE := hK KE hb4
  replace KC := hK KC hb4
  clear hb4
  generalize w9.alloc (.cells #[.int .i64 (cx'), .int .i64 (cy'), .int .i64 (x'), .int .i64 (y'), .int .i64 tick, .int .i64 m1] 27) = w4 at *
  generalize w9.heap.size = bN at *
  have neN_S : bN ≠ w.heap.size := by omega
  have neN_I : bN ≠ (w.heap.size + 1) := by omega
  have neN_A : bN ≠ (w.heap.size + 1 + 1) := by omega
  have neN_E : bN ≠ (w.heap.size + 1 + 1 + 1) := by omega
  have neN_C : bN ≠ (w.heap.size + 1 + 1 + 1 + 1) := by omega
  clear nzN_S nzN_I nzN_A nzN_E nzN_C
  have gI_0 := fun d os => cell_regrown (KI.out.c 0 _ rfl) d os
  have gI_1 := fun d os => cell_regrown (KI.out.c 1 _ rfl) d os
  have gI_2 := fun d os => cell_regrown (KI.out.c 2 _ rfl) d os
  have gI_3 := fun d os => cell_regrown (KI.out.c 3 _ rfl) d os
  have gI_4 := fun d os => cell_regrown (KI.out.c 4 _ rfl) d os
  have gI_5 := fun d os => cell_regrown (KI.out.c 5 _ rfl) d os
  have gC_0 := fun d os => cell_regrown (KC.out.c 0 _ rfl) d os
  have gC_1 := fun d os => cell_regrown (KC.out.c 1 _ rfl) d os
  have gC_2 := fun d os => cell_regrown (KC.out.c 2 _ rfl) d os
  have gC_3 := fun d os => cell_regrown (KC.out.c 3 _ rfl) d os
  apply wp_onev (R := fun b w' => w.heap.size ≤ b ∧ b ≠ w.heap.size ∧ b ≠ (w.heap.size + 1) ∧ b ≠ (w.heap.size + 1 + 1) ∧ b ≠ (w.heap.size + 1 + 1 + 1) ∧ b ≠ (w.heap.size + 1 + 1 + 1 + 1) ∧ b ≠ bN ∧ Hid (Below w.heap.size w w') ∧ Hid (Blk [.int .i64 dx, .int .i64 dy, .int .i64 d1, .int .i64 d2] b w') ∧ Hid (Blk [.int .i64 cx, .int .i64 cy, .int .i64 x, .int .i64 y, .int .i64 t, .int .i64 m] w.heap.size w') ∧ Hid (Blk [.int .i64 tick, .slice p L.length cap, .int .i64 ve, .int .i64 vn, .int .i64 dr, .int .i64 rq] (w.heap.size + 1) w') ∧ Hid (Blk [.int .i64 0, .int .i64 0, .int .i64 0, .int .i64 0, .int .i64 0, .int .i64 0] (w.heap.size + 1 + 1) w') ∧ Hid (Blk [.int .i64 0, .int .i64 0, .int .i64 0, .int .i64 0, .bool false, .int .i64 0] (w.heap.size + 1 + 1 + 1) w') ∧ Hid (Blk [.int .i64 (cx'), .int .i64 (cy'), .int .i64 (x'), .int .i64 (y')] (w.heap.size + 1 + 1 + 1 + 1) w') ∧ Hid (Blk [.int .i64 (cx'), .int .i64 (cy'), .int .i64 (x'), .int .i64 (y'), .int .i64 tick, .int .i64 m1] bN w'))
  · refine wp_region_calm (fun w' => ∃ p : Regrown, w' = Go.Sort.grow (redrawn w4 p.d) p.os) (by kernel_rfl) ?_
    refine wpAnyC_heads oneOut_normal (by kernel_rfl) [0, 1, 3] 10 (Array.replicate 13 false) _ _ (by kernel_rfl) ?_
    simp only [pick, List.filterMap_cons, List.filterMap_nil, List.getElem?_cons_zero, List.getElem?_cons_succ]
    repeat (refine wpCalm_step (fun K hK => ?_); go_simp; first | (refine hK _ ?_; clear hK K) | (refine ⟨_, fun _ => calm_intro, hK _ ?_⟩; clear hK K))
    refine wpCalm_nil ?_
    have HX := Lib.hid (below_drew1 (Below.refl w4.heap.size w4))
    generalize w4.drew = wa at HX ⊢
    refine wpAnyC_node (i := 2) (rs := [9]) (by kernel_rfl) (regrown_of_below HX.out) (all2 ?_ ?_)
    · refine wpOp_of_list (by rfl) ?_
      go_wp2_with fail
      refine (RW.out _ (H.out.below (HB.out.trans (HX.out.mono HB.out.size)))).mono ?_
      rintro e71 wc71 ⟨⟨ur, rfl, hom⟩, hb71⟩
      have OL := Lib.hid hom.lst
      clear hom
      go_wp2_with fail
      refine Then1.mk ?_
      replace HX := Lib.hid (HX.out.trans (hb71.mono HX.out.size))
      clear hb71
      refine wpAnyC_node (i := 4) (rs := [9]) (by kernel_rfl) (regrown_of_below HX.out) (all2 ?_ ?_)
      · refine wpOp_of_list (by rfl) ?_
        go_wp2_with fail
        refine (FX.out _ _ OL.out).mono ?_
        rintro e72 wc72 ⟨rfl, hb72⟩
        go_wp2_with fail
        refine Then1.mk ?_
        replace HX := Lib.hid (HX.out.trans (hb72.mono HX.out.size))
        clear hb72
        clear OL
        refine wpAnyC_heads oneOut_normal (by kernel_rfl) [5, 6, 7, 8] 4 _ _ _ (by kernel_rfl) ?_
        simp only [pick, List.filterMap_cons, List.filterMap_nil, List.getElem?_cons_zero, List.getElem?_cons_succ]
        repeat (refine wpCalm_step (fun K hK => ?_); go_simp; first | (refine hK _ ?_; clear hK K) | (refine ⟨_, fun _ => calm_intro, hK _ ?_⟩; clear hK K))
        refine wpCalm_nil ?_
        refine wpAnyC_node (i := 9) (rs := []) (by kernel_rfl) (regrown_of_below HX.out) (all1 ?_)
        · refine wpOp_of_list (by rfl) ?_
          go_wp2_with fail
          refine Then1.mk ?_
          have KM := Lib.hid (Blk.of (vs := #[.int .i64 0, .int .i64 0, .int .i64 0, .int .i64 0]) (t := 25) (w := wc72) (b := wc72.heap.size) rfl)
          have hM := HX.out.size
          replace HX := Lib.hid (HX.out.alloc HX.out.size (.cells #[.int .i64 0, .int .i64 0, .int .i64 0, .int .i64 0] 25))
          generalize wc72.alloc (.cells #[.int .i64 0, .int .i64 0, .int .i64 0, .int .i64 0] 25) = wc73 at *
          generalize wc72.heap.size = bM at *
          refine wpAnyC_node (i := 10) (rs := []) (by kernel_rfl) (regrown_of_below HX.out) (all1 ?_)
          refine wpOp_of_list (by rfl) ?_
          have yM := KM.out
          have yM_0 := yM.c 0 _ rfl
          have yM_1 := yM.c 1 _ rfl
          have yM_2 := yM.c 2 _ rfl
          have yM_3 := yM.c 3 _ rfl
          have yM_f0 := yM.f 0 _ rfl
          have yM_f1 := yM.f 1 _ rfl
          have yM_f2 := yM.f 2 _ rfl
          have yM_f3 := yM.f 3 _ rfl
          have yM_z := yM.lt
          clear yM
          go_wp2_with fail
          refine Then1.mk ?_
          replace KM := Lib.hid (blk_set (blk_set (blk_set (blk_set KM.out (j := 0) (by simp) (.int .i64 dx)) (j := 1) (by simp) (.int .i64 dy)) (j := 2) (by simp) (.int .i64 d1)) (j := 3) (by simp) (.int .i64 d2))
          replace HX := Lib.hid ((((HX.out.setCell (p := ⟨bM, 0, none⟩) hM (.int .i64 dx)).setCell (p := ⟨bM, 1, none⟩) hM (.int .i64 dy)).setCell (p := ⟨bM, 2, none⟩) hM (.int .i64 d1)).setCell (p := ⟨bM, 3, none⟩) hM (.int .i64 d2))
          clear yM_0 yM_f0 yM_1 yM_f1 yM_2 yM_f2 yM_3 yM_f3 yM_z
          generalize (((wc73.setCell ⟨bM, 0, none⟩ (.int .i64 dx)).setCell ⟨bM, 1, none⟩ (.int .i64 dy)).setCell ⟨bM, 2, none⟩ (.int .i64 d1)).setCell ⟨bM, 3, none⟩ (.int .i64 d2) = wz at *
          simp only [List.set] at KM
          refine wpAnyC_heads oneOut_normal (by kernel_rfl) [11, 12] 0 _ _ _ (by kernel_rfl) ?_
          simp only [pick, List.filterMap_cons, List.filterMap_nil, List.getElem?_cons_zero, List.getElem?_cons_succ]
          repeat (refine wpCalm_step (fun K hK => ?_); go_simp; first | (refine hK _ ?_; clear hK K) | (refine ⟨_, fun _ => calm_intro, hK _ ?_⟩; clear hK K))
          refine wpCalm_nil ?_
          refine wpAnyC_leaf (by kernel_rfl) (regrown_of_below HX.out) (OneOut.mk ?_)
          obtain ⟨bQ, hbQ⟩ := ex_blk KM
          rw [← hbQ] at KM hM ⊢
          refine OneV.mk bQ ur rfl ?_
          exact ⟨Nat.le_trans HB.out.size hM, Nat.ne_of_gt (Nat.lt_of_lt_of_le KS.out.lt hM), Nat.ne_of_gt (Nat.lt_of_lt_of_le KI.out.lt hM), Nat.ne_of_gt (Nat.lt_of_lt_of_le KA.out.lt hM), Nat.ne_of_gt (Nat.lt_of_lt_of_le KE.out.lt hM), Nat.ne_of_gt (Nat.lt_of_lt_of_le KC.out.lt hM), Nat.ne_of_gt (Nat.lt_of_lt_of_le KN.out.lt hM), Lib.hid (HB.out.trans (HX.out.mono HB.out.size)), KM, Lib.hid (KS.out.below HX.out), Lib.hid (KI.out.below HX.out), Lib.hid (KA.out.below HX.out), Lib.hid (KE.out.below HX.out), Lib.hid (KC.out.below HX.out), Lib.hid (KN.out.below HX.out)⟩
      · refine wpOp_of_list (by rfl) ?_
        go_wp2_with fail
        refine Then1.mk ?_
        have hl9 := OL.out.below ((Below.refl _ _).alloc (Nat.le_refl _) (.cells #[.int .i64 0, .int .i64 0, .int .i64 0, .int .i64 0] 25))
        replace OL := Lib.hid hl9
        clear hl9
        have KM := Lib.hid (Blk.of (vs := #[.int .i64 0, .int .i64 0, .int .i64 0, .int .i64 0]) (t := 25) (w := wc71) (b := wc71.heap.size) rfl)
        have hM := HX.out.size
        replace HX := Lib.hid (HX.out.alloc HX.out.size (.cells #[.int .i64 0, .int .i64 0, .int .i64 0, .int .i64 0] 25))
        generalize wc71.alloc (.cells #[.int .i64 0, .int .i64 0, .int .i64 0, .int .i64 0] 25) = wc72 at *
        generalize wc71.heap.size = bM at *
        refine wpAnyC_node (i := 4) (rs := []) (by kernel_rfl) (regrown_of_below HX.out) (all1 ?_)
        · refine wpOp_of_list (by rfl) ?_
          go_wp2_with fail
          refine (FX.out _ _ OL.out).mono ?_
          rintro e73 wc73 ⟨rfl, hb73⟩
          go_wp2_with fail
          refine Then1.mk ?_
          replace HX := Lib.hid (HX.out.trans (hb73.mono HX.out.size))
          replace KM := Lib.hid (KM.out.below hb73)
          clear hb73
          clear OL
          refine wpAnyC_heads oneOut_normal (by kernel_rfl) [5, 6, 7, 8] 3 _ _ _ (by kernel_rfl) ?_
          simp only [pick, List.filterMap_cons, List.filterMap_nil, List.getElem?_cons_zero, List.getElem?_cons_succ]
          repeat (refine wpCalm_step (fun K hK => ?_); go_simp; first | (refine hK _ ?_; clear hK K) | (refine ⟨_, fun _ => calm_intro, hK _ ?_⟩; clear hK K))
          refine wpCalm_nil ?_
          refine wpAnyC_node (i := 10) (rs := []) (by kernel_rfl) (regrown_of_below HX.out) (all1 ?_)
          refine wpOp_of_list (by rfl) ?_
          have yM := KM.out
          have yM_0 := yM.c 0 _ rfl
          have yM_1 := yM.c 1 _ rfl
          have yM_2 := yM.c 2 _ rfl
          have yM_3 := yM.c 3 _ rfl
          have yM_f0 := yM.f 0 _ rfl
          have yM_f1 := yM.f 1 _ rfl
          have yM_f2 := yM.f 2 _ rfl
          have yM_f3 := yM.f 3 _ rfl
          have yM_z := yM.lt
          clear yM
          go_wp2_with fail
          refine Then1.mk ?_
          replace KM := Lib.hid (blk_set (blk_set (blk_set (blk_set KM.out (j := 0) (by simp) (.int .i64 dx)) (j := 1) (by simp) (.int .i64 dy)) (j := 2) (by simp) (.int .i64 d1)) (j := 3) (by simp) (.int .i64 d2))
          replace HX := Lib.hid ((((HX.out.setCell (p := ⟨bM, 0, none⟩) hM (.int .i64 dx)).setCell (p := ⟨bM, 1, none⟩) hM (.int .i64 dy)).setCell (p := ⟨bM, 2, none⟩) hM (.int .i64 d1)).setCell (p := ⟨bM, 3, none⟩) hM (.int .i64 d2))
          clear yM_0 yM_f0 yM_1 yM_f1 yM_2 yM_f2 yM_3 yM_f3 yM_z
          generalize (((wc73.setCell ⟨bM, 0, none⟩ (.int .i64 dx)).setCell ⟨bM, 1, none⟩ (.int .i64 dy)).setCell ⟨bM, 2, none⟩ (.int .i64 d1)).setCell ⟨bM, 3, none⟩ (.int .i64 d2) = wz at *
          simp only [List.set] at KM
          refine wpAnyC_heads oneOut_normal (by kernel_rfl) [11, 12] 0 _ _ _ (by kernel_rfl) ?_
          simp only [pick, List.filterMap_cons, List.filterMap_nil, List.getElem?_cons_zero, List.getElem?_cons_succ]
          repeat (refine wpCalm_step (fun K hK => ?_); go_simp; first | (refine hK _ ?_; clear hK K) | (refine ⟨_, fun _ => calm_intro, hK _ ?_⟩; clear hK K))
          refine wpCalm_nil ?_
          refine wpAnyC_leaf (by kernel_rfl) (regrown_of_below HX.out) (OneOut.mk ?_)
          obtain ⟨bQ, hbQ⟩ := ex_blk KM
          rw [← hbQ] at KM hM ⊢
          refine OneV.mk bQ ur rfl ?_
          exact ⟨Nat.le_trans HB.out.size hM, Nat.ne_of_gt (Nat.lt_of_lt_of_le KS.out.lt hM), Nat.ne_of_gt (Nat.lt_of_lt_of_le KI.out.lt hM), Nat.ne_of_gt (Nat.lt_of_lt_of_le KA.out.lt hM), Nat.ne_of_gt (Nat.lt_of_lt_of_le KE.out.lt hM), Nat.ne_of_gt (Nat.lt_of_lt_of_le KC.out.lt hM), Nat.ne_of_gt (Nat.lt_of_lt_of_le KN.out.lt hM), Lib.hid (HB.out.trans (HX.out.mono HB.out.size)), KM, Lib.hid (KS.out.below HX.out), Lib.hid (KI.out.below HX.out), Lib.hid (KA.out.below HX.out), Lib.hid (KE.out.below HX.out), Lib.hid (KC.out.below HX.out), Lib.hid (KN.out.below HX.out)⟩
    · refine wpOp_of_list (by rfl) ?_
      go_wp2_with fail
      refine Then1.mk ?_
      have KM := Lib.hid (Blk.of (vs := #[.int .i64 0, .int .i64 0, .int .i64 0, .int .i64 0]) (t := 25) (w := wa) (b := wa.heap.size) rfl)
      have hM := HX.out.size
      replace HX := Lib.hid (HX.out.alloc HX.out.size (.cells #[.int .i64 0, .int .i64 0, .int .i64 0, .int .i64 0] 25))
      generalize wa.alloc (.cells #[.int .i64 0, .int .i64 0, .int .i64 0, .int .i64 0] 25) = wc71 at *
      generalize wa.heap.size = bM at *
      refine wpAnyC_node (i := 2) (rs := []) (by kernel_rfl) (regrown_of_below HX.out) (all1 ?_)
      · refine wpOp_of_list (by rfl) ?_
        go_wp2_with fail
        refine (RW.out _ (H.out.below (HB.out.trans (HX.out.mono HB.out.size)))).mono ?_
        rintro e72 wc72 ⟨⟨ur, rfl, hom⟩, hb72⟩
        have OL := Lib.hid hom.lst
        clear hom
        go_wp2_with fail
        refine Then1.mk ?_
        replace HX := Lib.hid (HX.out.trans (hb72.mono HX.out.size))
        replace KM := Lib.hid (KM.out.below hb72)
        clear hb72
        refine wpAnyC_node (i := 4) (rs := []) (by kernel_rfl) (regrown_of_below HX.out) (all1 ?_)
        · refine wpOp_of_list (by rfl) ?_
          go_wp2_with fail
          refine (FX.out _ _ OL.out).mono ?_
          rintro e73 wc73 ⟨rfl, hb73⟩
          go_wp2_with fail
          refine Then1.mk ?_
          replace HX := Lib.hid (HX.out.trans (hb73.mono HX.out.size))
          replace KM := Lib.hid (KM.out.below hb73)
          clear hb73
          clear OL
          refine wpAnyC_heads oneOut_normal (by kernel_rfl) [5, 6, 7, 8] 3 _ _ _ (by kernel_rfl) ?_
          simp only [pick, List.filterMap_cons, List.filterMap_nil, List.getElem?_cons_zero, List.getElem?_cons_succ]
          repeat (refine wpCalm_step (fun K hK => ?_); go_simp; first | (refine hK _ ?_; clear hK K) | (refine ⟨_, fun _ => calm_intro, hK _ ?_⟩; clear hK K))
          refine wpCalm_nil ?_
          refine wpAnyC_node (i := 10) (rs := []) (by kernel_rfl) (regrown_of_below HX.out) (all1 ?_)
          refine wpOp_of_list (by rfl) ?_
          have yM := KM.out
          have yM_0 := yM.c 0 _ rfl
          have yM_1 := yM.c 1 _ rfl
          have yM_2 := yM.c 2 _ rfl
          have yM_3 := yM.c 3 _ rfl
          have yM_f0 := yM.f 0 _ rfl
          have yM_f1 := yM.f 1 _ rfl
          have yM_f2 := yM.f 2 _ rfl
          have yM_f3 := yM.f 3 _ rfl
          have yM_z := yM.lt
          clear yM
          go_wp2_with fail
          refine Then1.mk ?_
          replace KM := Lib.hid (blk_set (blk_set (blk_set (blk_set KM.out (j := 0) (by simp) (.int .i64 dx)) (j := 1) (by simp) (.int .i64 dy)) (j := 2) (by simp) (.int .i64 d1)) (j := 3) (by simp) (.int .i64 d2))
          replace HX := Lib.hid ((((HX.out.setCell (p := ⟨bM, 0, none⟩) hM (.int .i64 dx)).setCell (p := ⟨bM, 1, none⟩) hM (.int .i64 dy)).setCell (p := ⟨bM, 2, none⟩) hM (.int .i64 d1)).setCell (p := ⟨bM, 3, none⟩) hM (.int .i64 d2))
          clear yM_0 yM_f0 yM_1 yM_f1 yM_2 yM_f2 yM_3 yM_f3 yM_z
          generalize (((wc73.setCell ⟨bM, 0, none⟩ (.int .i64 dx)).setCell ⟨bM, 1, none⟩ (.int .i64 dy)).setCell ⟨bM, 2, none⟩ (.int .i64 d1)).setCell ⟨bM, 3, none⟩ (.int .i64 d2) = wz at *
          simp only [List.set] at KM
          refine wpAnyC_heads oneOut_normal (by kernel_rfl) [11, 12] 0 _ _ _ (by kernel_rfl) ?_
          simp only [pick, List.filterMap_cons, List.filterMap_nil, List.getElem?_cons_zero, List.getElem?_cons_succ]
          repeat (refine wpCalm_step (fun K hK => ?_); go_simp; first | (refine hK _ ?_; clear hK K) | (refine ⟨_, fun _ => calm_intro, hK _ ?_⟩; clear hK K))
          refine wpCalm_nil ?_
          refine wpAnyC_leaf (by kernel_rfl) (regrown_of_below HX.out) (OneOut.mk ?_)
          obtain ⟨bQ, hbQ⟩ := ex_blk KM
          rw [← hbQ] at KM hM ⊢
          refine OneV.mk bQ ur rfl ?_
          exact ⟨Nat.le_trans HB.out.size hM, Nat.ne_of_gt (Nat.lt_of_lt_of_le KS.out.lt hM), Nat.ne_of_gt (Nat.lt_of_lt_of_le KI.out.lt hM), Nat.ne_of_gt (Nat.lt_of_lt_of_le KA.out.lt hM), Nat.ne_of_gt (Nat.lt_of_lt_of_le KE.out.lt hM), Nat.ne_of_gt (Nat.lt_of_lt_of_le KC.out.lt hM), Nat.ne_of_gt (Nat.lt_of_lt_of_le KN.out.lt hM), Lib.hid (HB.out.trans (HX.out.mono HB.out.size)), KM, Lib.hid (KS.out.below HX.out), Lib.hid (KI.out.below HX.out), Lib.hid (KA.out.below HX.out), Lib.hid (KE.out.below HX.out), Lib.hid (KC.out.below HX.out), Lib.hid (KN.out.below HX.out)⟩
  clear gI_0 gI_1 gI_2 gI_3 gI_4 gI_5 gC_0 gC_1 gC_2 gC_3 RW FX H
  rintro bM ur w80 ⟨nM, neM_S, neM_I, neM_A, neM_E, neM_C, neM_N, HB2, KM, KS2, KI2, KA2, KE2, KC2, KN2⟩
  replace HB := HB2
  clear HB2
  replace KS := KS2
  clear KS2
  replace KI := KI2
  clear KI2
  replace KA := KA2
  clear KA2
  replace KE := KE2
  clear KE2
  replace KC := KC2
  clear KC2
  replace KN := KN2
  clear KN2
  cases ok with
  | false =>
    have EV := Lib.hid (EV0.out.trans (if_neg (by decide)))
    have US := Lib.hid (US0.out cx' cy' x' y' 0)
    obtain ⟨us, hus⟩ : ∃ z, useB x' y' rq = z := ⟨_, rfl⟩
    rw [hus] at US
    have EU := Lib.hid hus
    clear hus EV0 US0
    obtain ⟨yI_0, yI_1, yI_2, yI_3, yI_4, yI_5, yI_z⟩ := blk6 KI
    obtain ⟨yN_0, yN_1, yN_2, yN_3, yN_4, yN_5, yN_z⟩ := blk6 KN
    go_wp2_with fail
    obtain ⟨KT, hb81⟩ := alB w80 #[.int .i64 (cx'), .int .i64 (cy'), .int .i64 (x'), .int .i64 (y'), .bool false, .int .i64 0] 41
    have hnT := HB.out.size
    have nzT_S := KS.out.lt
    have nzT_I := KI.out.lt
    have nzT_A := KA.out.lt
    have nzT_E := KE.out.lt
    have nzT_C := KC.out.lt
    have nzT_N := KN.out.lt
    have nzT_M := KM.out.lt
    replace HB := hT HB hb81
    replace KS := hK KS hb81
    replace KI := hK KI hb81
    replace KA := hK KA hb81
    replace KE := hK KE hb81
    replace KC := hK KC hb81
    replace KN := hK KN hb81
    replace KM := hK KM hb81
    clear yI_0 yI_1 yI_2 yI_3 yI_4 yI_5 yI_z yN_0 yN_1 yN_2 yN_3 yN_4 yN_5 yN_z
    clear hb81
    generalize w80.alloc (.cells #[.int .i64 (cx'), .int .i64 (cy'), .int .i64 (x'), .int .i64 (y'), .bool false, .int .i64 0] 41) = w81 at *
    generalize w80.heap.size = bT at *
    have neT_S : bT ≠ w.heap.size := by omega
    have neT_I : bT ≠ (w.heap.size + 1) := by omega
    have neT_A : bT ≠ (w.heap.size + 1 + 1) := by omega
    have neT_E : bT ≠ (w.heap.size + 1 + 1 + 1) := by omega
    have neT_C : bT ≠ (w.heap.size + 1 + 1 + 1 + 1) := by omega
    have neT_N : bT ≠ bN := by omega
    have neT_M : bT ≠ bM := by omega
    clear nzT_S nzT_I nzT_A nzT_E nzT_C nzT_N nzT_M
    refine (US.out _).mono ?_
    rintro e82 w82 ⟨rfl, hb82⟩
    replace HB := hT HB hb82
    replace KS := hK KS hb82
    replace KI := hK KI hb82
    replace KA := hK KA hb82
    replace KE := hK KE hb82
    replace KC := hK KC hb82
    replace KN := hK KN hb82
    replace KM := hK KM hb82
    replace KT := hK KT hb82
    clear hb82
    obtain ⟨yA_0, yA_1, yA_2, yA_3, yA_4, yA_5, yA_z, yA_f0, yA_f1, yA_f2, yA_f3, yA_f4, yA_f5⟩ := blf6 KA
    obtain ⟨yE_0, yE_1, yE_2, yE_3, yE_4, yE_5, yE_z, yE_f0, yE_f1, yE_f2, yE_f3, yE_f4, yE_f5⟩ := blf6 KE
    obtain ⟨yN_0, yN_1, yN_2, yN_3, yN_4, yN_5, yN_z⟩ := blk6 KN
    obtain ⟨yT_0, yT_1, yT_2, yT_3, yT_4, yT_5, yT_z, yT_f0, yT_f1, yT_f2, yT_f3, yT_f4, yT_f5⟩ := blf6 KT
    go_wp2_with fail
    have hs := st1 w82 bT 4 (.bool us)
    replace KS := oB hs KS (by omega)
    replace KI := oB hs KI (by omega)
    replace KA := oB hs KA (by omega)
    replace KE := oB hs KE (by omega)
    replace KC := oB hs KC (by omega)
    replace KN := oB hs KN (by omega)
    replace KM := oB hs KM (by omega)
    replace KT := Lib.hid (blk_set KT.out (j := 4) (by simp) (.bool us))
    replace HB := oH hs HB (by omega)
    clear hs
    clear yA_0 yA_1 yA_2 yA_3 yA_4 yA_5 yA_z yA_f0 yA_f1 yA_f2 yA_f3 yA_f4 yA_f5 yE_0 yE_1 yE_2 yE_3 yE_4 yE_5 yE_z yE_f0 yE_f1 yE_f2 yE_f3 yE_f4 yE_f5 yN_0 yN_1 yN_2 yN_3 yN_4 yN_5 yN_z yT_0 yT_1 yT_2 yT_3 yT_4 yT_5 yT_z yT_f0 yT_f1 yT_f2 yT_f3 yT_f4 yT_f5
    generalize w82.setCell ⟨bT, 4, none⟩ (.bool us) = w83 at *
    simp only [List.set] at KT
    obtain ⟨yA_0, yA_1, yA_2, yA_3, yA_4, yA_5, yA_z, yA_f0, yA_f1, yA_f2, yA_f3, yA_f4, yA_f5⟩ := blf6 KA
    obtain ⟨yE_0, yE_1, yE_2, yE_3, yE_4, yE_5, yE_z, yE_f0, yE_f1, yE_f2, yE_f3, yE_f4, yE_f5⟩ := blf6 KE
    obtain ⟨yN_0, yN_1, yN_2, yN_3, yN_4, yN_5, yN_z⟩ := blk6 KN
    obtain ⟨yT_0, yT_1, yT_2, yT_3, yT_4, yT_5, yT_z⟩ := blk6 KT
    go_region
    have hs := st6 w83 (w.heap.size + 1 + 1) 0 (.int .i64 (cx')) 1 (.int .i64 (cy')) 2 (.int .i64 (x')) 3 (.int .i64 (y')) 4 (.int .i64 tick) 5 (.int .i64 m1)
    replace KS := oB hs KS (by omega)
    replace KI := oB hs KI (by omega)
    replace KA := Lib.hid (blk_set (blk_set (blk_set (blk_set (blk_set (blk_set KA.out (j := 0) (by simp) (.int .i64 (cx'))) (j := 1) (by simp) (.int .i64 (cy'))) (j := 2) (by simp) (.int .i64 (x'))) (j := 3) (by simp) (.int .i64 (y'))) (j := 4) (by simp) (.int .i64 tick)) (j := 5) (by simp) (.int .i64 m1))
    replace KE := oB hs KE (by omega)
    replace KC := oB hs KC (by omega)
    replace KN := oB hs KN (by omega)
    replace KM := oB hs KM (by omega)
    replace KT := oB hs KT (by omega)
    replace HB := oH hs HB (by omega)
    clear hs
    clear yA_0 yA_1 yA_2 yA_3 yA_4 yA_5 yA_z yA_f0 yA_f1 yA_f2 yA_f3 yA_f4 yA_f5 yE_0 yE_1 yE_2 yE_3 yE_4 yE_5 yE_z yE_f0 yE_f1 yE_f2 yE_f3 yE_f4 yE_f5 yN_0 yN_1 yN_2 yN_3 yN_4 yN_5 yN_z yT_0 yT_1 yT_2 yT_3 yT_4 yT_5 yT_z
    simp only [List.set] at KA
    have hs := st6 ((((((w83.setCell ⟨(w.heap.size + 1 + 1), 0, none⟩ (.int .i64 (cx'))).setCell ⟨(w.heap.size + 1 + 1), 1, none⟩ (.int .i64 (cy'))).setCell ⟨(w.heap.size + 1 + 1), 2, none⟩ (.int .i64 (x'))).setCell ⟨(w.heap.size + 1 + 1), 3, none⟩ (.int .i64 (y'))).setCell ⟨(w.heap.size + 1 + 1), 4, none⟩ (.int .i64 tick)).setCell ⟨(w.heap.size + 1 + 1), 5, none⟩ (.int .i64 m1)) (w.heap.size + 1 + 1 + 1) 0 (.int .i64 (cx')) 1 (.int .i64 (cy')) 2 (.int .i64 (x')) 3 (.int .i64 (y')) 4 (.bool us) 5 (.int .i64 0)
    replace KS := oB hs KS (by omega)
    replace KI := oB hs KI (by omega)
    replace KA := oB hs KA (by omega)
    replace KE := Lib.hid (blk_set (blk_set (blk_set (blk_set (blk_set (blk_set KE.out (j := 0) (by simp) (.int .i64 (cx'))) (j := 1) (by simp) (.int .i64 (cy'))) (j := 2) (by simp) (.int .i64 (x'))) (j := 3) (by simp) (.int .i64 (y'))) (j := 4) (by simp) (.bool us)) (j := 5) (by simp) (.int .i64 0))
    replace KC := oB hs KC (by omega)
    replace KN := oB hs KN (by omega)
    replace KM := oB hs KM (by omega)
    replace KT := oB hs KT (by omega)
    replace HB := oH hs HB (by omega)
    clear hs
    simp only [List.set] at KE
    replace KS := Lib.hid (blk_drew1 KS.out)
    replace KI := Lib.hid (blk_drew1 KI.out)
    replace KA := Lib.hid (blk_drew1 KA.out)
    replace KE := Lib.hid (blk_drew1 KE.out)
    replace KC := Lib.hid (blk_drew1 KC.out)
    replace KN := Lib.hid (blk_drew1 KN.out)
    replace KM := Lib.hid (blk_drew1 KM.out)
    replace KT := Lib.hid (blk_drew1 KT.out)
    replace HB := Lib.hid (below_drew1 HB.out)
    generalize (((((((((((((w83.setCell ⟨(w.heap.size + 1 + 1), 0, none⟩ (.int .i64 (cx'))).setCell ⟨(w.heap.size + 1 + 1), 1, none⟩ (.int .i64 (cy'))).setCell ⟨(w.heap.size + 1 + 1), 2, none⟩ (.int .i64 (x'))).setCell ⟨(w.heap.size + 1 + 1), 3, none⟩ (.int .i64 (y'))).setCell ⟨(w.heap.size + 1 + 1), 4, none⟩ (.int .i64 tick)).setCell ⟨(w.heap.size + 1 + 1), 5, none⟩ (.int .i64 m1)).setCell ⟨(w.heap.size + 1 + 1 + 1), 0, none⟩ (.int .i64 (cx'))).setCell ⟨(w.heap.size + 1 + 1 + 1), 1, none⟩ (.int .i64 (cy'))).setCell ⟨(w.heap.size + 1 + 1 + 1), 2, none⟩ (.int .i64 (x'))).setCell ⟨(w.heap.size + 1 + 1 + 1), 3, none⟩ (.int .i64 (y'))).setCell ⟨(w.heap.size + 1 + 1 + 1), 4, none⟩ (.bool us)).setCell ⟨(w.heap.size + 1 + 1 + 1), 5, none⟩ (.int .i64 0))).drew = w86 at *
    obtain ⟨yA_0, yA_1, yA_2, yA_3, yA_4, yA_5, yA_z⟩ := blk6 KA
    obtain ⟨yE_0, yE_1, yE_2, yE_3, yE_4, yE_5, yE_z⟩ := blk6 KE
    go_wp2
    refine bodyPost_ret (v := .tuple #[.agg #[.int .i64 (cx'), .int .i64 (cy'), .int .i64 (x'), .int .i64 (y'), .int .i64 tick, .int .i64 m1], .agg #[.int .i64 (cx'), .int .i64 (cy'), .int .i64 (x'), .int .i64 (y'), .bool us, .int .i64 0], .int .i64 0]) (by simp [results, Tryz.results17, go_sem, yA_0, yA_1, yA_2, yA_3, yA_4, yA_5, yE_0, yE_1, yE_2, yE_3, yE_4, yE_5]) rfl ⟨by rw [EV.out, EU.out], HB.out⟩
  | true =>
    have EV := Lib.hid (EV0.out.trans (if_pos rfl))
    have US := Lib.hid (US0.out dx dy d1 d2 k)
    obtain ⟨us, hus⟩ : ∃ z, useB d1 d2 rq = z := ⟨_, rfl⟩
    rw [hus] at US
    have EU := Lib.hid hus
    clear hus EV0 US0
    obtain ⟨yN_0, yN_1, yN_2, yN_3, yN_4, yN_5, yN_z, yN_f0, yN_f1, yN_f2, yN_f3, yN_f4, yN_f5⟩ := blf6 KN
    obtain ⟨yM_0, yM_1, yM_2, yM_3, yM_z⟩ := blk4 KM
    go_upto_region 18 with (fail)
    have hs := st5 w80 bN 0 (.int .i64 dx) 1 (.int .i64 dy) 2 (.int .i64 d1) 3 (.int .i64 d2) 5 (.int .i64 0)
    replace KS := oB hs KS (by omega)
    replace KI := oB hs KI (by omega)
    replace KA := oB hs KA (by omega)
    replace KE := oB hs KE (by omega)
    replace KC := oB hs KC (by omega)
    replace KN := Lib.hid (blk_set (blk_set (blk_set (blk_set (blk_set KN.out (j := 0) (by simp) (.int .i64 dx)) (j := 1) (by simp) (.int .i64 dy)) (j := 2) (by simp) (.int .i64 d1)) (j := 3) (by simp) (.int .i64 d2)) (j := 5) (by simp) (.int .i64 0))
    replace KM := oB hs KM (by omega)
    replace HB := oH hs HB (by omega)
    clear hs
    clear yN_0 yN_1 yN_2 yN_3 yN_4 yN_5 yN_z yN_f0 yN_f1 yN_f2 yN_f3 yN_f4 yN_f5 yM_0 yM_1 yM_2 yM_3 yM_z
    generalize ((((w80.setCell ⟨bN, 0, none⟩ (.int .i64 dx)).setCell ⟨bN, 1, none⟩ (.int .i64 dy)).setCell ⟨bN, 2, none⟩ (.int .i64 d1)).setCell ⟨bN, 3, none⟩ (.int .i64 d2)).setCell ⟨bN, 5, none⟩ (.int .i64 0) = w81 at *
    simp only [List.set] at KN
    obtain ⟨yI_0, yI_1, yI_2, yI_3, yI_4, yI_5, yI_z⟩ := blk6 KI
    obtain ⟨yN_0, yN_1, yN_2, yN_3, yN_4, yN_5, yN_z⟩ := blk6 KN
    go_wp2_with fail
    obtain ⟨KT, hb82⟩ := alB w81 #[.int .i64 dx, .int .i64 dy, .int .i64 d1, .int .i64 d2, .bool false, .int .i64 k] 41
    have hnT := HB.out.size
    have nzT_S := KS.out.lt
    have nzT_I := KI.out.lt
    have nzT_A := KA.out.lt
    have nzT_E := KE.out.lt
    have nzT_C := KC.out.lt
    have nzT_N := KN.out.lt
    have nzT_M := KM.out.lt
    replace HB := hT HB hb82
    replace KS := hK KS hb82
    replace KI := hK KI hb82
    replace KA := hK KA hb82
    replace KE := hK KE hb82
    replace KC := hK KC hb82
    replace KN := hK KN hb82
    replace KM := hK KM hb82
    clear yI_0 yI_1 yI_2 yI_3 yI_4 yI_5 yI_z yN_0 yN_1 yN_2 yN_3 yN_4 yN_5 yN_z
    clear hb82
    generalize w81.alloc (.cells #[.int .i64 dx, .int .i64 dy, .int .i64 d1, .int .i64 d2, .bool false, .int .i64 k] 41) = w82 at *
    generalize w81.heap.size = bT at *
    have neT_S : bT ≠ w.heap.size := by omega
    have neT_I : bT ≠ (w.heap.size + 1) := by omega
    have neT_A : bT ≠ (w.heap.size + 1 + 1) := by omega
    have neT_E : bT ≠ (w.heap.size + 1 + 1 + 1) := by omega
    have neT_C : bT ≠ (w.heap.size + 1 + 1 + 1 + 1) := by omega
    have neT_N : bT ≠ bN := by omega
    have neT_M : bT ≠ bM := by omega
    clear nzT_S nzT_I nzT_A nzT_E nzT_C nzT_N nzT_M
    refine (US.out _).mono ?_
    rintro e83 w83 ⟨rfl, hb83⟩
    replace HB := hT HB hb83
    replace KS := hK KS hb83
    replace KI := hK KI hb83
    replace KA := hK KA hb83
    replace KE := hK KE hb83
    replace KC := hK KC hb83
    replace KN := hK KN hb83
    replace KM := hK KM hb83
    replace KT := hK KT hb83
    clear hb83
    obtain ⟨yA_0, yA_1, yA_2, yA_3, yA_4, yA_5, yA_z, yA_f0, yA_f1, yA_f2, yA_f3, yA_f4, yA_f5⟩ := blf6 KA
    obtain ⟨yE_0, yE_1, yE_2, yE_3, yE_4, yE_5, yE_z, yE_f0, yE_f1, yE_f2, yE_f3, yE_f4, yE_f5⟩ := blf6 KE
    obtain ⟨yN_0, yN_1, yN_2, yN_3, yN_4, yN_5, yN_z⟩ := blk6 KN
    obtain ⟨yT_0, yT_1, yT_2, yT_3, yT_4, yT_5, yT_z, yT_f0, yT_f1, yT_f2, yT_f3, yT_f4, yT_f5⟩ := blf6 KT
    go_wp2_with fail
    have hs := st1 w83 bT 4 (.bool us)
    replace KS := oB hs KS (by omega)
    replace KI := oB hs KI (by omega)
    replace KA := oB hs KA (by omega)
    replace KE := oB hs KE (by omega)
    replace KC := oB hs KC (by omega)
    replace KN := oB hs KN (by omega)
    replace KM := oB hs KM (by omega)
    replace KT := Lib.hid (blk_set KT.out (j := 4) (by simp) (.bool us))
    replace HB := oH hs HB (by omega)
    clear hs
    clear yA_0 yA_1 yA_2 yA_3 yA_4 yA_5 yA_z yA_f0 yA_f1 yA_f2 yA_f3 yA_f4 yA_f5 yE_0 yE_1 yE_2 yE_3 yE_4 yE_5 yE_z yE_f0 yE_f1 yE_f2 yE_f3 yE_f4 yE_f5 yN_0 yN_1 yN_2 yN_3 yN_4 yN_5 yN_z yT_0 yT_1 yT_2 yT_3 yT_4 yT_5 yT_z yT_f0 yT_f1 yT_f2 yT_f3 yT_f4 yT_f5
    generalize w83.setCell ⟨bT, 4, none⟩ (.bool us) = w84 at *
    simp only [List.set] at KT
    obtain ⟨yA_0, yA_1, yA_2, yA_3, yA_4, yA_5, yA_z, yA_f0, yA_f1, yA_f2, yA_f3, yA_f4, yA_f5⟩ := blf6 KA
    obtain ⟨yE_0, yE_1, yE_2, yE_3, yE_4, yE_5, yE_z, yE_f0, yE_f1, yE_f2, yE_f3, yE_f4, yE_f5⟩ := blf6 KE
    obtain ⟨yN_0, yN_1, yN_2, yN_3, yN_4, yN_5, yN_z⟩ := blk6 KN
    obtain ⟨yT_0, yT_1, yT_2, yT_3, yT_4, yT_5, yT_z⟩ := blk6 KT
    go_region
    have hs := st6 w84 (w.heap.size + 1 + 1) 0 (.int .i64 dx) 1 (.int .i64 dy) 2 (.int .i64 d1) 3 (.int .i64 d2) 4 (.int .i64 tick) 5 (.int .i64 0)
    replace KS := oB hs KS (by omega)
    replace KI := oB hs KI (by omega)
    replace KA := Lib.hid (blk_set (blk_set (blk_set (blk_set (blk_set (blk_set KA.out (j := 0) (by simp) (.int .i64 dx)) (j := 1) (by simp) (.int .i64 dy)) (j := 2) (by simp) (.int .i64 d1)) (j := 3) (by simp) (.int .i64 d2)) (j := 4) (by simp) (.int .i64 tick)) (j := 5) (by simp) (.int .i64 0))
    replace KE := oB hs KE (by omega)
    replace KC := oB hs KC (by omega)
    replace KN := oB hs KN (by omega)
    replace KM := oB hs KM (by omega)
    replace KT := oB hs KT (by omega)
    replace HB := oH hs HB (by omega)
    clear hs
    clear yA_0 yA_1 yA_2 yA_3 yA_4 yA_5 yA_z yA_f0 yA_f1 yA_f2 yA_f3 yA_f4 yA_f5 yE_0 yE_1 yE_2 yE_3 yE_4 yE_5 yE_z yE_f0 yE_f1 yE_f2 yE_f3 yE_f4 yE_f5 yN_0 yN_1 yN_2 yN_3 yN_4 yN_5 yN_z yT_0 yT_1 yT_2 yT_3 yT_4 yT_5 yT_z
    simp only [List.set] at KA
    have hs := st6 ((((((w84.setCell ⟨(w.heap.size + 1 + 1), 0, none⟩ (.int .i64 dx)).setCell ⟨(w.heap.size + 1 + 1), 1, none⟩ (.int .i64 dy)).setCell ⟨(w.heap.size + 1 + 1), 2, none⟩ (.int .i64 d1)).setCell ⟨(w.heap.size + 1 + 1), 3, none⟩ (.int .i64 d2)).setCell ⟨(w.heap.size + 1 + 1), 4, none⟩ (.int .i64 tick)).setCell ⟨(w.heap.size + 1 + 1), 5, none⟩ (.int .i64 0)) (w.heap.size + 1 + 1 + 1) 0 (.int .i64 dx) 1 (.int .i64 dy) 2 (.int .i64 d1) 3 (.int .i64 d2) 4 (.bool us) 5 (.int .i64 k)
    replace KS := oB hs KS (by omega)
    replace KI := oB hs KI (by omega)
    replace KA := oB hs KA (by omega)
    replace KE := Lib.hid (blk_set (blk_set (blk_set (blk_set (blk_set (blk_set KE.out (j := 0) (by simp) (.int .i64 dx)) (j := 1) (by simp) (.int .i64 dy)) (j := 2) (by simp) (.int .i64 d1)) (j := 3) (by simp) (.int .i64 d2)) (j := 4) (by simp) (.bool us)) (j := 5) (by simp) (.int .i64 k))
    replace KC := oB hs KC (by omega)
    replace KN := oB hs KN (by omega)
    replace KM := oB hs KM (by omega)
    replace KT := oB hs KT (by omega)
    replace HB := oH hs HB (by omega)
    clear hs
    simp only [List.set] at KE
    replace KS := Lib.hid (blk_drew1 KS.out)
    replace KI := Lib.hid (blk_drew1 KI.out)
    replace KA := Lib.hid (blk_drew1 KA.out)
    replace KE := Lib.hid (blk_drew1 KE.out)
    replace KC := Lib.hid (blk_drew1 KC.out)
    replace KN := Lib.hid (blk_drew1 KN.out)
    replace KM := Lib.hid (blk_drew1 KM.out)
    replace KT := Lib.hid (blk_drew1 KT.out)
    replace HB := Lib.hid (below_drew1 HB.out)
    generalize (((((((((((((w84.setCell ⟨(w.heap.size + 1 + 1), 0, none⟩ (.int .i64 dx)).setCell ⟨(w.heap.size + 1 + 1), 1, none⟩ (.int .i64 dy)).setCell ⟨(w.heap.size + 1 + 1), 2, none⟩ (.int .i64 d1)).setCell ⟨(w.heap.size + 1 + 1), 3, none⟩ (.int .i64 d2)).setCell ⟨(w.heap.size + 1 + 1), 4, none⟩ (.int .i64 tick)).setCell ⟨(w.heap.size + 1 + 1), 5, none⟩ (.int .i64 0)).setCell ⟨(w.heap.size + 1 + 1 + 1), 0, none⟩ (.int .i64 dx)).setCell ⟨(w.heap.size + 1 + 1 + 1), 1, none⟩ (.int .i64 dy)).setCell ⟨(w.heap.size + 1 + 1 + 1), 2, none⟩ (.int .i64 d1)).setCell ⟨(w.heap.size + 1 + 1 + 1), 3, none⟩ (.int .i64 d2)).setCell ⟨(w.heap.size + 1 + 1 + 1), 4, none⟩ (.bool us)).setCell ⟨(w.heap.size + 1 + 1 + 1), 5, none⟩ (.int .i64 k))).drew = w87 at *
    obtain ⟨yA_0, yA_1, yA_2, yA_3, yA_4, yA_5, yA_z⟩ := blk6 KA
    obtain ⟨yE_0, yE_1, yE_2, yE_3, yE_4, yE_5, yE_z⟩ := blk6 KE
    go_wp2
    refine bodyPost_ret (v := .tuple #[.agg #[.int .i64 dx, .int .i64 dy, .int .i64 d1, .int .i64 d2, .int .i64 tick, .int .i64 0], .agg #[.int .i64 dx, .int .i64 dy, .int .i64 d1, .int .i64 d2, .bool us, .int .i64 k], .int .i64 0]) (by simp [results, Tryz.results17, go_sem, yA_0, yA_1, yA_2, yA_3, yA_4, yA_5, yE_0, yE_1, yE_2, yE_3, yE_4, yE_5]) rfl ⟨by rw [EV.out, EU.out], HB.out⟩
end Go.Proofs.YtajmjkliblippaaGreatDoor
