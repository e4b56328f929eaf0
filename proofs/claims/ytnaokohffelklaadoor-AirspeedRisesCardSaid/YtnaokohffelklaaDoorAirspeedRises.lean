/-
  The law AirspeedRises holds for every input: a greater calibrated airspeed, a greater Mach number or a warmer air never lowers the true airspeed of the schedule, and true airspeed does not fall with the altitude. No condition.
-/
import Derived.Test.YtnaokohffelklaaDoorStructs30
import Derived.Test.YtnaokohffelklaaDoorAwake30
import Derived.Test.YtnaokohffelklaaDoorAirSpeed
import Derived.Test.YtnaokohffelklaaDoorStillFirst
import Derived.Test.YtnaokohffelklaaDoorBlkS
import Derived.Lib.QuietBelow
namespace Go.Proofs.YtnaokohffelklaaDoor.airspeedRises
set_option linter.unusedVariables false
open Go.ChangeShapes Go.WideShapes Go.ChangeAt Go.RowKit Sq

/-- what the schedules and the true airspeeds give together -/
theorem rise_fact {va vb ma mb la ha ld hd : Int} (hv : va ≤ vb) (hm : ma ≤ mb) (hl : la ≤ ha) (hdd : ld ≤ hd) {a e b f c g d h : Int} (h1 : schF va ma la ld = (a, e)) (h2 : schF vb mb la hd = (b, f)) (h3 : tasF va la ld = (c, g)) (h4 : tasF vb ha hd = (d, h)) :
    (e ≠ 0 ∧ a = 0) ∨ (e = 0 ∧ f ≠ 0 ∧ b = 0) ∨ (e = 0 ∧ f = 0 ∧ a ≤ b ∧ ((g ≠ 0) ∨ (g = 0 ∧ h ≠ 0) ∨ (g = 0 ∧ h = 0 ∧ c ≤ d ∧ a ≤ c))) := by
  unfold schF at h1 h2
  unfold tasF at h3 h4
  by_cases hc : witB va 1000 = true
  · by_cases hm1 : witB ma 2000 = true
    · by_cases hk : chkI la ld = 0
      · rw [if_pos hc, if_pos hm1, if_pos hk] at h1
        rw [if_pos hc, if_pos hk] at h3
        obtain ⟨rfl, rfl⟩ := Prod.mk.inj h1
        obtain ⟨rfl, rfl⟩ := Prod.mk.inj h3
        by_cases hc2 : witB vb 1000 = true
        · by_cases hm2 : witB mb 2000 = true
          · by_cases hk2 : chkI la hd = 0
            · rw [if_pos hc2, if_pos hm2, if_pos hk2] at h2
              obtain ⟨rfl, rfl⟩ := Prod.mk.inj h2
              obtain ⟨A, D⟩ := chk_ok hk
              obtain ⟨_, D2⟩ := chk_ok hk2
              have t := tas_mono (wit_iff.1 hc).1 hv A A (Int.le_refl _) D D2 hdd
              have o := of_mono (wit_iff.1 hm1).1 hm A D D2 hdd
              refine .inr (.inr ⟨rfl, rfl, by omega, ?_⟩)
              by_cases hk3 : chkI ha hd = 0
              · rw [if_pos hc2, if_pos hk3] at h4
                obtain ⟨rfl, rfl⟩ := Prod.mk.inj h4
                obtain ⟨A3, _⟩ := chk_ok hk3
                have t2 := tas_mono (wit_iff.1 hc).1 hv A A3 hl D D2 hdd
                exact .inr (.inr ⟨rfl, rfl, t2, by omega⟩)
              · rw [if_pos hc2, if_neg hk3] at h4
                obtain ⟨rfl, rfl⟩ := Prod.mk.inj h4
                exact .inr (.inl ⟨rfl, hk3⟩)
            · rw [if_pos hc2, if_pos hm2, if_neg hk2] at h2
              obtain ⟨rfl, rfl⟩ := Prod.mk.inj h2
              exact .inr (.inl ⟨rfl, hk2, rfl⟩)
          · rw [if_pos hc2, if_neg hm2] at h2
            obtain ⟨rfl, rfl⟩ := Prod.mk.inj h2
            exact .inr (.inl ⟨rfl, by decide, rfl⟩)
        · rw [if_neg hc2] at h2
          obtain ⟨rfl, rfl⟩ := Prod.mk.inj h2
          exact .inr (.inl ⟨rfl, by decide, rfl⟩)
      · rw [if_pos hc, if_pos hm1, if_neg hk] at h1
        obtain ⟨rfl, rfl⟩ := Prod.mk.inj h1
        exact .inl ⟨hk, rfl⟩
    · rw [if_pos hc, if_neg hm1] at h1
      obtain ⟨rfl, rfl⟩ := Prod.mk.inj h1
      exact .inl ⟨by decide, rfl⟩
  · rw [if_neg hc] at h1
    obtain ⟨rfl, rfl⟩ := Prod.mk.inj h1
    exact .inl ⟨by decide, rfl⟩
set_option maxHeartbeats 40000000 in
set_option maxRecDepth 100000 in
theorem walk (v0 v1 m0 m1 a0 d0 a1 d1 : Int) (v0_a : -9223372036854775808 ≤ v0) (v0_b : v0 ≤ 9223372036854775807) (v1_a : -9223372036854775808 ≤ v1) (v1_b : v1 ≤ 9223372036854775807) (m0_a : -9223372036854775808 ≤ m0) (m0_b : m0 ≤ 9223372036854775807) (m1_a : -9223372036854775808 ≤ m1) (m1_b : m1 ≤ 9223372036854775807) (a0_a : -9223372036854775808 ≤ a0) (a0_b : a0 ≤ 9223372036854775807) (d0_a : -9223372036854775808 ≤ d0) (d0_b : d0 ≤ 9223372036854775807) (a1_a : -9223372036854775808 ≤ a1) (a1_b : a1 ≤ 9223372036854775807) (d1_a : -9223372036854775808 ≤ d1) (d1_b : d1 ≤ 9223372036854775807) (w : World) (hE : Env w) :
    Calls Tryd.prog 8 #[.agg #[.int .i64 v0, .int .i64 v1], .agg #[.int .i64 m0, .int .i64 m1], .agg #[.int .i64 a0, .int .i64 d0, .int .i64 a1, .int .i64 d1]] w fun e w' => e = .returned (.bool true) ∧ Below w.heap.size w w' := by
  have HE := Lib.hid hE
  clear hE
  obtain ⟨⟨a, e⟩, h1⟩ : ∃ p, schF (min v0 v1) (min m0 m1) (min a0 a1) (min d0 d1) = p := ⟨_, rfl⟩
  obtain ⟨⟨b, f⟩, h2⟩ : ∃ p, schF (max v0 v1) (max m0 m1) (min a0 a1) (max d0 d1) = p := ⟨_, rfl⟩
  obtain ⟨⟨c, g⟩, h3⟩ : ∃ p, tasF (min v0 v1) (min a0 a1) (min d0 d1) = p := ⟨_, rfl⟩
  obtain ⟨⟨d, h⟩, h4⟩ : ∃ p, tasF (max v0 v1) (max a0 a1) (max d0 d1) = p := ⟨_, rfl⟩
  have pf := rise_fact (by omega) (by omega) (by omega) (by omega) h1 h2 h3 h4
  have B0 := fun w => sched_any (min v0 v1) (min m0 m1) (min a0 a1) (min d0 d1) w
  have B1 := fun w => sched_any (max v0 v1) (max m0 m1) (min a0 a1) (max d0 d1) w
  have B2 := fun w => tas_any (min v0 v1) (min a0 a1) (min d0 d1) w
  have B3 := fun w => tas_any (max v0 v1) (max a0 a1) (max d0 d1) w
  rw [h1] at B0
  rw [h2] at B1
  rw [h3] at B2
  rw [h4] at B3
  have A0 := Lib.hid B0
  have A1 := Lib.hid B1
  have A2 := Lib.hid B2
  have A3 := Lib.hid B3
  clear h1 h2 h3 h4 B0 B1 B2 B3
  have KV := Lib.hid (((Blk.of (vs := #[.int .i64 v0, .int .i64 v1]) (t := 30) (w := w) (b := w.heap.size) (by simp)).alloc (.cells #[.int .i64 m0, .int .i64 m1] 30)).alloc (.cells #[.int .i64 a0, .int .i64 d0, .int .i64 a1, .int .i64 d1] 31))
  have KQ := Lib.hid ((Blk.of (vs := #[.int .i64 m0, .int .i64 m1]) (t := 30) (w := (w.alloc (.cells #[.int .i64 v0, .int .i64 v1] 30))) (b := w.heap.size + 1) (by simp)).alloc (.cells #[.int .i64 a0, .int .i64 d0, .int .i64 a1, .int .i64 d1] 31))
  have KX := Lib.hid (Blk.of (vs := #[.int .i64 a0, .int .i64 d0, .int .i64 a1, .int .i64 d1]) (t := 31) (w := ((w.alloc (.cells #[.int .i64 v0, .int .i64 v1] 30)).alloc (.cells #[.int .i64 m0, .int .i64 m1] 30))) (b := w.heap.size + 1 + 1) (by simp))
  have HB := Lib.hid ((((Below.refl w.heap.size w).alloc (by simp; try omega) (.cells #[.int .i64 v0, .int .i64 v1] 30)).alloc (by simp; try omega) (.cells #[.int .i64 m0, .int .i64 m1] 30)).alloc (by simp; try omega) (.cells #[.int .i64 a0, .int .i64 d0, .int .i64 a1, .int .i64 d1] 31))
  go_enter Tryd.func8, Tryd.ntmps8
  go_wp2_with fail
  generalize ((w.alloc (.cells #[.int .i64 v0, .int .i64 v1] 30)).alloc (.cells #[.int .i64 m0, .int .i64 m1] 30)).alloc (.cells #[.int .i64 a0, .int .i64 d0, .int .i64 a1, .int .i64 d1] 31) = w0 at *
  refine (awake_any _ (HE.out.below HB.out)).mono ?_
  rintro e1 w1 ⟨rfl, hb1⟩
  replace HB := Lib.hid (HB.out.trans (hb1.mono HB.out.size))
  replace KV := Lib.hid (KV.out.below hb1)
  replace KQ := Lib.hid (KQ.out.below hb1)
  replace KX := Lib.hid (KX.out.below hb1)
  clear hb1
  go_upto_region 3 with (fail)
  have gX_0 := fun d os => cell_regrown (KX.out.c 0 _ rfl) d os
  have gX_1 := fun d os => cell_regrown (KX.out.c 1 _ rfl) d os
  have gX_2 := fun d os => cell_regrown (KX.out.c 2 _ rfl) d os
  have gX_3 := fun d os => cell_regrown (KX.out.c 3 _ rfl) d os
  apply wp_two (R := fun b d w' => w.heap.size ≤ b ∧ w.heap.size ≤ d ∧ b ≠ d ∧ b ≠ w.heap.size ∧ b ≠ (w.heap.size + 1) ∧ b ≠ (w.heap.size + 1 + 1) ∧ d ≠ w.heap.size ∧ d ≠ (w.heap.size + 1) ∧ d ≠ (w.heap.size + 1 + 1) ∧ Hid (Below w.heap.size w w') ∧ Hid (Blk [.int .i64 (min a0 a1), .int .i64 (min d0 d1)] b w') ∧ Hid (Blk [.int .i64 (max a0 a1), .int .i64 (max d0 d1)] d w') ∧ Hid (Blk [.int .i64 v0, .int .i64 v1] w.heap.size w') ∧ Hid (Blk [.int .i64 m0, .int .i64 m1] (w.heap.size + 1) w') ∧ Hid (Blk [.int .i64 a0, .int .i64 d0, .int .i64 a1, .int .i64 d1] (w.heap.size + 1 + 1) w'))
  · refine wp_region_calm (fun w' => ∃ p : Regrown, w' = Go.Sort.grow (redrawn w1 p.d) p.os) (by kernel_rfl) ?_
    refine wpAnyC_heads oneOut_normal (by kernel_rfl) [0, 1, 2, 3, 4, 5, 6, 7, 8, 9, 10, 11, 12, 13, 14, 15, 16, 17, 18, 19, 20, 21, 22, 23, 24, 25, 26, 27, 28, 29] 4 (Array.replicate 34 false) _ _ (by kernel_rfl) ?_
    simp only [pick, List.filterMap_cons, List.filterMap_nil, List.getElem?_cons_zero, List.getElem?_cons_succ]
    repeat (refine wpCalm_step (fun K hK => ?_); go_simp; first | (refine hK _ ?_; clear hK K) | (refine ⟨_, fun _ => calm_intro, hK _ ?_⟩; clear hK K))
    refine wpCalm_nil ?_
    have HX := Lib.hid (below_drew1 (Below.refl w1.heap.size w1))
    generalize w1.drew = wa at HX ⊢
    refine wpAnyC_node (i := 30) (rs := [31]) (by kernel_rfl) (regrown_of_below HX.out) (all2 ?_ ?_)
    · refine wpOp_of_list (by rfl) ?_
      go_wp2_with fail
      refine Then1.mk ?_
      have KL := Lib.hid (Blk.of (vs := #[.int .i64 0, .int .i64 0]) (t := 23) (w := wa) (b := wa.heap.size) rfl)
      have hL := HX.out.size
      replace HX := Lib.hid (HX.out.alloc HX.out.size (.cells #[.int .i64 0, .int .i64 0] 23))
      generalize wa.alloc (.cells #[.int .i64 0, .int .i64 0] 23) = wb1 at *
      generalize wa.heap.size = bL at *
      refine wpAnyC_node (i := 31) (rs := []) (by kernel_rfl) (regrown_of_below HX.out) (all1 ?_)
      refine wpOp_of_list (by rfl) ?_
      go_wp2_with fail
      refine Then1.mk ?_
      have KH := Lib.hid (Blk.of (vs := #[.int .i64 0, .int .i64 0]) (t := 23) (w := wb1) (b := wb1.heap.size) rfl)
      have hH := HX.out.size
      have eHL : wb1.heap.size ≠ bL := Nat.ne_of_gt KL.out.lt
      replace KL := Lib.hid (KL.out.alloc (.cells #[.int .i64 0, .int .i64 0] 23))
      replace HX := Lib.hid (HX.out.alloc HX.out.size (.cells #[.int .i64 0, .int .i64 0] 23))
      generalize wb1.alloc (.cells #[.int .i64 0, .int .i64 0] 23) = wb2 at *
      generalize wb1.heap.size = bH at *
      refine wpAnyC_node (i := 32) (rs := []) (by kernel_rfl) (regrown_of_below HX.out) (all1 ?_)
      refine wpOp_of_list (by rfl) ?_
      have yL := KL.out
      have yL_0 := yL.c 0 _ rfl
      have yL_1 := yL.c 1 _ rfl
      have yL_f0 := yL.f 0 _ rfl
      have yL_f1 := yL.f 1 _ rfl
      have yL_z := yL.lt
      clear yL
      go_wp2_with fail
      refine Then1.mk ?_
      replace KL := Lib.hid (blk_set (blk_set KL.out (j := 0) (by simp) (.int .i64 (min a0 a1))) (j := 1) (by simp) (.int .i64 (min d0 d1)))
      replace KH := Lib.hid (blk_other (j := 1) (blk_other (j := 0) KH.out (Ne.symm eHL) (.int .i64 (min a0 a1))) (Ne.symm eHL) (.int .i64 (min d0 d1)))
      replace HX := Lib.hid ((HX.out.setCell (p := ⟨bL, 0, none⟩) hL (.int .i64 (min a0 a1))).setCell (p := ⟨bL, 1, none⟩) hL (.int .i64 (min d0 d1)))
      clear yL_0 yL_f0 yL_1 yL_f1 yL_z
      generalize (wb2.setCell ⟨bL, 0, none⟩ (.int .i64 (min a0 a1))).setCell ⟨bL, 1, none⟩ (.int .i64 (min d0 d1)) = wb3 at *
      simp only [List.set] at KL
      refine wpAnyC_node (i := 33) (rs := []) (by kernel_rfl) (regrown_of_below HX.out) (all1 ?_)
      refine wpOp_of_list (by rfl) ?_
      have yH := KH.out
      have yH_0 := yH.c 0 _ rfl
      have yH_1 := yH.c 1 _ rfl
      have yH_f0 := yH.f 0 _ rfl
      have yH_f1 := yH.f 1 _ rfl
      have yH_z := yH.lt
      clear yH
      go_wp2_with fail
      refine Then1.mk ?_
      replace KH := Lib.hid (blk_set (blk_set KH.out (j := 0) (by simp) (.int .i64 (max a0 a1))) (j := 1) (by simp) (.int .i64 (max d0 d1)))
      replace KL := Lib.hid (blk_other (j := 1) (blk_other (j := 0) KL.out eHL (.int .i64 (max a0 a1))) eHL (.int .i64 (max d0 d1)))
      replace HX := Lib.hid ((HX.out.setCell (p := ⟨bH, 0, none⟩) hH (.int .i64 (max a0 a1))).setCell (p := ⟨bH, 1, none⟩) hH (.int .i64 (max d0 d1)))
      clear yH_0 yH_f0 yH_1 yH_f1 yH_z
      generalize (wb3.setCell ⟨bH, 0, none⟩ (.int .i64 (max a0 a1))).setCell ⟨bH, 1, none⟩ (.int .i64 (max d0 d1)) = wb4 at *
      simp only [List.set] at KH
      refine wpAnyC_leaf (by kernel_rfl) (regrown_of_below HX.out) (OneOut.mk ⟨bL, bH, rfl, ?_⟩)
      exact ⟨Nat.le_trans HB.out.size hL, Nat.le_trans HB.out.size hH, (Ne.symm eHL), Nat.ne_of_gt (Nat.lt_of_lt_of_le KV.out.lt hL), Nat.ne_of_gt (Nat.lt_of_lt_of_le KQ.out.lt hL), Nat.ne_of_gt (Nat.lt_of_lt_of_le KX.out.lt hL), Nat.ne_of_gt (Nat.lt_of_lt_of_le KV.out.lt hH), Nat.ne_of_gt (Nat.lt_of_lt_of_le KQ.out.lt hH), Nat.ne_of_gt (Nat.lt_of_lt_of_le KX.out.lt hH), Lib.hid (HB.out.trans (HX.out.mono HB.out.size)), KL, KH, Lib.hid (KV.out.below HX.out), Lib.hid (KQ.out.below HX.out), Lib.hid (KX.out.below HX.out)⟩
    · refine wpOp_of_list (by rfl) ?_
      go_wp2_with fail
      refine Then1.mk ?_
      have KH := Lib.hid (Blk.of (vs := #[.int .i64 0, .int .i64 0]) (t := 23) (w := wa) (b := wa.heap.size) rfl)
      have hH := HX.out.size
      replace HX := Lib.hid (HX.out.alloc HX.out.size (.cells #[.int .i64 0, .int .i64 0] 23))
      generalize wa.alloc (.cells #[.int .i64 0, .int .i64 0] 23) = wb1 at *
      generalize wa.heap.size = bH at *
      refine wpAnyC_node (i := 30) (rs := []) (by kernel_rfl) (regrown_of_below HX.out) (all1 ?_)
      refine wpOp_of_list (by rfl) ?_
      go_wp2_with fail
      refine Then1.mk ?_
      have KL := Lib.hid (Blk.of (vs := #[.int .i64 0, .int .i64 0]) (t := 23) (w := wb1) (b := wb1.heap.size) rfl)
      have hL := HX.out.size
      have eLH : wb1.heap.size ≠ bH := Nat.ne_of_gt KH.out.lt
      replace KH := Lib.hid (KH.out.alloc (.cells #[.int .i64 0, .int .i64 0] 23))
      replace HX := Lib.hid (HX.out.alloc HX.out.size (.cells #[.int .i64 0, .int .i64 0] 23))
      generalize wb1.alloc (.cells #[.int .i64 0, .int .i64 0] 23) = wb2 at *
      generalize wb1.heap.size = bL at *
      refine wpAnyC_node (i := 32) (rs := []) (by kernel_rfl) (regrown_of_below HX.out) (all1 ?_)
      refine wpOp_of_list (by rfl) ?_
      have yL := KL.out
      have yL_0 := yL.c 0 _ rfl
      have yL_1 := yL.c 1 _ rfl
      have yL_f0 := yL.f 0 _ rfl
      have yL_f1 := yL.f 1 _ rfl
      have yL_z := yL.lt
      clear yL
      go_wp2_with fail
      refine Then1.mk ?_
      replace KL := Lib.hid (blk_set (blk_set KL.out (j := 0) (by simp) (.int .i64 (min a0 a1))) (j := 1) (by simp) (.int .i64 (min d0 d1)))
      replace KH := Lib.hid (blk_other (j := 1) (blk_other (j := 0) KH.out eLH (.int .i64 (min a0 a1))) eLH (.int .i64 (min d0 d1)))
      replace HX := Lib.hid ((HX.out.setCell (p := ⟨bL, 0, none⟩) hL (.int .i64 (min a0 a1))).setCell (p := ⟨bL, 1, none⟩) hL (.int .i64 (min d0 d1)))
      clear yL_0 yL_f0 yL_1 yL_f1 yL_z
      generalize (wb2.setCell ⟨bL, 0, none⟩ (.int .i64 (min a0 a1))).setCell ⟨bL, 1, none⟩ (.int .i64 (min d0 d1)) = wb3 at *
      simp only [List.set] at KL
      refine wpAnyC_node (i := 33) (rs := []) (by kernel_rfl) (regrown_of_below HX.out) (all1 ?_)
      refine wpOp_of_list (by rfl) ?_
      have yH := KH.out
      have yH_0 := yH.c 0 _ rfl
      have yH_1 := yH.c 1 _ rfl
      have yH_f0 := yH.f 0 _ rfl
      have yH_f1 := yH.f 1 _ rfl
      have yH_z := yH.lt
      clear yH
      go_wp2_with fail
      refine Then1.mk ?_
      replace KH := Lib.hid (blk_set (blk_set KH.out (j := 0) (by simp) (.int .i64 (max a0 a1))) (j := 1) (by simp) (.int .i64 (max d0 d1)))
      replace KL := Lib.hid (blk_other (j := 1) (blk_other (j := 0) KL.out (Ne.symm eLH) (.int .i64 (max a0 a1))) (Ne.symm eLH) (.int .i64 (max d0 d1)))
      replace HX := Lib.hid ((HX.out.setCell (p := ⟨bH, 0, none⟩) hH (.int .i64 (max a0 a1))).setCell (p := ⟨bH, 1, none⟩) hH (.int .i64 (max d0 d1)))
      clear yH_0 yH_f0 yH_1 yH_f1 yH_z
      generalize (wb3.setCell ⟨bH, 0, none⟩ (.int .i64 (max a0 a1))).setCell ⟨bH, 1, none⟩ (.int .i64 (max d0 d1)) = wb4 at *
      simp only [List.set] at KH
      refine wpAnyC_leaf (by kernel_rfl) (regrown_of_below HX.out) (OneOut.mk ⟨bL, bH, rfl, ?_⟩)
      exact ⟨Nat.le_trans HB.out.size hL, Nat.le_trans HB.out.size hH, eLH, Nat.ne_of_gt (Nat.lt_of_lt_of_le KV.out.lt hL), Nat.ne_of_gt (Nat.lt_of_lt_of_le KQ.out.lt hL), Nat.ne_of_gt (Nat.lt_of_lt_of_le KX.out.lt hL), Nat.ne_of_gt (Nat.lt_of_lt_of_le KV.out.lt hH), Nat.ne_of_gt (Nat.lt_of_lt_of_le KQ.out.lt hH), Nat.ne_of_gt (Nat.lt_of_lt_of_le KX.out.lt hH), Lib.hid (HB.out.trans (HX.out.mono HB.out.size)), KL, KH, Lib.hid (KV.out.below HX.out), Lib.hid (KQ.out.below HX.out), Lib.hid (KX.out.below HX.out)⟩
  clear gX_0 gX_1 gX_2 gX_3
  rintro bL bH w30 ⟨nL, nH, neL_H, neL_V, neL_Q, neL_X, neH_V, neH_Q, neH_X, HB2, KL, KH, KV2, KQ2, KX2⟩
  replace HB := HB2
  clear HB2
  replace KV := KV2
  clear KV2
  replace KQ := KQ2
  clear KQ2
  replace KX := KX2
  clear KX2
  have yV := KV.out
  have yV_0 := yV.c 0 _ rfl
  have yV_1 := yV.c 1 _ rfl
  have yV_z := yV.lt
  clear yV
  have yQ := KQ.out
  have yQ_0 := yQ.c 0 _ rfl
  have yQ_1 := yQ.c 1 _ rfl
  have yQ_z := yQ.lt
  clear yQ
  have yL := KL.out
  have yL_0 := yL.c 0 _ rfl
  have yL_1 := yL.c 1 _ rfl
  have yL_z := yL.lt
  clear yL
  go_wp2_with fail
  refine (A0.out _).mono ?_
  rintro e31 w31 ⟨rfl, hb31⟩
  replace HB := Lib.hid (HB.out.trans (hb31.mono HB.out.size))
  replace KV := Lib.hid (KV.out.below hb31)
  replace KQ := Lib.hid (KQ.out.below hb31)
  replace KX := Lib.hid (KX.out.below hb31)
  replace KL := Lib.hid (KL.out.below hb31)
  replace KH := Lib.hid (KH.out.below hb31)
  clear yV_0 yV_1 yV_z yQ_0 yQ_1 yQ_z yL_0 yL_1 yL_z
  clear hb31
  have yV := KV.out
  have yV_0 := yV.c 0 _ rfl
  have yV_1 := yV.c 1 _ rfl
  have yV_z := yV.lt
  clear yV
  have yQ := KQ.out
  have yQ_0 := yQ.c 0 _ rfl
  have yQ_1 := yQ.c 1 _ rfl
  have yQ_z := yQ.lt
  clear yQ
  have yL := KL.out
  have yL_0 := yL.c 0 _ rfl
  have yL_1 := yL.c 1 _ rfl
  have yL_z := yL.lt
  clear yL
  have yH := KH.out
  have yH_0 := yH.c 0 _ rfl
  have yH_1 := yH.c 1 _ rfl
  have yH_z := yH.lt
  clear yH
  go_wp2_with fail
  refine (A1.out _).mono ?_
  rintro e32 w32 ⟨rfl, hb32⟩
  replace HB := Lib.hid (HB.out.trans (hb32.mono HB.out.size))
  replace KV := Lib.hid (KV.out.below hb32)
  replace KQ := Lib.hid (KQ.out.below hb32)
  replace KX := Lib.hid (KX.out.below hb32)
  replace KL := Lib.hid (KL.out.below hb32)
  replace KH := Lib.hid (KH.out.below hb32)
  clear yV_0 yV_1 yV_z yQ_0 yQ_1 yQ_z yL_0 yL_1 yL_z yH_0 yH_1 yH_z
  clear hb32
  rcases pf with ⟨h1, h2⟩ | ⟨h1, h2, h3⟩ | ⟨h1, h2, h3, h4 | ⟨h4, h5⟩ | ⟨h4, h5, h6, h7⟩⟩
  · have g1 : (e != 0) = true := by simpa using h1
    have g2 : (a == 0) = true := by simpa using h2
    clear h1 h2 A2 A3
    go_wp2
    go_ret
    exact ⟨by first | rfl | simp_all, HB.out⟩
  · have g1 : (e != 0) = false := by simpa using h1
    have g2 : (f != 0) = true := by simpa using h2
    have g3 : (b == 0) = true := by simpa using h3
    clear h1 h2 h3 A2 A3
    cases ga : (a == 0)
    all_goals
      go_wp2
      go_ret
      exact ⟨by first | rfl | simp_all, HB.out⟩
  · have g1 : (e != 0) = false := by simpa using h1
    have g2 : (f != 0) = false := by simpa using h2
    have g3 : decide (b < a) = false := by simpa using h3
    have g4 : (g != 0) = true := by simpa using h4
    clear h1 h2 h3 h4
    have yV := KV.out
    have yV_0 := yV.c 0 _ rfl
    have yV_1 := yV.c 1 _ rfl
    have yV_z := yV.lt
    clear yV
    have yL := KL.out
    have yL_0 := yL.c 0 _ rfl
    have yL_1 := yL.c 1 _ rfl
    have yL_z := yL.lt
    clear yL
    go_wp2_with fail
    refine (A2.out _).mono ?_
    rintro e33 w33 ⟨rfl, hb33⟩
    replace HB := Lib.hid (HB.out.trans (hb33.mono HB.out.size))
    replace KV := Lib.hid (KV.out.below hb33)
    replace KQ := Lib.hid (KQ.out.below hb33)
    replace KX := Lib.hid (KX.out.below hb33)
    replace KL := Lib.hid (KL.out.below hb33)
    replace KH := Lib.hid (KH.out.below hb33)
    clear yV_0 yV_1 yV_z yL_0 yL_1 yL_z
    clear hb33
    have yV := KV.out
    have yV_0 := yV.c 0 _ rfl
    have yV_1 := yV.c 1 _ rfl
    have yV_z := yV.lt
    clear yV
    have yH := KH.out
    have yH_0 := yH.c 0 _ rfl
    have yH_1 := yH.c 1 _ rfl
    have yH_z := yH.lt
    clear yH
    go_wp2_with fail
    refine (A3.out _).mono ?_
    rintro e34 w34 ⟨rfl, hb34⟩
    replace HB := Lib.hid (HB.out.trans (hb34.mono HB.out.size))
    replace KV := Lib.hid (KV.out.below hb34)
    replace KQ := Lib.hid (KQ.out.below hb34)
    replace KX := Lib.hid (KX.out.below hb34)
    replace KL := Lib.hid (KL.out.below hb34)
    replace KH := Lib.hid (KH.out.below hb34)
    clear yV_0 yV_1 yV_z yH_0 yH_1 yH_z
    clear hb34
    go_wp2
    go_ret
    exact ⟨by first | rfl | simp_all, HB.out⟩
  · have g1 : (e != 0) = false := by simpa using h1
    have g2 : (f != 0) = false := by simpa using h2
    have g3 : decide (b < a) = false := by simpa using h3
    have g4 : (g != 0) = false := by simpa using h4
    have g5 : (h != 0) = true := by simpa using h5
    clear h1 h2 h3 h4 h5
    have yV := KV.out
    have yV_0 := yV.c 0 _ rfl
    have yV_1 := yV.c 1 _ rfl
    have yV_z := yV.lt
    clear yV
    have yL := KL.out
    have yL_0 := yL.c 0 _ rfl
    have yL_1 := yL.c 1 _ rfl
    have yL_z := yL.lt
    clear yL
    go_wp2_with fail
    refine (A2.out _).mono ?_
    rintro e33 w33 ⟨rfl, hb33⟩
    replace HB := Lib.hid (HB.out.trans (hb33.mono HB.out.size))
    replace KV := Lib.hid (KV.out.below hb33)
    replace KQ := Lib.hid (KQ.out.below hb33)
    replace KX := Lib.hid (KX.out.below hb33)
    replace KL := Lib.hid (KL.out.below hb33)
    replace KH := Lib.hid (KH.out.below hb33)
    clear yV_0 yV_1 yV_z yL_0 yL_1 yL_z
    clear hb33
    have yV := KV.out
    have yV_0 := yV.c 0 _ rfl
    have yV_1 := yV.c 1 _ rfl
    have yV_z := yV.lt
    clear yV
    have yH := KH.out
    have yH_0 := yH.c 0 _ rfl
    have yH_1 := yH.c 1 _ rfl
    have yH_z := yH.lt
    clear yH
    go_wp2_with fail
    refine (A3.out _).mono ?_
    rintro e34 w34 ⟨rfl, hb34⟩
    replace HB := Lib.hid (HB.out.trans (hb34.mono HB.out.size))
    replace KV := Lib.hid (KV.out.below hb34)
    replace KQ := Lib.hid (KQ.out.below hb34)
    replace KX := Lib.hid (KX.out.below hb34)
    replace KL := Lib.hid (KL.out.below hb34)
    replace KH := Lib.hid (KH.out.below hb34)
    clear yV_0 yV_1 yV_z yH_0 yH_1 yH_z
    clear hb34
    go_wp2
    go_ret
    exact ⟨by first | rfl | simp_all, HB.out⟩
  · have g1 : (e != 0) = false := by simpa using h1
    have g2 : (f != 0) = false := by simpa using h2
    have g3 : decide (b < a) = false := by simpa using h3
    have g4 : (g != 0) = false := by simpa using h4
    have g5 : (h != 0) = false := by simpa using h5
    have g6 : decide (c ≤ d) = true := by simpa using h6
    have g7 : decide (a ≤ c) = true := by simpa using h7
    clear h1 h2 h3 h4 h5 h6 h7
    have yV := KV.out
    have yV_0 := yV.c 0 _ rfl
    have yV_1 := yV.c 1 _ rfl
    have yV_z := yV.lt
    clear yV
    have yL := KL.out
    have yL_0 := yL.c 0 _ rfl
    have yL_1 := yL.c 1 _ rfl
    have yL_z := yL.lt
    clear yL
    go_wp2_with fail
    refine (A2.out _).mono ?_
    rintro e33 w33 ⟨rfl, hb33⟩
    replace HB := Lib.hid (HB.out.trans (hb33.mono HB.out.size))
    replace KV := Lib.hid (KV.out.below hb33)
    replace KQ := Lib.hid (KQ.out.below hb33)
    replace KX := Lib.hid (KX.out.below hb33)
    replace KL := Lib.hid (KL.out.below hb33)
    replace KH := Lib.hid (KH.out.below hb33)
    clear yV_0 yV_1 yV_z yL_0 yL_1 yL_z
    clear hb33
    have yV := KV.out
    have yV_0 := yV.c 0 _ rfl
    have yV_1 := yV.c 1 _ rfl
    have yV_z := yV.lt
    clear yV
    have yH := KH.out
    have yH_0 := yH.c 0 _ rfl
    have yH_1 := yH.c 1 _ rfl
    have yH_z := yH.lt
    clear yH
    go_wp2_with fail
    refine (A3.out _).mono ?_
    rintro e34 w34 ⟨rfl, hb34⟩
    replace HB := Lib.hid (HB.out.trans (hb34.mono HB.out.size))
    replace KV := Lib.hid (KV.out.below hb34)
    replace KQ := Lib.hid (KQ.out.below hb34)
    replace KX := Lib.hid (KX.out.below hb34)
    replace KL := Lib.hid (KL.out.below hb34)
    replace KH := Lib.hid (KH.out.below hb34)
    clear yV_0 yV_1 yV_z yH_0 yH_1 yH_z
    clear hb34
    go_wp2
    go_ret
    exact ⟨by first | rfl | simp_all, HB.out⟩

/-! ### the row's step -/
set_option maxRecDepth 100000 in
theorem contract (H : Type) (enc : TypeId × Value → H) (W : World) (base : Nat) (args : Array Value) (ds gs : List (DataW H)) (before : List MemPlace)
    (hval : ∀ (j : Nat) t v, Tryd.f8.params[j]? = some t → args[j]? = some v → Value.okWide Tryd.prog W .any base t v)
    (hW : DataW.Whole enc Tryd.prog Tryd.f8.params.toList Rows.airspeedRisesSpec.vars false W args.toList ds gs before) (hL : laidMetH Tryd.prog Rows.airspeedRisesRow.laid W) (hsh : W.ShapedOpen Tryd.prog) :
    Calls Tryd.prog 8 args W fun e W' => ∃ v, e = .returned v ∧ Rows.airspeedRisesSpec.post enc Tryd.prog Tryd.f8 false true false false W args v W' := by
  have hW' := hW
  obtain ⟨p, q, hA0, hV, rfl, hfz, hnd⟩ := hW
  have hA : DataW.TrodAll enc Tryd.prog W 0 (fun _ => true) true Tryd.f8.params.toList args.toList ds p := hA0
  rw [Tryd.params8] at hA hval
  obtain ⟨v0, vs0, d0, ds0, p0, q0, hargs, rfl, rfl, h0, r0⟩ := trodAll_cons hA
  obtain ⟨v1, vs1, d1, ds1, p1, q1, rfl, rfl, rfl, h1, r1⟩ := trodAll_cons r0
  obtain ⟨v2, vs2, d2, ds2, p2, q2, rfl, rfl, rfl, h2, r2⟩ := trodAll_cons r1
  obtain ⟨rfl, rfl, rfl⟩ := trodAll_nil r2
  obtain rfl : args = #[v0, v1, v2] := by cases args; simp_all
  obtain ⟨rfl, rfl⟩ := trodVars_none hV
  obtain ⟨x0_0, x0_1, rfl, rfl, rfl, w0_0, w0_1⟩ := open_ints2 (hval 0 30 v0 rfl rfl) h0
  obtain ⟨x1_0, x1_1, rfl, rfl, rfl, w1_0, w1_1⟩ := open_ints2 (hval 1 30 v1 rfl rfl) h1
  obtain ⟨x2_0, x2_1, x2_2, x2_3, rfl, rfl, rfl, w2_0, w2_1, w2_2, w2_3⟩ := open_airs2 (hval 2 31 v2 rfl rfl) h2
  clear hA0
  simp only [List.append_nil] at hW'
  refine (walk x0_0 x0_1 x1_0 x1_1 x2_0 x2_1 x2_2 x2_3 (bd64 w0_0).1 (bd64 w0_0).2 (bd64 w0_1).1 (bd64 w0_1).2 (bd64 w1_0).1 (bd64 w1_0).2 (bd64 w1_1).1 (bd64 w1_1).2 (bd64 w2_0).1 (bd64 w2_0).2 (bd64 w2_1).1 (bd64 w2_1).2 (bd64 w2_2).1 (bd64 w2_2).2 (bd64 w2_3).1 (bd64 w2_3).2 W (env_of hL hsh)).mono fun e W' ⟨he, hb⟩ => ?_
  subst he
  exact ⟨_, rfl, post_of_below (pa := []) (pv := []) hW' (fun _ _ _ => trodAll_cons_mk (shut_bool Tryd.underlying4 _) trodAll_mk0) (fun sp _ => (trodAll_cons_mk (shut_ints2 w0_0 w0_1) (trodAll_cons_mk (shut_ints2 w1_0 w1_1) (trodAll_cons_mk (shut_airs2 w2_0 w2_1 w2_2 w2_3) trodAll_mk0)))) (fun _ _ => rfl) rfl
    hb (ok_one (by kernel_rfl) rfl (okWide_bool_mk Tryd.underlying4 _))⟩

theorem reads (os : Os) {H : Type} (enc : TypeId × Value → H) : ∃ places, DataW.whole enc Tryd.prog ((laidWorld os).forCall (fun _ _ => 0) ⟨#[], #[.agg #[.int .i64 0, .int .i64 0], .agg #[.int .i64 0, .int .i64 0], .agg #[.int .i64 0, .int .i64 0, .int .i64 0, .int .i64 0]], []⟩).memory Tryd.f8.params.toList Rows.airspeedRisesSpec.vars false (#[.agg #[.int .i64 0, .int .i64 0], .agg #[.int .i64 0, .int .i64 0], .agg #[.int .i64 0, .int .i64 0, .int .i64 0, .int .i64 0]] : Array Value).toList 8 = some ([.agg [.lit (.int .i64 0), .lit (.int .i64 0)], .agg [.lit (.int .i64 0), .lit (.int .i64 0)], .agg [.agg [.lit (.int .i64 0), .lit (.int .i64 0)], .agg [.lit (.int .i64 0), .lit (.int .i64 0)]]], [], places) :=
  ⟨[], by kernel_rfl⟩

set_option maxRecDepth 100000 in
theorem lifted (os : Os) (started : os.Started) (H : Type) (enc : TypeId × Value → H) (F : Stop.Interp) :
    ReturnsInHanded {} Tryd.checked os 8 .any ((OpenSpec.ofChange Rows.airspeedRisesSpec).preRow enc Tryd.prog Tryd.f8 Rows.airspeedRisesRow.domain false Rows.airspeedRisesRow.laid) (((OpenSpec.ofChange Rows.airspeedRisesSpec).at F).post enc Tryd.prog Tryd.f8 false true false false) := by
  obtain ⟨places, hx⟩ := reads os enc
  refine returnsInHanded_of_row (C := Tryd.checked) (s := OpenSpec.ofChange Rows.airspeedRisesSpec) own started (by kernel_rfl) Tryd.func8
    (witness_row_at (enc := enc) (C := Tryd.checked) false (laidWorld os) #[.agg #[.int .i64 0, .int .i64 0], .agg #[.int .i64 0, .int .i64 0], .agg #[.int .i64 0, .int .i64 0, .int .i64 0, .int .i64 0]] rfl (by kernel_rfl) (by kernel_rfl) (by kernel_rfl)
      (OpenSpec.preRow_of_cond 8 hx (by kernel_rfl) (fun k hk => by cases hk) (by kernel_rfl) (laid_met_any os _))) ?_
  intro W base args ds gs before hval hW _ _ _ hL hsh _
  exact contract H enc W base args ds gs before hval hW hL hsh

theorem said : Rows.AirspeedRisesSaid :=
  OpenClaim.holds_of_cond 8 Tryd.f8 rfl rfl rfl rfl rfl rfl rfl ⟨rfl, rfl, rfl, rfl, rfl⟩ rfl rfl rfl rfl rfl (by kernel_rfl) Tryd.func8 (by kernel_rfl)
    (of_decide_eq_true (by kernel_rfl)) (by unfold Func.isWrapper; first | (rw [if_pos (by decide +kernel)]; kernel_rfl) | (rw [if_neg (by decide +kernel)]; exact ⟨rfl, rfl⟩))
    (fun os started H enc _ F => by rw [OpenClaim.pre_eq_preRow]; exact lifted os started H enc F)

theorem plain (f : FuncId) (fn : Func) (hf : Tryd.pinned.checked.prog.funcNamed "flightdeck/flightdecklaw30.AirspeedRises" = some f) (hfn : Tryd.pinned.checked.prog.funcs[f]? = some fn) :
    false = Tryd.pinned.checked.prog.looks [] ∧ ∀ (j : Nat) t, fn.params[j]? = some t → Tryd.pinned.checked.prog.wantsStandIn t = false := by
  obtain rfl : f = 8 := Option.some.inj ((show Tryd.prog.funcNamed "flightdeck/flightdecklaw30.AirspeedRises" = some 8 by kernel_rfl).symm.trans hf) |>.symm
  obtain rfl : fn = Tryd.f8 := (Option.some.inj (Tryd.func8.symm.trans hfn)).symm
  refine ⟨by kernel_rfl, fun j t ht => ?_⟩
  rw [Tryd.params8] at ht
  have hm := Array.mem_of_getElem? ht
  simp only [List.mem_toArray, List.mem_cons, List.not_mem_nil, or_false] at hm
  rcases hm with rfl | rfl | rfl
  · exact (show Tryd.prog.wantsStandIn 30 = false by kernel_rfl)
  · exact (show Tryd.prog.wantsStandIn 30 = false by kernel_rfl)
  · exact (show Tryd.prog.wantsStandIn 31 = false by kernel_rfl)
/-- the law -/
theorem card : Rows.AirspeedRisesCardSaid :=
  Claim7.holds_tied_plain_at .later [] _ _ _ _ said (fun _ h => by cases h) (by kernel_rfl) (fun _ h => by cases h) airspeedRises_row_tie rfl ⟨rfl, rfl⟩ (by kernel_rfl) rfl plain (by kernel_rfl)
end Go.Proofs.YtnaokohffelklaaDoor.airspeedRises
