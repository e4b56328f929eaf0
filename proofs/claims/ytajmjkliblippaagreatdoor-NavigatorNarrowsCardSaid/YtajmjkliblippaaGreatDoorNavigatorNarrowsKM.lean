/-
  The walk of the law NavigatorNarrows.
-/
import Derived.Test.YtajmjkliblippaaGreatDoorAwake46M
import Derived.Test.YtajmjkliblippaaGreatDoorSafe46M
import Derived.Deep.DeepCutAuto
namespace Go.Proofs.YtajmjkliblippaaGreatDoor.navigatorNarrows
set_option linter.unusedVariables false
open Go.ChangeShapes Go.WideShapes Go.ChangeAt Go.RowKit

set_option maxHeartbeats 40000000 in
set_option maxRecDepth 100000 in
theorem walk (cx cy x y t m tk : Int) (v : Value) (ve vn dr rq : Int) (L : List Rp) (w : World) (hE : Env w) (h : RlG L v w) (hK : ∀ i, i < L.length → 0 ≤ (nthR L i).k ∧ (nthR L i).k ≤ 255) :
    Calls Tryz.prog 7 #[.agg #[.int .i64 cx, .int .i64 cy, .int .i64 x, .int .i64 y, .int .i64 t, .int .i64 m], .agg #[.int .i64 tk, v, .int .i64 ve, .int .i64 vn, .int .i64 dr, .int .i64 rq]] w fun e w' => e = .returned (.bool true) ∧ Below w.heap.size w w' := by
  have HE := Lib.hid hE
  have RL0 := Lib.hid h
  have KK0 := kd_take 10 hK
  have TL0 : (L.take 10).length ≤ 10 := by rw [List.length_take]; omega
  obtain ⟨T, hT⟩ : ∃ z, L.take 10 = z := ⟨_, rfl⟩
  rw [hT] at KK0 TL0
  have KK := Lib.hid KK0
  have TL := Lib.hid TL0
  have HTK := Lib.hid hT
  clear KK0 TL0 hT hE h hK
  obtain ⟨KS, KI, HB⟩ := ent2 w #[.int .i64 cx, .int .i64 cy, .int .i64 x, .int .i64 y, .int .i64 t, .int .i64 m] 27 #[.int .i64 tk, v, .int .i64 ve, .int .i64 vn, .int .i64 dr, .int .i64 rq] 38
  go_enter Tryz.func7, Tryz.ntmps7
  go_wp2_with fail
  generalize (w.alloc (.cells #[.int .i64 cx, .int .i64 cy, .int .i64 x, .int .i64 y, .int .i64 t, .int .i64 m] 27)).alloc (.cells #[.int .i64 tk, v, .int .i64 ve, .int .i64 vn, .int .i64 dr, .int .i64 rq] 38) = w0 at *
  refine (awake_any _ (HE.out.below HB.out)).mono ?_
  rintro e1 w1 ⟨rfl, hb1⟩
  replace HB := hT HB hb1
  replace KS := hK KS hb1
  replace KI := hK KI hb1
  clear hb1
  obtain ⟨yI_0, yI_1, yI_2, yI_3, yI_4, yI_5, yI_z⟩ := blk6 KI
  go_wp2_with fail
  refine (cut_any tk ve vn dr rq L v _ (RL0.out.below HB.out)).mono ?_
  rintro e2 w2 ⟨⟨v1, rfl, hr⟩, hb2⟩
  have hr := hr w RL0.out
  rw [HTK.out] at hr
  obtain ⟨p1, c1, rfl⟩ := rg_form hr
  have RL := Lib.hid hr
  clear hr
  replace HB := hT HB hb2
  replace KS := hK KS hb2
  replace KI := hK KI hb2
  clear yI_0 yI_1 yI_2 yI_3 yI_4 yI_5 yI_z
  clear hb2
  obtain ⟨yI_0, yI_1, yI_2, yI_3, yI_4, yI_5, yI_z, yI_f0, yI_f1, yI_f2, yI_f3, yI_f4, yI_f5⟩ := blf6 KI
  go_upto_region 4 with (fail)
  have hs := st6 w2 (w.heap.size + 1) 0 (.int .i64 tk) 1 (.slice p1 T.length c1) 2 (.int .i64 ve) 3 (.int .i64 vn) 4 (.int .i64 dr) 5 (.int .i64 rq)
  replace KS := oB hs KS (by omega)
  replace KI := Lib.hid (blk_set (blk_set (blk_set (blk_set (blk_set (blk_set KI.out (j := 0) (by simp) (.int .i64 tk)) (j := 1) (by simp) (.slice p1 T.length c1)) (j := 2) (by simp) (.int .i64 ve)) (j := 3) (by simp) (.int .i64 vn)) (j := 4) (by simp) (.int .i64 dr)) (j := 5) (by simp) (.int .i64 rq))
  replace HB := oH hs HB (by omega)
  clear hs
  clear yI_0 yI_1 yI_2 yI_3 yI_4 yI_5 yI_z yI_f0 yI_f1 yI_f2 yI_f3 yI_f4 yI_f5
  generalize (((((w2.setCell ⟨(w.heap.size + 1), 0, none⟩ (.int .i64 tk)).setCell ⟨(w.heap.size + 1), 1, none⟩ (.slice p1 T.length c1)).setCell ⟨(w.heap.size + 1), 2, none⟩ (.int .i64 ve)).setCell ⟨(w.heap.size + 1), 3, none⟩ (.int .i64 vn)).setCell ⟨(w.heap.size + 1), 4, none⟩ (.int .i64 dr)).setCell ⟨(w.heap.size + 1), 5, none⟩ (.int .i64 rq) = w3 at *
  simp only [List.set] at KI
  obtain ⟨yS_0, yS_1, yS_2, yS_3, yS_4, yS_5, yS_z⟩ := blk6 KS
  obtain ⟨yI_0, yI_1, yI_2, yI_3, yI_4, yI_5, yI_z⟩ := blk6 KI
  by_cases he : stpE2 ⟨cx, cy, x, y⟩ t m tk ve vn dr rq T.length = 0
  · obtain ⟨⟨t0, t1, t2⟩, ⟨m0, m1⟩, ⟨r0, r1⟩, rng, mv, hcst, nv, l1, l2, leq⟩ := stp_facts he
    have SG := fun w h => step_okR ⟨cx, cy, x, y⟩ t m tk ve vn dr rq T (.slice p1 T.length c1) w h KK.out he
    have CO := Lib.hid fun w => coast_any ⟨cx, cy, x, y⟩ ve vn dr (tk - t) w
    rw [hcst] at CO
    have sw : IntKind.i64.wrap (tk - t) = tk - t := IntWalk.i64_in _ (by omega)
    clear hcst he
    generalize movB ⟨cx, cy, x, y⟩ ve vn dr (tk - t) = cb at *
    obtain ⟨c'x, c'y, c'1, c'2⟩ := cb
    generalize stpC ⟨cx, cy, x, y⟩ t m tk ve vn dr T = cy at *
    obtain ⟨⟨nx, ny, n1, n2⟩, ms, ex⟩ := cy
    simp only [Bx4.mk.injEq] at SG CO nv l1 l2 leq mv
    obtain ⟨us, hus⟩ : ∃ z, useB n1 n2 rq = z := ⟨_, rfl⟩
    rw [hus] at SG
    have SG := Lib.hid SG
    clear rng mv m0 m1 t0 t1 t2
    go_wp2_with fail
    refine (SG.out _ (RL.out.below HB.out)).mono ?_
    rintro e4 w4 ⟨rfl, hb4⟩
    replace HB := hT HB hb4
    replace KS := hK KS hb4
    replace KI := hK KI hb4
    clear yS_0 yS_1 yS_2 yS_3 yS_4 yS_5 yS_z yI_0 yI_1 yI_2 yI_3 yI_4 yI_5 yI_z
    clear hb4
    clear SG
    go_upto_region 5 with (fail)
    have KN := Lib.hid ((Blk.of (vs := #[.int .i64 nx, .int .i64 ny, .int .i64 n1, .int .i64 n2, .int .i64 tk, .int .i64 ms]) (t := 27) (w := w4) (b := w4.heap.size) rfl).alloc (.cells #[.int .i64 nx, .int .i64 ny, .int .i64 n1, .int .i64 n2, .bool us, .int .i64 ex] 41))
    have KE := Lib.hid (Blk.of (vs := #[.int .i64 nx, .int .i64 ny, .int .i64 n1, .int .i64 n2, .bool us, .int .i64 ex]) (t := 41) (w := w4.alloc (.cells #[.int .i64 nx, .int .i64 ny, .int .i64 n1, .int .i64 n2, .int .i64 tk, .int .i64 ms] 27)) (b := w4.heap.size + 1) (by simp))
    have hb5 : Below w4.heap.size w4 ((w4.alloc (.cells #[.int .i64 nx, .int .i64 ny, .int .i64 n1, .int .i64 n2, .int .i64 tk, .int .i64 ms] 27)).alloc (.cells #[.int .i64 nx, .int .i64 ny, .int .i64 n1, .int .i64 n2, .bool us, .int .i64 ex] 41)) := ((Below.refl _ _).alloc (Nat.le_refl _) _).alloc (by simp) _
    have hnN := HB.out.size
    have nzN_S := KS.out.lt
    have nzN_I := KI.out.lt
    replace HB := hT HB hb5
    replace KS := hK KS hb5
    replace KI := hK KI hb5
    clear hb5
    generalize (w4.alloc (.cells #[.int .i64 nx, .int .i64 ny, .int .i64 n1, .int .i64 n2, .int .i64 tk, .int .i64 ms] 27)).alloc (.cells #[.int .i64 nx, .int .i64 ny, .int .i64 n1, .int .i64 n2, .bool us, .int .i64 ex] 41) = w5 at *
    generalize w4.heap.size = bN at *
    have neN_S : bN ≠ w.heap.size := by omega
    have neE_S : bN + 1 ≠ w.heap.size := by omega
    have neN_I : bN ≠ (w.heap.size + 1) := by omega
    have neE_I : bN + 1 ≠ (w.heap.size + 1) := by omega
    clear nzN_S nzN_I
    obtain ⟨yS_0, yS_1, yS_2, yS_3, yS_4, yS_5, yS_z⟩ := blk6 KS
    obtain ⟨yI_0, yI_1, yI_2, yI_3, yI_4, yI_5, yI_z⟩ := blk6 KI
    go_wp2_with fail
    refine (CO.out _).mono ?_
    rintro e6 w6 ⟨rfl, hb6⟩
    replace HB := hT HB hb6
    replace KS := hK KS hb6
    replace KI := hK KI hb6
    replace KN := hK KN hb6
    replace KE := hK KE hb6
    clear yS_0 yS_1 yS_2 yS_3 yS_4 yS_5 yS_z yI_0 yI_1 yI_2 yI_3 yI_4 yI_5 yI_z
    clear hb6
    clear CO
    go_upto_region 8 with (fail)
    obtain ⟨KD, hb7⟩ := alB w6 #[.int .i64 (c'x), .int .i64 (c'y), .int .i64 (c'1), .int .i64 (c'2)] 25
    have hnD := HB.out.size
    have nzD_S := KS.out.lt
    have nzD_I := KI.out.lt
    have nzD_N := KN.out.lt
    have nzD_E := KE.out.lt
    replace HB := hT HB hb7
    replace KS := hK KS hb7
    replace KI := hK KI hb7
    replace KN := hK KN hb7
    replace KE := hK KE hb7
    clear hb7
    generalize w6.alloc (.cells #[.int .i64 (c'x), .int .i64 (c'y), .int .i64 (c'1), .int .i64 (c'2)] 25) = w7 at *
    generalize w6.heap.size = bD at *
    have neD_S : bD ≠ w.heap.size := by omega
    have neD_I : bD ≠ (w.heap.size + 1) := by omega
    have neD_N : bD ≠ bN := by omega
    have neD_E : bD ≠ (bN + 1) := by omega
    clear nzD_S nzD_I nzD_N nzD_E
    have g1 : decide (c'1 < n1) = false := by simp; omega
    have g2 : decide (c'2 < n2) = false := by simp; omega
    clear l1 l2
    obtain ⟨yN_0, yN_1, yN_2, yN_3, yN_4, yN_5, yN_z⟩ := blk6 KN
    obtain ⟨yD_0, yD_1, yD_2, yD_3, yD_z⟩ := blk4 KD
    go_cut [69] (fun s69 wx => wx = w7 ∧ s69 = .bool false)
    case first =>
      by_cases hm : ms = 0
      · have g3 : (ms != 0) = false := by simpa using hm
        clear hm leq
        go_wp2_with fail
        go_meet
        exact ⟨rfl, rfl⟩
      · have g3 : (ms != 0) = true := by simpa using hm
        obtain ⟨q1, q2, q3, q4⟩ := leq hm
        subst q1 q2 q3 q4
        clear hm
        go_wp2_with fail
        go_meet
        exact ⟨rfl, rfl⟩
    case rest =>
      clear yN_0 yN_1 yN_2 yN_3 yN_4 yN_5 yN_z yD_0 yD_1 yD_2 yD_3 yD_z
      obtain ⟨hwc, hs⟩ := hcut
      subst hwc
      subst hs
      go_upto_if 69 with (fail)
      go_upto_region 10 with (fail)
      have WI := Lib.hid fun w => wit_any ⟨nx, ny, n1, n2⟩ rq w
      have UU := Lib.hid fun w => usable_any nx ny n1 n2 ex rq us w
      rw [show witF ⟨nx, ny, n1, n2⟩ rq = us by unfold witF; rw [nv, Bool.true_and]; exact hus] at WI
      rw [show useB n1 n2 rq = us from hus] at UU
      simp only at WI
      clear hus nv
      have gN_0 := fun d os => cell_regrown (KN.out.c 0 _ rfl) d os
      have gN_1 := fun d os => cell_regrown (KN.out.c 1 _ rfl) d os
      have gN_2 := fun d os => cell_regrown (KN.out.c 2 _ rfl) d os
      have gN_3 := fun d os => cell_regrown (KN.out.c 3 _ rfl) d os
      have gE_0 := fun d os => cell_regrown (KE.out.c 0 _ rfl) d os
      have gE_1 := fun d os => cell_regrown (KE.out.c 1 _ rfl) d os
      have gE_2 := fun d os => cell_regrown (KE.out.c 2 _ rfl) d os
      have gE_3 := fun d os => cell_regrown (KE.out.c 3 _ rfl) d os
      have gE_4 := fun d os => cell_regrown (KE.out.c 4 _ rfl) d os
      have gE_5 := fun d os => cell_regrown (KE.out.c 5 _ rfl) d os
      have gI_5 := fun d os => cell_regrown (KI.out.c 5 _ rfl) d os
      have rv0 := Lib.hid (fun d os => Calls.regrown_of (WI.out (Go.Sort.grow (redrawn wc d) os)))
      have rv1 := Lib.hid (fun d os => Calls.regrown_of (UU.out (Go.Sort.grow (redrawn wc d) os)))
      refine wp_region_quiet_below (by kernel_rfl) (by kernel_rfl) ?_
      generalize hact : Act.mk _ _ = act
      repeat (refine wpQuiet_step (fun K hK => ?_); subst hact; go_simp; (first | (generalize hact : Act.mk _ _ = act; refine hK act ?_; clear hK K) | (apply Exists.intro; refine ⟨fun _ => ?_, ?_⟩; (with_reducible exact rv0.out _ _); generalize hact : Act.mk _ _ = act; refine hK act ?_; clear hK K) | (apply Exists.intro; refine ⟨fun _ => ?_, ?_⟩; (with_reducible exact rv1.out _ _); generalize hact : Act.mk _ _ = act; refine hK act ?_; clear hK K) | (rw [if_neg (by decide)]; go_simp; generalize hact : Act.mk _ _ = act; refine hK act ?_; clear hK K)))
      refine wpQuiet_nil ?_
      subst hact
      intro w8 hw8
      have hb8 : Below wc.heap.size wc w8 := by
        obtain ⟨⟨dq, osq⟩, hw2⟩ := hw8
        rw [hw2]; exact below_regrown _ dq osq
      clear hw8 gN_0 gN_1 gN_2 gN_3 gE_0 gE_1 gE_2 gE_3 gE_4 gE_5 gI_5 rv0 rv1
      replace HB := hT HB hb8
      replace KS := hK KS hb8
      replace KI := hK KI hb8
      replace KN := hK KN hb8
      replace KE := hK KE hb8
      replace KD := hK KD hb8
      clear hb8
      go_wp2
      go_ret
      exact ⟨rfl, HB.out⟩
  · have SB := Lib.hid fun w h => step_badR ⟨cx, cy, x, y⟩ t m tk ve vn dr rq T (.slice p1 T.length c1) w h (by have := TL.out; omega) he
    have ge : (stpE2 ⟨cx, cy, x, y⟩ t m tk ve vn dr rq T.length != 0) = true := by simpa using he
    clear he
    generalize stpE2 ⟨cx, cy, x, y⟩ t m tk ve vn dr rq T.length = e at *
    go_wp2_with fail
    refine (SB.out _ (RL.out.below HB.out)).mono ?_
    rintro e4 w4 ⟨rfl, hb4⟩
    replace HB := hT HB hb4
    replace KS := hK KS hb4
    replace KI := hK KI hb4
    clear yS_0 yS_1 yS_2 yS_3 yS_4 yS_5 yS_z yI_0 yI_1 yI_2 yI_3 yI_4 yI_5 yI_z
    clear hb4
    go_wp2
    go_ret
    exact ⟨rfl, (HB.out.alloc HB.out.size _).alloc (by have := HB.out.size; simp; omega) _⟩
end Go.Proofs.YtajmjkliblippaaGreatDoor.navigatorNarrows
