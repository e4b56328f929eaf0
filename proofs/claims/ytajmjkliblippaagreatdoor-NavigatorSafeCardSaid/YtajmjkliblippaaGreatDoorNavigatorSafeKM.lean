/-
  The walk of the law NavigatorSafe.
-/
import Derived.Test.YtajmjkliblippaaGreatDoorAwake46M
import Derived.Test.YtajmjkliblippaaGreatDoorHon46M
namespace Go.Proofs.YtajmjkliblippaaGreatDoor.navigatorSafe
set_option linter.unusedVariables false
open Go.ChangeShapes Go.WideShapes Go.ChangeAt Go.RowKit

theorem max4 (w : World) (ts : Array TypeId) (t : TypeId) (x y z u : Int) : (Builtin.max_ ts t #[.int .i64 x, .int .i64 y, .int .i64 z, .int .i64 u]).run Tryz.prog w = .ok (.int .i64 (max (max (max x y) z) u)) w := by
  have hm : ∀ p q : Int, (if p < q then q else p) = max p q := by intro p q; split <;> omega
  simp [Builtin.max_, Builtin.max2, hm]
set_option maxHeartbeats 40000000 in
set_option maxRecDepth 100000 in
theorem walk (cx cy x y t m tk : Int) (v : Value) (ve vn dr rq : Int) (L : List Rp) (px py qx qy fa : Int) (w : World) (hE : Env w) (h : RlG L v w) (hK : ∀ i, i < L.length → 0 ≤ (nthR L i).k ∧ (nthR L i).k ≤ 255) (_b0 : -9223372036854775808 ≤ px) (_c0 : px ≤ 9223372036854775807) (_b1 : -9223372036854775808 ≤ py) (_c1 : py ≤ 9223372036854775807) (_b2 : -9223372036854775808 ≤ qx) (_c2 : qx ≤ 9223372036854775807) (_b3 : -9223372036854775808 ≤ qy) (_c3 : qy ≤ 9223372036854775807) (_b4 : -9223372036854775808 ≤ fa) (_c4 : fa ≤ 9223372036854775807) :
    Calls Tryz.prog 8 #[.agg #[.int .i64 cx, .int .i64 cy, .int .i64 x, .int .i64 y, .int .i64 t, .int .i64 m], .agg #[.int .i64 tk, v, .int .i64 ve, .int .i64 vn, .int .i64 dr, .int .i64 rq], .agg #[.int .i64 px, .int .i64 py, .int .i64 qx, .int .i64 qy, .int .i64 fa]] w fun e w' => e = .returned (.bool true) ∧ Below w.heap.size w w' := by
  have HE := Lib.hid hE
  have RL0 := Lib.hid h
  have KK0 := kd_take 10 hK
  have TL0 : (L.take 10).length ≤ 10 := by rw [List.length_take]; omega
  obtain ⟨T, hT⟩ : ∃ z, L.take 10 = z := ⟨_, rfl⟩
  rw [hT] at KK0 TL0
  have KK := Lib.hid KK0
  have TL := Lib.hid TL0
  have HTK := Lib.hid hT
  clear KK0 TL0 hT hE h hK _b0 _b1 _b2 _b3 _b4 _c0 _c1 _c2 _c3 _c4
  obtain ⟨KS, KI, KX, HB⟩ := ent3 w #[.int .i64 cx, .int .i64 cy, .int .i64 x, .int .i64 y, .int .i64 t, .int .i64 m] 27 #[.int .i64 tk, v, .int .i64 ve, .int .i64 vn, .int .i64 dr, .int .i64 rq] 38 #[.int .i64 px, .int .i64 py, .int .i64 qx, .int .i64 qy, .int .i64 fa] 56
  go_enter Tryz.func8, Tryz.ntmps8
  go_wp2_with fail
  generalize ((w.alloc (.cells #[.int .i64 cx, .int .i64 cy, .int .i64 x, .int .i64 y, .int .i64 t, .int .i64 m] 27)).alloc (.cells #[.int .i64 tk, v, .int .i64 ve, .int .i64 vn, .int .i64 dr, .int .i64 rq] 38)).alloc (.cells #[.int .i64 px, .int .i64 py, .int .i64 qx, .int .i64 qy, .int .i64 fa] 56) = w0 at *
  refine (awake_any _ (HE.out.below HB.out)).mono ?_
  rintro e1 w1 ⟨rfl, hb1⟩
  replace HB := hT HB hb1
  replace KS := hK KS hb1
  replace KI := hK KI hb1
  replace KX := hK KX hb1
  clear hb1
  obtain ⟨yI_0, yI_1, yI_2, yI_3, yI_4, yI_5, yI_z⟩ := blk6 KI
  go_wp2_with fail
  refine (cut_any tk ve vn dr rq L v _ (RL0.out.below HB.out)).mono ?_
  rintro e2 w2 ⟨⟨v1, rfl, hr⟩, hb2⟩
  have hr := hr w RL0.out
  rw [HTK.out] at hr
  obtain ⟨p1, c1, rfl⟩ := rg_form hr
  have RL := Lib.hid hr
  clear hr
  replace HB := hT HB hb2
  replace KS := hK KS hb2
  replace KI := hK KI hb2
  replace KX := hK KX hb2
  clear yI_0 yI_1 yI_2 yI_3 yI_4 yI_5 yI_z
  clear hb2
  obtain ⟨yI_0, yI_1, yI_2, yI_3, yI_4, yI_5, yI_z, yI_f0, yI_f1, yI_f2, yI_f3, yI_f4, yI_f5⟩ := blf6 KI
  go_upto_region 4 with (fail)
  have hs := st6 w2 (w.heap.size + 1) 0 (.int .i64 tk) 1 (.slice p1 T.length c1) 2 (.int .i64 ve) 3 (.int .i64 vn) 4 (.int .i64 dr) 5 (.int .i64 rq)
  replace KS := oB hs KS (by omega)
  replace KI := Lib.hid (blk_set (blk_set (blk_set (blk_set (blk_set (blk_set KI.out (j := 0) (by simp) (.int .i64 tk)) (j := 1) (by simp) (.slice p1 T.length c1)) (j := 2) (by simp) (.int .i64 ve)) (j := 3) (by simp) (.int .i64 vn)) (j := 4) (by simp) (.int .i64 dr)) (j := 5) (by simp) (.int .i64 rq))
  replace KX := oB hs KX (by omega)
  replace HB := oH hs HB (by omega)
  clear hs
  clear yI_0 yI_1 yI_2 yI_3 yI_4 yI_5 yI_z yI_f0 yI_f1 yI_f2 yI_f3 yI_f4 yI_f5
  generalize (((((w2.setCell ⟨(w.heap.size + 1), 0, none⟩ (.int .i64 tk)).setCell ⟨(w.heap.size + 1), 1, none⟩ (.slice p1 T.length c1)).setCell ⟨(w.heap.size + 1), 2, none⟩ (.int .i64 ve)).setCell ⟨(w.heap.size + 1), 3, none⟩ (.int .i64 vn)).setCell ⟨(w.heap.size + 1), 4, none⟩ (.int .i64 dr)).setCell ⟨(w.heap.size + 1), 5, none⟩ (.int .i64 rq) = w3 at *
  simp only [List.set] at KI
  obtain ⟨yS_0, yS_1, yS_2, yS_3, yS_4, yS_5, yS_z⟩ := blk6 KS
  obtain ⟨yI_0, yI_1, yI_2, yI_3, yI_4, yI_5, yI_z⟩ := blk6 KI
  by_cases he : stpE2 ⟨cx, cy, x, y⟩ t m tk ve vn dr rq T.length = 0
  · have SF := Lib.hid fun (p : HonP ⟨cx, cy, x, y⟩ t tk ve vn dr T fa px py qx qy) => stp_safe he p
    have HN0 := stp_facts he
    have HN := Lib.hid fun w h => honest_any cx cy x y t m tk ve vn dr rq px py qx qy fa (.slice p1 T.length c1) T w h KK.out HN0.1 HN0.2.2.2.1
    clear HN0
    obtain ⟨⟨t0, t1, t2⟩, ⟨m0, m1⟩, ⟨r0, r1⟩, rng, mv, hcst, nv, l1, l2, leq⟩ := stp_facts he
    have SG := fun w h => step_okR ⟨cx, cy, x, y⟩ t m tk ve vn dr rq T (.slice p1 T.length c1) w h KK.out he
    have CO := Lib.hid fun w => coast_any ⟨cx, cy, x, y⟩ ve vn dr (tk - t) w
    rw [hcst] at CO
    have sw : IntKind.i64.wrap (tk - t) = tk - t := IntWalk.i64_in _ (by omega)
    clear hcst he
    generalize movB ⟨cx, cy, x, y⟩ ve vn dr (tk - t) = cb at *
    obtain ⟨c'x, c'y, c'1, c'2⟩ := cb
    generalize stpC ⟨cx, cy, x, y⟩ t m tk ve vn dr T = cy at *
    obtain ⟨⟨nx, ny, n1, n2⟩, ms, ex⟩ := cy
    simp only [Bx4.mk.injEq] at SG CO nv l1 l2 leq mv SF
    obtain ⟨us, hus⟩ : ∃ z, useB n1 n2 rq = z := ⟨_, rfl⟩
    rw [hus] at SG
    have SG := Lib.hid SG
    clear rng mv m0 m1 t0 t1 t2 CO sw l1 l2 leq
    go_wp2_with fail
    refine (SG.out _ (RL.out.below HB.out)).mono ?_
    rintro e4 w4 ⟨rfl, hb4⟩
    replace HB := hT HB hb4
    replace KS := hK KS hb4
    replace KI := hK KI hb4
    replace KX := hK KX hb4
    clear yS_0 yS_1 yS_2 yS_3 yS_4 yS_5 yS_z yI_0 yI_1 yI_2 yI_3 yI_4 yI_5 yI_z
    clear hb4
    clear SG
    go_upto_region 5 with (fail)
    have KN := Lib.hid ((Blk.of (vs := #[.int .i64 nx, .int .i64 ny, .int .i64 n1, .int .i64 n2, .int .i64 tk, .int .i64 ms]) (t := 27) (w := w4) (b := w4.heap.size) rfl).alloc (.cells #[.int .i64 nx, .int .i64 ny, .int .i64 n1, .int .i64 n2, .bool us, .int .i64 ex] 41))
    have KE := Lib.hid (Blk.of (vs := #[.int .i64 nx, .int .i64 ny, .int .i64 n1, .int .i64 n2, .bool us, .int .i64 ex]) (t := 41) (w := w4.alloc (.cells #[.int .i64 nx, .int .i64 ny, .int .i64 n1, .int .i64 n2, .int .i64 tk, .int .i64 ms] 27)) (b := w4.heap.size + 1) (by simp))
    have hb5 : Below w4.heap.size w4 ((w4.alloc (.cells #[.int .i64 nx, .int .i64 ny, .int .i64 n1, .int .i64 n2, .int .i64 tk, .int .i64 ms] 27)).alloc (.cells #[.int .i64 nx, .int .i64 ny, .int .i64 n1, .int .i64 n2, .bool us, .int .i64 ex] 41)) := ((Below.refl _ _).alloc (Nat.le_refl _) _).alloc (by simp) _
    have hnN := HB.out.size
    have nzN_S := KS.out.lt
    have nzN_I := KI.out.lt
    have nzN_X := KX.out.lt
    replace HB := hT HB hb5
    replace KS := hK KS hb5
    replace KI := hK KI hb5
    replace KX := hK KX hb5
    clear hb5
    generalize (w4.alloc (.cells #[.int .i64 nx, .int .i64 ny, .int .i64 n1, .int .i64 n2, .int .i64 tk, .int .i64 ms] 27)).alloc (.cells #[.int .i64 nx, .int .i64 ny, .int .i64 n1, .int .i64 n2, .bool us, .int .i64 ex] 41) = w5 at *
    generalize w4.heap.size = bN at *
    have neN_S : bN ≠ w.heap.size := by omega
    have neE_S : bN + 1 ≠ w.heap.size := by omega
    have neN_I : bN ≠ (w.heap.size + 1) := by omega
    have neE_I : bN + 1 ≠ (w.heap.size + 1) := by omega
    have neN_X : bN ≠ (w.heap.size + 1 + 1) := by omega
    have neE_X : bN + 1 ≠ (w.heap.size + 1 + 1) := by omega
    clear nzN_S nzN_I nzN_X
    obtain ⟨yS_0, yS_1, yS_2, yS_3, yS_4, yS_5, yS_z⟩ := blk6 KS
    obtain ⟨yI_0, yI_1, yI_2, yI_3, yI_4, yI_5, yI_z⟩ := blk6 KI
    obtain ⟨yX_0, yX_1, yX_2, yX_3, yX_4, yX_z⟩ := blk5 KX
    go_wp2_with fail
    refine (HN.out _ (RL.out.below HB.out)).mono ?_
    rintro e6 w6 ⟨⟨hb, rfl, hh⟩, hb6⟩
    have HH := Lib.hid hh
    clear hh
    replace HB := hT HB hb6
    replace KS := hK KS hb6
    replace KI := hK KI hb6
    replace KX := hK KX hb6
    replace KN := hK KN hb6
    replace KE := hK KE hb6
    clear yS_0 yS_1 yS_2 yS_3 yS_4 yS_5 yS_z yI_0 yI_1 yI_2 yI_3 yI_4 yI_5 yI_z yX_0 yX_1 yX_2 yX_3 yX_4 yX_z
    clear hb6
    clear HN
    cases hb with
    | false =>
      clear HH SF
      go_wp2
      go_ret
      exact ⟨rfl, HB.out⟩
    | true =>
      have HP := HH.out (by first | rfl | trivial)
      obtain ⟨s1, s2, s3⟩ := SF.out HP
      unfold inB at s2
      simp only at s1 s2 s3
      have bq := S41.pvB_iff.1 HP.hv
      clear HP HH SF
      have bn := bxV_iff.1 nv
      simp only at bn
      have IN := Lib.hid fun w => inN_any nx ny n1 n2 qx qy w
      rw [s1] at IN
      clear s1
      obtain ⟨dx, hdx⟩ : ∃ z, qx - nx = z := ⟨_, rfl⟩
      obtain ⟨dy, hdy⟩ : ∃ z, qy - ny = z := ⟨_, rfl⟩
      have w1' : IntKind.i64.wrap (qx - nx) = dx := (IntWalk.i64_in _ (by omega)).trans hdx
      have w2' : IntKind.i64.wrap (qy - ny) = dy := (IntWalk.i64_in _ (by omega)).trans hdy
      have w3' : IntKind.i64.wrap (-dx) = -dx := IntWalk.i64_in _ (by omega)
      have w4' : IntKind.i64.wrap (-dy) = -dy := IntWalk.i64_in _ (by omega)
      have g1 : decide (dx ≤ n1) = true := by simp; omega
      have g2 : decide (-dx ≤ n1) = true := by simp; omega
      have g3 : decide (dy ≤ n2) = true := by simp; omega
      have g4 : decide (-dy ≤ n2) = true := by simp; omega
      have gu := Lib.hid fun (q : us = true) => show max (max (max dx (-dx)) dy) (-dy) ≤ rq by rw [q] at hus; unfold useB at hus; simp only [Bool.and_eq_true, decide_eq_true_eq] at hus; omega
      have S3 := Lib.hid s3
      clear bq bn hdx hdy s2 s3 hus nv r0 r1
      obtain ⟨yX_0, yX_1, yX_2, yX_3, yX_4, yX_z⟩ := blk5 KX
      obtain ⟨yN_0, yN_1, yN_2, yN_3, yN_4, yN_5, yN_z⟩ := blk6 KN
      go_wp2_with fail
      refine (IN.out _).mono ?_
      rintro e7 w7 ⟨rfl, hb7⟩
      replace HB := hT HB hb7
      replace KS := hK KS hb7
      replace KI := hK KI hb7
      replace KX := hK KX hb7
      replace KN := hK KN hb7
      replace KE := hK KE hb7
      clear yX_0 yX_1 yX_2 yX_3 yX_4 yX_z yN_0 yN_1 yN_2 yN_3 yN_4 yN_5 yN_z
      clear hb7
      clear IN
      obtain ⟨yX_0, yX_1, yX_2, yX_3, yX_4, yX_z⟩ := blk5 KX
      obtain ⟨yE_0, yE_1, yE_2, yE_3, yE_4, yE_5, yE_z⟩ := blk6 KE
      by_cases he0 : ex = 0
      · have ge : (ex != 0) = false := by simpa using he0
        clear he0 S3
        go_upto_region 11 with (fail)
        clear yX_0 yX_1 yX_2 yX_3 yX_4 yX_z yE_0 yE_1 yE_2 yE_3 yE_4 yE_5 yE_z
        have gX_2 := fun d os => cell_regrown (KX.out.c 2 _ rfl) d os
        have gX_3 := fun d os => cell_regrown (KX.out.c 3 _ rfl) d os
        have gE_0 := fun d os => cell_regrown (KE.out.c 0 _ rfl) d os
        have gE_1 := fun d os => cell_regrown (KE.out.c 1 _ rfl) d os
        refine wp_region_quiet_below (by kernel_rfl) (by kernel_rfl) ?_
        generalize hact : Act.mk _ _ = act
        repeat (refine wpQuiet_step (fun K hK => ?_); subst hact; go_simp; (first | (generalize hact : Act.mk _ _ = act; refine hK act ?_; clear hK K) | (rw [if_neg (by decide)]; go_simp; generalize hact : Act.mk _ _ = act; refine hK act ?_; clear hK K)))
        refine wpQuiet_nil ?_
        subst hact
        intro w8 hw8
        have hb8 : Below w7.heap.size w7 w8 := by
          obtain ⟨⟨dq, osq⟩, hw2⟩ := hw8
          rw [hw2]; exact below_regrown _ dq osq
        clear hw8 gX_2 gX_3 gE_0 gE_1 
        replace HB := hT HB hb8
        replace KS := hK KS hb8
        replace KI := hK KI hb8
        replace KX := hK KX hb8
        replace KN := hK KN hb8
        replace KE := hK KE hb8
        clear hb8
        clear w1' w2'
        obtain ⟨yI_0, yI_1, yI_2, yI_3, yI_4, yI_5, yI_z⟩ := blk6 KI
        obtain ⟨yE_0, yE_1, yE_2, yE_3, yE_4, yE_5, yE_z⟩ := blk6 KE
        cases us with
        | false =>
          clear gu
          go_wp2
          go_ret
          exact ⟨rfl, HB.out⟩
        | true =>
          have g5 : decide (max dx (max (-dx) (max dy (-dy))) ≤ rq) = true := decide_eq_true (by have := gu.out (by first | rfl | trivial); omega)
          have mx := fun w ts t x y z u => max4 w ts t x y z u
          clear gu
          go_wp2
          go_ret
          exact ⟨rfl, HB.out⟩
      · have ge : (ex != 0) = true := by simpa using he0
        have gf : (ex != fa) = false := by have := S3.out; simp; omega
        clear he0 S3
        go_upto_region 11 with (fail)
        clear yX_0 yX_1 yX_2 yX_3 yX_4 yX_z yE_0 yE_1 yE_2 yE_3 yE_4 yE_5 yE_z
        have gX_2 := fun d os => cell_regrown (KX.out.c 2 _ rfl) d os
        have gX_3 := fun d os => cell_regrown (KX.out.c 3 _ rfl) d os
        have gE_0 := fun d os => cell_regrown (KE.out.c 0 _ rfl) d os
        have gE_1 := fun d os => cell_regrown (KE.out.c 1 _ rfl) d os
        refine wp_region_quiet_below (by kernel_rfl) (by kernel_rfl) ?_
        generalize hact : Act.mk _ _ = act
        repeat (refine wpQuiet_step (fun K hK => ?_); subst hact; go_simp; (first | (generalize hact : Act.mk _ _ = act; refine hK act ?_; clear hK K) | (rw [if_neg (by decide)]; go_simp; generalize hact : Act.mk _ _ = act; refine hK act ?_; clear hK K)))
        refine wpQuiet_nil ?_
        subst hact
        intro w8 hw8
        have hb8 : Below w7.heap.size w7 w8 := by
          obtain ⟨⟨dq, osq⟩, hw2⟩ := hw8
          rw [hw2]; exact below_regrown _ dq osq
        clear hw8 gX_2 gX_3 gE_0 gE_1 
        replace HB := hT HB hb8
        replace KS := hK KS hb8
        replace KI := hK KI hb8
        replace KX := hK KX hb8
        replace KN := hK KN hb8
        replace KE := hK KE hb8
        clear hb8
        clear w1' w2'
        obtain ⟨yI_0, yI_1, yI_2, yI_3, yI_4, yI_5, yI_z⟩ := blk6 KI
        obtain ⟨yE_0, yE_1, yE_2, yE_3, yE_4, yE_5, yE_z⟩ := blk6 KE
        cases us with
        | false =>
          clear gu
          go_wp2
          go_ret
          exact ⟨rfl, HB.out⟩
        | true =>
          have g5 : decide (max dx (max (-dx) (max dy (-dy))) ≤ rq) = true := decide_eq_true (by have := gu.out (by first | rfl | trivial); omega)
          have mx := fun w ts t x y z u => max4 w ts t x y z u
          clear gu
          go_wp2
          go_ret
          exact ⟨rfl, HB.out⟩
  · have SB := Lib.hid fun w h => step_badR ⟨cx, cy, x, y⟩ t m tk ve vn dr rq T (.slice p1 T.length c1) w h (by have := TL.out; omega) he
    have ge : (stpE2 ⟨cx, cy, x, y⟩ t m tk ve vn dr rq T.length != 0) = true := by simpa using he
    clear he
    generalize stpE2 ⟨cx, cy, x, y⟩ t m tk ve vn dr rq T.length = e at *
    go_wp2_with fail
    refine (SB.out _ (RL.out.below HB.out)).mono ?_
    rintro e4 w4 ⟨rfl, hb4⟩
    replace HB := hT HB hb4
    replace KS := hK KS hb4
    replace KI := hK KI hb4
    replace KX := hK KX hb4
    clear yS_0 yS_1 yS_2 yS_3 yS_4 yS_5 yS_z yI_0 yI_1 yI_2 yI_3 yI_4 yI_5 yI_z
    clear hb4
    go_wp2
    go_ret
    exact ⟨rfl, (HB.out.alloc HB.out.size _).alloc (by have := HB.out.size; simp; omega) _⟩
end Go.Proofs.YtajmjkliblippaaGreatDoor.navigatorSafe
