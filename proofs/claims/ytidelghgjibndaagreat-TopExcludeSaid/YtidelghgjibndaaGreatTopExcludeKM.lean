/-
  The walk of the law TopExclude.
-/
import Derived.Test.YtidelghgjibndaaGreatTE7
import Derived.Deep.DeepCutAuto
namespace Go.Proofs.YtidelghgjibndaaGreat.topExclude
set_option linter.unusedVariables false
open Go.ChangeShapes Go.WideShapes Go.ChangeAt Go.RowKit

set_option maxHeartbeats 40000000 in
set_option maxRecDepth 100000 in
theorem walk (rv pv : Value) (tick sp cx cy bx b2 fa : Int) (L : List Rp) (Q : List Pt) (w : World) (h : RlAt L rv w) (hK : ∀ i, i < L.length → 0 ≤ (nthR L i).k ∧ (nthR L i).k ≤ 255) (hp : PlAt Q pv w) :
    Calls Tryz.prog 5 #[.agg #[rv, .int .i64 tick, .int .i64 sp, .int .i64 cx, .int .i64 cy, .int .i64 bx, .int .i64 b2, pv, .int .i64 fa]] w fun e w' => e = .returned (.bool true) ∧ Below w.heap.size w w' := by
  have KK := Lib.hid hK
  clear hK
  obtain ⟨pr, capr, rfl⟩ := rl_form h
  obtain ⟨pp, capp, rfl⟩ := pl_form hp
  have H0 := Lib.hid h
  have HP0 := Lib.hid hp
  have KX := Lib.hid (Blk.of (vs := #[.slice pr L.length capr, .int .i64 tick, .int .i64 sp, .int .i64 cx, .int .i64 cy, .int .i64 bx, .int .i64 b2, .slice pp Q.length capp, .int .i64 fa]) (t := 29) (w := w) (b := w.heap.size) (by simp))
  have HB := Lib.hid ((Below.refl w.heap.size w).alloc (by simp; try omega) (.cells #[.slice pr L.length capr, .int .i64 tick, .int .i64 sp, .int .i64 cx, .int .i64 cy, .int .i64 bx, .int .i64 b2, .slice pp Q.length capp, .int .i64 fa] 29))
  go_enter Tryz.func5, Tryz.ntmps5
  clear h hp
  go_wp2_with fail
  generalize w.alloc (.cells #[.slice pr L.length capr, .int .i64 tick, .int .i64 sp, .int .i64 cx, .int .i64 cy, .int .i64 bx, .int .i64 b2, .slice pp Q.length capp, .int .i64 fa] 29) = w0 at *
  refine (ready_any _).mono ?_
  rintro e1 w1 ⟨rfl, hb1⟩
  replace HB := Lib.hid (HB.out.trans (hb1.mono HB.out.size))
  replace KX := Lib.hid (KX.out.below hb1)
  clear hb1
  go_upto_region 3 with (fail)
  have yX := KX.out
  have yX_0 := yX.c 0 _ rfl
  have yX_1 := yX.c 1 _ rfl
  have yX_2 := yX.c 2 _ rfl
  have yX_3 := yX.c 3 _ rfl
  have yX_4 := yX.c 4 _ rfl
  have yX_5 := yX.c 5 _ rfl
  have yX_6 := yX.c 6 _ rfl
  have yX_7 := yX.c 7 _ rfl
  have yX_8 := yX.c 8 _ rfl
  have yX_z := yX.lt
  clear yX
  go_cut [3] (fun s3 wx => wx = w1 ∧ ∃ (P : List Pt) (pq : Option Addr) (cq : Nat), s3 = .slice pq P.length cq ∧ Hid (PlAt P (.slice pq P.length cq) w))
  case first =>
    by_cases h30 : 30 < Q.length
    · obtain ⟨hc1, hc2⟩ := path_cut HP0.out h30
      have HC := Lib.hid hc1
      have m1 : min (Q.length : Int) 30 = 30 := by omega
      have ll : (Q.take 30).length = 30 := by rw [List.length_take]; omega
      have HL30 := Lib.hid ll
      clear hc1 ll
      go_wp2_with fail
      go_meet
      exact ⟨rfl, Q.take 30, _, _, by rw [HL30.out], by rw [HL30.out]; exact HC.out⟩
    · have m1 : min (Q.length : Int) 30 = Q.length := by omega
      have m2 : Q.length ≤ capp := pl_cap HP0.out
      go_wp2_with fail
      go_meet
      exact ⟨rfl, Q, _, _, rfl, HP0.out⟩
  case rest =>
    clear yX_0 yX_1 yX_2 yX_3 yX_4 yX_5 yX_6 yX_7 yX_8 yX_z
    obtain ⟨hwc, P, pq, cq, rfl, HP⟩ := hcut
    subst hwc
    go_upto_region 4 with (fail)
    generalize wc = w2 at *
    go_cut [42] (fun s40 wx => Hid (Below w2.heap.size w2 wx) ∧ ∃ q : Bool, s40 = .bool q ∧ (q = false → SlowP P sp ∧ inN cx cy bx b2 (nthP P 0).x (nthP P 0).y = true))
    case first =>
      by_cases h0 : sp < 0
      · have g0 : decide (sp < 0) = true := by simpa using h0
        clear h0
        have gX_2 := fun d os => cell_regrown (KX.out.c 2 _ rfl) d os
        refine wp_region_quiet_below (by kernel_rfl) (by kernel_rfl) ?_
        generalize hact : Act.mk _ _ = act
        repeat (refine wpQuiet_step (fun K hK => ?_); subst hact; go_simp; (first | (generalize hact : Act.mk _ _ = act; refine hK act ?_; clear hK K) | (rw [if_neg (by decide)]; go_simp; generalize hact : Act.mk _ _ = act; refine hK act ?_; clear hK K)))
        refine wpQuiet_nil ?_
        subst hact
        intro w3 hw3
        have hb3 : Below w2.heap.size w2 w3 := by
          obtain ⟨⟨dq, osq⟩, hw2⟩ := hw3
          rw [hw2]; exact below_regrown _ dq osq
        clear hw3 gX_2 
        go_wp2_with fail
        go_meet
        exact ⟨Lib.hid hb3, _, rfl, fun q => absurd q (by simp)⟩
      · have g0 : decide (sp < 0) = false := by simpa using h0
        by_cases h1 : 1000 < sp
        · have g1 : decide (1000 < sp) = true := by simpa using h1
          clear h0 h1
          have gX_2 := fun d os => cell_regrown (KX.out.c 2 _ rfl) d os
          refine wp_region_quiet_below (by kernel_rfl) (by kernel_rfl) ?_
          generalize hact : Act.mk _ _ = act
          repeat (refine wpQuiet_step (fun K hK => ?_); subst hact; go_simp; (first | (generalize hact : Act.mk _ _ = act; refine hK act ?_; clear hK K) | (rw [if_neg (by decide)]; go_simp; generalize hact : Act.mk _ _ = act; refine hK act ?_; clear hK K)))
          refine wpQuiet_nil ?_
          subst hact
          intro w3 hw3
          have hb3 : Below w2.heap.size w2 w3 := by
            obtain ⟨⟨dq, osq⟩, hw2⟩ := hw3
            rw [hw2]; exact below_regrown _ dq osq
          clear hw3 gX_2 
          go_wp2_with fail
          go_meet
          exact ⟨Lib.hid hb3, _, rfl, fun q => absurd q (by simp)⟩
        · have g1 : decide (1000 < sp) = false := by simpa using h1
          have HSP := Lib.hid (show 0 ≤ sp ∧ sp ≤ 1000 by omega)
          clear h0 h1
          have SL := Lib.hid (fun d os => slow_any P (.slice pq P.length cq) sp (Go.Sort.grow (redrawn w2 d) os) ((HP.out.below HB.out).below (below_regrown _ d os)) HSP.out.1 HSP.out.2)
          obtain ⟨sb, hsb⟩ : ∃ z, slwB P sp = z := ⟨_, rfl⟩
          rw [hsb] at SL
          have SP := Lib.hid hsb
          clear hsb
          cases sb with
          | false =>
            have gX_2 := fun d os => cell_regrown (KX.out.c 2 _ rfl) d os
            have rv0 := Lib.hid (fun d os => Calls.regrown_of (SL.out d os))
            refine wp_region_quiet_below (by kernel_rfl) (by kernel_rfl) ?_
            generalize hact : Act.mk _ _ = act
            repeat (refine wpQuiet_step (fun K hK => ?_); subst hact; go_simp; (first | (generalize hact : Act.mk _ _ = act; refine hK act ?_; clear hK K) | (apply Exists.intro; refine ⟨fun _ => ?_, ?_⟩; (with_reducible exact rv0.out _ _); generalize hact : Act.mk _ _ = act; refine hK act ?_; clear hK K) | (rw [if_neg (by decide)]; go_simp; generalize hact : Act.mk _ _ = act; refine hK act ?_; clear hK K)))
            refine wpQuiet_nil ?_
            subst hact
            intro w3 hw3
            have hb3 : Below w2.heap.size w2 w3 := by
              obtain ⟨⟨dq, osq⟩, hw2⟩ := hw3
              rw [hw2]; exact below_regrown _ dq osq
            clear hw3 gX_2 rv0
            go_wp2_with fail
            go_meet
            exact ⟨Lib.hid hb3, _, rfl, fun q => absurd q (by simp)⟩
          | true =>
            have IN := Lib.hid fun w => inN_any cx cy bx b2 (nthP P 0).x (nthP P 0).y w
            obtain ⟨ib, hib⟩ : ∃ z, inN cx cy bx b2 (nthP P 0).x (nthP P 0).y = z := ⟨_, rfl⟩
            rw [hib] at IN
            have HIB := Lib.hid hib
            clear hib
            have gX_2 := fun d os => cell_regrown (KX.out.c 2 _ rfl) d os
            have gX_3 := fun d os => cell_regrown (KX.out.c 3 _ rfl) d os
            have gX_4 := fun d os => cell_regrown (KX.out.c 4 _ rfl) d os
            have gX_5 := fun d os => cell_regrown (KX.out.c 5 _ rfl) d os
            have gX_6 := fun d os => cell_regrown (KX.out.c 6 _ rfl) d os
            have ne := (slw_iff.1 SP.out).ne
            obtain ⟨bP, oP, hpp, hcp, hmp, PA⟩ := pl_at (HP.out.below HB.out) ne
            subst hpp
            have p0 := PA.c0 0 ne
            have p1 := PA.c1 0 ne
            clear PA
            simp only [Nat.zero_mul, Nat.add_zero] at p0 p1
            have gp0 := fun d os => cell_regrown p0 d os
            have gp1 := fun d os => cell_regrown p1 d os
            clear p0 p1
            have ne2 : decide (0 < P.length) = true := by simpa using ne
            have rv0 := Lib.hid (fun d os => Calls.regrown_of (SL.out d os))
            have rv1 := Lib.hid (fun d os => Calls.regrown_of (IN.out (Go.Sort.grow (redrawn w2 d) os)))
            refine wp_region_quiet_below (by kernel_rfl) (by kernel_rfl) ?_
            generalize hact : Act.mk _ _ = act
            repeat (refine wpQuiet_step (fun K hK => ?_); subst hact; go_simp; (first | (generalize hact : Act.mk _ _ = act; refine hK act ?_; clear hK K) | (apply Exists.intro; refine ⟨fun _ => ?_, ?_⟩; (with_reducible exact rv0.out _ _); generalize hact : Act.mk _ _ = act; refine hK act ?_; clear hK K) | (apply Exists.intro; refine ⟨fun _ => ?_, ?_⟩; (with_reducible exact rv1.out _ _); generalize hact : Act.mk _ _ = act; refine hK act ?_; clear hK K) | (rw [if_neg (by decide)]; go_simp; generalize hact : Act.mk _ _ = act; refine hK act ?_; clear hK K)))
            refine wpQuiet_nil ?_
            subst hact
            intro w3 hw3
            have hb3 : Below w2.heap.size w2 w3 := by
              obtain ⟨⟨dq, osq⟩, hw2⟩ := hw3
              rw [hw2]; exact below_regrown _ dq osq
            clear hw3 gX_2 gX_3 gX_4 gX_5 gX_6 gp0 gp1 rv0 rv1
            go_wp2_with fail
            go_meet
            exact ⟨Lib.hid hb3, _, rfl, fun q => ⟨slw_iff.1 SP.out, by rw [HIB.out]; simpa using q⟩⟩
    case rest =>
      obtain ⟨hbw, q, rfl, hq⟩ := hcut
      have hb30 := hbw.out
      clear hbw
      replace HB := Lib.hid (HB.out.trans (hb30.mono HB.out.size))
      replace KX := Lib.hid (KX.out.below hb30)
      clear hb30
      have HQ := Lib.hid hq
      clear hq
      go_upto_if 42 with (fail)
      cases q with
      | true =>
        go_wp2
        go_ret
        exact ⟨rfl, HB.out⟩
      | false =>
        obtain ⟨SP, IN⟩ := HQ.out (by first | rfl | trivial)
        have SP := Lib.hid SP
        have IN := Lib.hid IN
        clear HQ
        have yX := KX.out
        have yX_0 := yX.c 0 _ rfl
        have yX_1 := yX.c 1 _ rfl
        have yX_2 := yX.c 2 _ rfl
        have yX_3 := yX.c 3 _ rfl
        have yX_4 := yX.c 4 _ rfl
        have yX_5 := yX.c 5 _ rfl
        have yX_6 := yX.c 6 _ rfl
        have yX_7 := yX.c 7 _ rfl
        have yX_8 := yX.c 8 _ rfl
        have yX_z := yX.lt
        clear yX
        go_wp2_with fail
        refine (nvr_any L _ tick sp cx cy bx b2 fa P _ _ (H0.out.below HB.out) KK.out (HP.out.below HB.out) SP.out IN.out).mono ?_
        rintro e31 w31 ⟨⟨u, ms, hb, rfl, hom, hnv, hlen⟩, hb31⟩
        replace HB := Lib.hid (HB.out.trans (hb31.mono HB.out.size))
        replace KX := Lib.hid (KX.out.below hb31)
        clear yX_0 yX_1 yX_2 yX_3 yX_4 yX_5 yX_6 yX_7 yX_8 yX_z
        clear hb31
        have OL := Lib.hid hom.lst
        have NV := Lib.hid hnv
        have LN := Lib.hid hlen
        clear hom hnv hlen
        have FL := Lib.hid fun w h => S44.flt_any ms u w h
        unfold S44.FlP at FL
        have VP := SP.out.val 0 SP.out.ne
        have EN := Lib.hid fun k e (hf : S44.fltF ms = (k, e)) (he : e ≠ 0) => ex_none NV.out VP hf he
        have ES := Lib.hid fun k (hf : S44.fltF ms = (k, 0)) (hk : k ≠ 0) (q : hb = true) => ex_some NV.out VP hf hk q
        clear VP
        generalize S44.fltF ms = R at *
        obtain ⟨k, er⟩ := R
        simp only at FL
        go_wp2_with fail
        refine (FL.out _ OL.out).mono ?_
        rintro e32 w32 ⟨rfl, hb32⟩
        replace HB := Lib.hid (HB.out.trans (hb32.mono HB.out.size))
        replace KX := Lib.hid (KX.out.below hb32)
        replace OL := Lib.hid (OL.out.below hb32)
        clear hb32
        clear FL
        by_cases he : er = 0
        · subst he
          clear EN
          have ge : ((0 : Int) != 0) = false := rfl
          cases hb with
          | false =>
            clear ES
            go_wp2
            go_ret
            exact ⟨rfl, HB.out⟩
          | true =>
            by_cases hk : k = 0
            · subst hk
              clear ES
              go_wp2
              go_ret
              exact ⟨rfl, HB.out⟩
            · have gk : (k == 0) = false := by simpa using hk
              obtain ⟨kf, hh⟩ := ES.out k rfl hk (by first | rfl | trivial)
              subst kf
              have LP := Lib.hid fun b (e : accF (woL ms k) = (b, 0)) => acc_nv hh e
              clear ES hh hk
              go_wp2_with fail
              refine (wo_any ms k u _ OL.out (by have := LN.out; omega)).mono ?_
              rintro e34 w34 ⟨⟨u2, rfl, ho2⟩, hb34⟩
              replace HB := Lib.hid (HB.out.trans (hb34.mono HB.out.size))
              replace KX := Lib.hid (KX.out.below hb34)
              replace OL := Lib.hid (OL.out.below hb34)
              clear hb34
              have OL2 := Lib.hid ho2.lst
              clear ho2
              have AC := Lib.hid fun w h => acc_any (woL ms k) u2 w h
              generalize accF (woL ms k) = R at *
              obtain ⟨⟨c0, c1, c2, c3⟩, ea⟩ := R
              unfold boxV at AC
              simp only at AC
              go_wp2_with fail
              refine (AC.out _ OL2.out).mono ?_
              rintro e35 w35 ⟨rfl, hb35⟩
              replace HB := Lib.hid (HB.out.trans (hb35.mono HB.out.size))
              replace KX := Lib.hid (KX.out.below hb35)
              replace OL2 := Lib.hid (OL2.out.below hb35)
              clear hb35
              clear AC
              go_upto_region 11 with (fail)
              have KB := Lib.hid (Blk.of (vs := #[.int .i64 c0, .int .i64 c1, .int .i64 c2, .int .i64 c3]) (t := 26) (w := w35) (b := w35.heap.size) rfl)
              have hb36 : Below w35.heap.size w35 (w35.alloc (.cells #[.int .i64 c0, .int .i64 c1, .int .i64 c2, .int .i64 c3] 26)) := (Below.refl _ _).alloc (Nat.le_refl _) _
              have hnB := HB.out.size
              have nzB_X := KX.out.lt
              replace HB := Lib.hid (HB.out.trans (hb36.mono HB.out.size))
              replace KX := Lib.hid (KX.out.below hb36)
              replace OL2 := Lib.hid (OL2.out.below hb36)
              clear hb36
              generalize w35.alloc (.cells #[.int .i64 c0, .int .i64 c1, .int .i64 c2, .int .i64 c3] 26) = w36 at *
              generalize w35.heap.size = bB at *
              have neB_X : bB ≠ w.heap.size := by omega
              clear nzB_X
              by_cases ha : ea = 0
              · subst ha
                have ga : ((0 : Int) != 0) = false := rfl
                have gkk : (k == k) = true := by simp
                obtain ⟨lp1, lp2, lp3⟩ := LP.out _ rfl
                have NB := Lib.hid fun w => nib_true c0 c1 c2 c3 (nthP P 0).x (nthP P 0).y w lp1 lp2 lp3
                clear lp1 lp2 lp3 LP
                have gX_8 := fun d os => cell_regrown (KX.out.c 8 _ rfl) d os
                have gB_0 := fun d os => cell_regrown (KB.out.c 0 _ rfl) d os
                have gB_1 := fun d os => cell_regrown (KB.out.c 1 _ rfl) d os
                have gB_2 := fun d os => cell_regrown (KB.out.c 2 _ rfl) d os
                have gB_3 := fun d os => cell_regrown (KB.out.c 3 _ rfl) d os
                have ne := SP.out.ne
                obtain ⟨bP, oP, hpp, hcp, hmp, PA⟩ := pl_at (HP.out.below HB.out) ne
                subst hpp
                have p0 := PA.c0 0 ne
                have p1 := PA.c1 0 ne
                clear PA
                simp only [Nat.zero_mul, Nat.add_zero] at p0 p1
                have gp0 := fun d os => cell_regrown p0 d os
                have gp1 := fun d os => cell_regrown p1 d os
                clear p0 p1
                have ne2 : decide (0 < P.length) = true := by simpa using ne
                have rv0 := Lib.hid (fun d os => Calls.regrown_of (NB.out (Go.Sort.grow (redrawn w36 d) os)))
                refine wp_region_quiet_below (by kernel_rfl) (by kernel_rfl) ?_
                generalize hact : Act.mk _ _ = act
                repeat (refine wpQuiet_step (fun K hK => ?_); subst hact; go_simp; (first | (generalize hact : Act.mk _ _ = act; refine hK act ?_; clear hK K) | (apply Exists.intro; refine ⟨fun _ => ?_, ?_⟩; (with_reducible exact rv0.out _ _); generalize hact : Act.mk _ _ = act; refine hK act ?_; clear hK K) | (rw [if_neg (by decide)]; go_simp; generalize hact : Act.mk _ _ = act; refine hK act ?_; clear hK K)))
                refine wpQuiet_nil ?_
                subst hact
                intro w37 hw37
                have hb37 : Below w36.heap.size w36 w37 := by
                  obtain ⟨⟨dq, osq⟩, hw2⟩ := hw37
                  rw [hw2]; exact below_regrown _ dq osq
                clear hw37 gX_8 gp0 gp1 gB_0 gB_1 gB_2 gB_3 rv0
                replace HB := Lib.hid (HB.out.trans (hb37.mono HB.out.size))
                replace KX := Lib.hid (KX.out.below hb37)
                replace KB := Lib.hid (KB.out.below hb37)
                replace OL2 := Lib.hid (OL2.out.below hb37)
                clear hb37
                go_wp2
                go_ret
                exact ⟨rfl, HB.out⟩
              · have ga : (ea != 0) = true := by simpa using ha
                have gkk : (k == k) = true := by simp
                clear ha
                have gX_8 := fun d os => cell_regrown (KX.out.c 8 _ rfl) d os
                refine wp_region_quiet_below (by kernel_rfl) (by kernel_rfl) ?_
                generalize hact : Act.mk _ _ = act
                repeat (refine wpQuiet_step (fun K hK => ?_); subst hact; go_simp; (first | (generalize hact : Act.mk _ _ = act; refine hK act ?_; clear hK K) | (rw [if_neg (by decide)]; go_simp; generalize hact : Act.mk _ _ = act; refine hK act ?_; clear hK K)))
                refine wpQuiet_nil ?_
                subst hact
                intro w37 hw37
                have hb37 : Below w36.heap.size w36 w37 := by
                  obtain ⟨⟨dq, osq⟩, hw2⟩ := hw37
                  rw [hw2]; exact below_regrown _ dq osq
                clear hw37 gX_8 
                replace HB := Lib.hid (HB.out.trans (hb37.mono HB.out.size))
                replace KX := Lib.hid (KX.out.below hb37)
                replace KB := Lib.hid (KB.out.below hb37)
                replace OL2 := Lib.hid (OL2.out.below hb37)
                clear hb37
                go_wp2
                go_ret
                exact ⟨rfl, HB.out⟩
        · have ge : (er != 0) = true := by simpa using he
          have ge2 : (er == 0) = false := by simpa using he
          obtain ⟨e0, e1⟩ := EN.out k er rfl he
          subst e0
          cases hb with
          | false =>
            clear he e1 EN ES
            go_wp2
            go_ret
            exact ⟨rfl, HB.out⟩
          | true =>
            have g11 : (er == 11) = false := by have := e1 (by first | rfl | trivial); simpa using this
            clear he e1 EN ES
            go_wp2
            go_ret
            exact ⟨rfl, HB.out⟩
end Go.Proofs.YtidelghgjibndaaGreat.topExclude
