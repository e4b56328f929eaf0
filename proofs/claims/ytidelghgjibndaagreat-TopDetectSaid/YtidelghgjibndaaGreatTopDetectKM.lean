/-
  The walk of the law TopDetect.
-/
import Derived.Test.YtidelghgjibndaaGreatTD7
import Derived.Deep.DeepCutAuto
namespace Go.Proofs.YtidelghgjibndaaGreat.topDetect
set_option linter.unusedVariables false
open Go.ChangeShapes Go.WideShapes Go.ChangeAt Go.RowKit

set_option maxHeartbeats 40000000 in
set_option maxRecDepth 100000 in
theorem walk (rv pv : Value) (tick sp cx cy bx b2 fa : Int) (L : List Rp) (Q : List Pt) (w : World) (h : RlAt L rv w) (hK : ∀ i, i < L.length → 0 ≤ (nthR L i).k ∧ (nthR L i).k ≤ 255) (hp : PlAt Q pv w) :
    Calls Tryz.prog 6 #[.agg #[rv, .int .i64 tick, .int .i64 sp, .int .i64 cx, .int .i64 cy, .int .i64 bx, .int .i64 b2, pv, .int .i64 fa]] w fun e w' => e = .returned (.bool true) ∧ Below w.heap.size w w' := by
  have KK := Lib.hid hK
  clear hK
  obtain ⟨pr, capr, rfl⟩ := rl_form h
  obtain ⟨pp, capp, rfl⟩ := pl_form hp
  have H0 := Lib.hid h
  have HP0 := Lib.hid hp
  have KX := Lib.hid (Blk.of (vs := #[.slice pr L.length capr, .int .i64 tick, .int .i64 sp, .int .i64 cx, .int .i64 cy, .int .i64 bx, .int .i64 b2, .slice pp Q.length capp, .int .i64 fa]) (t := 29) (w := w) (b := w.heap.size) (by simp))
  have HB := Lib.hid ((Below.refl w.heap.size w).alloc (by simp; try omega) (.cells #[.slice pr L.length capr, .int .i64 tick, .int .i64 sp, .int .i64 cx, .int .i64 cy, .int .i64 bx, .int .i64 b2, .slice pp Q.length capp, .int .i64 fa] 29))
  go_enter Tryz.func6, Tryz.ntmps6
  clear h hp
  go_wp2_with fail
  generalize w.alloc (.cells #[.slice pr L.length capr, .int .i64 tick, .int .i64 sp, .int .i64 cx, .int .i64 cy, .int .i64 bx, .int .i64 b2, .slice pp Q.length capp, .int .i64 fa] 29) = w0 at *
  refine (ready_any _).mono ?_
  rintro e1 w1 ⟨rfl, hb1⟩
  replace HB := Lib.hid (HB.out.trans (hb1.mono HB.out.size))
  replace KX := Lib.hid (KX.out.below hb1)
  clear hb1
  go_upto_region 3 with (fail)
  have yX := KX.out
  have yX_0 := yX.c 0 _ rfl
  have yX_1 := yX.c 1 _ rfl
  have yX_2 := yX.c 2 _ rfl
  have yX_3 := yX.c 3 _ rfl
  have yX_4 := yX.c 4 _ rfl
  have yX_5 := yX.c 5 _ rfl
  have yX_6 := yX.c 6 _ rfl
  have yX_7 := yX.c 7 _ rfl
  have yX_8 := yX.c 8 _ rfl
  have yX_z := yX.lt
  clear yX
  go_cut [3] (fun s3 wx => wx = w1 ∧ ∃ (P : List Pt) (pq : Option Addr) (cq : Nat), s3 = .slice pq P.length cq ∧ Hid (PlAt P (.slice pq P.length cq) w))
  case first =>
    by_cases h30 : 30 < Q.length
    · obtain ⟨hc1, hc2⟩ := path_cut HP0.out h30
      have HC := Lib.hid hc1
      have m1 : min (Q.length : Int) 30 = 30 := by omega
      have ll : (Q.take 30).length = 30 := by rw [List.length_take]; omega
      have HL30 := Lib.hid ll
      clear hc1 ll
      go_wp2_with fail
      go_meet
      exact ⟨rfl, Q.take 30, _, _, by rw [HL30.out], by rw [HL30.out]; exact HC.out⟩
    · have m1 : min (Q.length : Int) 30 = Q.length := by omega
      have m2 : Q.length ≤ capp := pl_cap HP0.out
      go_wp2_with fail
      go_meet
      exact ⟨rfl, Q, _, _, rfl, HP0.out⟩
  case rest =>
    clear yX_0 yX_1 yX_2 yX_3 yX_4 yX_5 yX_6 yX_7 yX_8 yX_z
    obtain ⟨hwc, P, pq, cq, rfl, HP⟩ := hcut
    subst hwc
    go_upto_region 4 with (fail)
    generalize wc = w2 at *
    go_cut [48] (fun s40 wx => Hid (Below w2.heap.size w2 wx) ∧ ∃ q : Bool, s40 = .bool q ∧ (q = false → SlowP P sp ∧ inN cx cy bx b2 (nthP P 0).x (nthP P 0).y = true))
    case first =>
      by_cases h0 : sp < 0
      · have g0 : decide (sp < 0) = true := by simpa using h0
        clear h0
        have gX_2 := fun d os => cell_regrown (KX.out.c 2 _ rfl) d os
        refine wp_region_quiet_below (by kernel_rfl) (by kernel_rfl) ?_
        generalize hact : Act.mk _ _ = act
        repeat (refine wpQuiet_step (fun K hK => ?_); subst hact; go_simp; (first | (generalize hact : Act.mk _ _ = act; refine hK act ?_; clear hK K) | (rw [if_neg (by decide)]; go_simp; generalize hact : Act.mk _ _ = act; refine hK act ?_; clear hK K)))
        refine wpQuiet_nil ?_
        subst hact
        intro w3 hw3
        have hb3 : Below w2.heap.size w2 w3 := by
          obtain ⟨⟨dq, osq⟩, hw2⟩ := hw3
          rw [hw2]; exact below_regrown _ dq osq
        clear hw3 gX_2 
        go_wp2_with fail
        go_meet
        exact ⟨Lib.hid hb3, _, rfl, fun q => absurd q (by simp)⟩
      · have g0 : decide (sp < 0) = false := by simpa using h0
        by_cases h1 : 1000 < sp
        · have g1 : decide (1000 < sp) = true := by simpa using h1
          clear h0 h1
          have gX_2 := fun d os => cell_regrown (KX.out.c 2 _ rfl) d os
          refine wp_region_quiet_below (by kernel_rfl) (by kernel_rfl) ?_
          generalize hact : Act.mk _ _ = act
          repeat (refine wpQuiet_step (fun K hK => ?_); subst hact; go_simp; (first | (generalize hact : Act.mk _ _ = act; refine hK act ?_; clear hK K) | (rw [if_neg (by decide)]; go_simp; generalize hact : Act.mk _ _ = act; refine hK act ?_; clear hK K)))
          refine wpQuiet_nil ?_
          subst hact
          intro w3 hw3
          have hb3 : Below w2.heap.size w2 w3 := by
            obtain ⟨⟨dq, osq⟩, hw2⟩ := hw3
            rw [hw2]; exact below_regrown _ dq osq
          clear hw3 gX_2 
          go_wp2_with fail
          go_meet
          exact ⟨Lib.hid hb3, _, rfl, fun q => absurd q (by simp)⟩
        · have g1 : decide (1000 < sp) = false := by simpa using h1
          have HSP := Lib.hid (show 0 ≤ sp ∧ sp ≤ 1000 by omega)
          clear h0 h1
          have SL := Lib.hid (fun d os => slow_any P (.slice pq P.length cq) sp (Go.Sort.grow (redrawn w2 d) os) ((HP.out.below HB.out).below (below_regrown _ d os)) HSP.out.1 HSP.out.2)
          obtain ⟨sb, hsb⟩ : ∃ z, slwB P sp = z := ⟨_, rfl⟩
          rw [hsb] at SL
          have SP := Lib.hid hsb
          clear hsb
          cases sb with
          | false =>
            have gX_2 := fun d os => cell_regrown (KX.out.c 2 _ rfl) d os
            have rv0 := Lib.hid (fun d os => Calls.regrown_of (SL.out d os))
            refine wp_region_quiet_below (by kernel_rfl) (by kernel_rfl) ?_
            generalize hact : Act.mk _ _ = act
            repeat (refine wpQuiet_step (fun K hK => ?_); subst hact; go_simp; (first | (generalize hact : Act.mk _ _ = act; refine hK act ?_; clear hK K) | (apply Exists.intro; refine ⟨fun _ => ?_, ?_⟩; (with_reducible exact rv0.out _ _); generalize hact : Act.mk _ _ = act; refine hK act ?_; clear hK K) | (rw [if_neg (by decide)]; go_simp; generalize hact : Act.mk _ _ = act; refine hK act ?_; clear hK K)))
            refine wpQuiet_nil ?_
            subst hact
            intro w3 hw3
            have hb3 : Below w2.heap.size w2 w3 := by
              obtain ⟨⟨dq, osq⟩, hw2⟩ := hw3
              rw [hw2]; exact below_regrown _ dq osq
            clear hw3 gX_2 rv0
            go_wp2_with fail
            go_meet
            exact ⟨Lib.hid hb3, _, rfl, fun q => absurd q (by simp)⟩
          | true =>
            have IN := Lib.hid fun w => inN_any cx cy bx b2 (nthP P 0).x (nthP P 0).y w
            obtain ⟨ib, hib⟩ : ∃ z, inN cx cy bx b2 (nthP P 0).x (nthP P 0).y = z := ⟨_, rfl⟩
            rw [hib] at IN
            have HIB := Lib.hid hib
            clear hib
            have gX_2 := fun d os => cell_regrown (KX.out.c 2 _ rfl) d os
            have gX_3 := fun d os => cell_regrown (KX.out.c 3 _ rfl) d os
            have gX_4 := fun d os => cell_regrown (KX.out.c 4 _ rfl) d os
            have gX_5 := fun d os => cell_regrown (KX.out.c 5 _ rfl) d os
            have gX_6 := fun d os => cell_regrown (KX.out.c 6 _ rfl) d os
            have ne := (slw_iff.1 SP.out).ne
            obtain ⟨bP, oP, hpp, hcp, hmp, PA⟩ := pl_at (HP.out.below HB.out) ne
            subst hpp
            have p0 := PA.c0 0 ne
            have p1 := PA.c1 0 ne
            clear PA
            simp only [Nat.zero_mul, Nat.add_zero] at p0 p1
            have gp0 := fun d os => cell_regrown p0 d os
            have gp1 := fun d os => cell_regrown p1 d os
            clear p0 p1
            have ne2 : decide (0 < P.length) = true := by simpa using ne
            have rv0 := Lib.hid (fun d os => Calls.regrown_of (SL.out d os))
            have rv1 := Lib.hid (fun d os => Calls.regrown_of (IN.out (Go.Sort.grow (redrawn w2 d) os)))
            refine wp_region_quiet_below (by kernel_rfl) (by kernel_rfl) ?_
            generalize hact : Act.mk _ _ = act
            repeat (refine wpQuiet_step (fun K hK => ?_); subst hact; go_simp; (first | (generalize hact : Act.mk _ _ = act; refine hK act ?_; clear hK K) | (apply Exists.intro; refine ⟨fun _ => ?_, ?_⟩; (with_reducible exact rv0.out _ _); generalize hact : Act.mk _ _ = act; refine hK act ?_; clear hK K) | (apply Exists.intro; refine ⟨fun _ => ?_, ?_⟩; (with_reducible exact rv1.out _ _); generalize hact : Act.mk _ _ = act; refine hK act ?_; clear hK K) | (rw [if_neg (by decide)]; go_simp; generalize hact : Act.mk _ _ = act; refine hK act ?_; clear hK K)))
            refine wpQuiet_nil ?_
            subst hact
            intro w3 hw3
            have hb3 : Below w2.heap.size w2 w3 := by
              obtain ⟨⟨dq, osq⟩, hw2⟩ := hw3
              rw [hw2]; exact below_regrown _ dq osq
            clear hw3 gX_2 gX_3 gX_4 gX_5 gX_6 gp0 gp1 rv0 rv1
            go_wp2_with fail
            go_meet
            exact ⟨Lib.hid hb3, _, rfl, fun q => ⟨slw_iff.1 SP.out, by rw [HIB.out]; simpa using q⟩⟩
    case rest =>
      obtain ⟨hbw, q, rfl, hq⟩ := hcut
      have hb30 := hbw.out
      clear hbw
      replace HB := Lib.hid (HB.out.trans (hb30.mono HB.out.size))
      replace KX := Lib.hid (KX.out.below hb30)
      clear hb30
      have HQ := Lib.hid hq
      clear hq
      go_upto_if 48 with (fail)
      cases q with
      | true =>
        go_wp2
        go_ret
        exact ⟨rfl, HB.out⟩
      | false =>
        obtain ⟨SP, IN⟩ := HQ.out (by first | rfl | trivial)
        have SP := Lib.hid SP
        have IN := Lib.hid IN
        clear HQ
        have yX := KX.out
        have yX_0 := yX.c 0 _ rfl
        have yX_1 := yX.c 1 _ rfl
        have yX_2 := yX.c 2 _ rfl
        have yX_3 := yX.c 3 _ rfl
        have yX_4 := yX.c 4 _ rfl
        have yX_5 := yX.c 5 _ rfl
        have yX_6 := yX.c 6 _ rfl
        have yX_7 := yX.c 7 _ rfl
        have yX_8 := yX.c 8 _ rfl
        have yX_z := yX.lt
        clear yX
        go_wp2_with fail
        refine (nvr_any L _ tick sp cx cy bx b2 fa P _ _ (H0.out.below HB.out) KK.out (HP.out.below HB.out) SP.out IN.out).mono ?_
        rintro e31 w31 ⟨⟨u, ms, hb, rfl, hom, hnv, hlen⟩, hb31⟩
        replace HB := Lib.hid (HB.out.trans (hb31.mono HB.out.size))
        replace KX := Lib.hid (KX.out.below hb31)
        clear yX_0 yX_1 yX_2 yX_3 yX_4 yX_5 yX_6 yX_7 yX_8 yX_z
        clear hb31
        have OL := Lib.hid hom.lst
        have NV := Lib.hid hnv
        have LN := Lib.hid hlen
        clear hom hnv hlen
        obtain ⟨pu, cu, rfl⟩ : ∃ p c, u = .slice p ms.length c := by
          rcases OL.out with ⟨rfl, rfl⟩ | ⟨b, o, c, rfl, _⟩
          · exact ⟨none, 0, rfl⟩
          · exact ⟨_, _, rfl⟩
        have CO := Lib.hid fun w h => S44.con_any ms (.slice pu ms.length cu) w h
        have BC := S44.bad_con ms
        have NV2 := NV.out
        have VP2 := SP.out.val 0 SP.out.ne
        obtain ⟨px, hpx⟩ : ∃ z, (nthP P 0).x = z := ⟨_, rfl⟩
        obtain ⟨py, hpy⟩ : ∃ z, (nthP P 0).y = z := ⟨_, rfl⟩
        rw [hpx, hpy] at NV2 VP2
        have EX := Lib.hid hpx
        have EY := Lib.hid hpy
        have NV3 := Lib.hid NV2
        have VP := Lib.hid VP2
        clear hpx hpy NV2 VP2
        have DL := Lib.hid fun ok (e : S44.conF ms = (ok, 0)) (q : hb = true) => dt_loop NV3.out q VP.out e
        have DE := Lib.hid fun ok (e : S44.conF ms = (ok, 0)) => dt_end VP.out e
        have CC := Lib.hid (con_chk (l := ms))
        generalize S44.conF ms = R at *
        obtain ⟨okb, er⟩ := R
        simp only at CO BC CC
        go_wp2_with fail
        refine (CO.out _ OL.out).mono ?_
        rintro e32 w32 ⟨rfl, hb32⟩
        replace HB := Lib.hid (HB.out.trans (hb32.mono HB.out.size))
        replace KX := Lib.hid (KX.out.below hb32)
        replace OL := Lib.hid (OL.out.below hb32)
        clear hb32
        clear CO
        by_cases he : er = 0
        · subst he
          have ge : ((0 : Int) != 0) = false := rfl
          have ge2 : ((0 : Int) == 0) = true := rfl
          clear BC
          cases hb with
          | false =>
            clear DL DE CC
            go_wp2
            go_ret
            exact ⟨rfl, HB.out⟩
          | true =>
            have FC := Lib.hid fun w h => S44.flt_any ms (.slice pu ms.length cu) w h
            unfold S44.FlP at FC
            have DL2 := Lib.hid (DL.out okb rfl (by first | rfl | trivial))
            have DE2 := Lib.hid (DE.out okb rfl)
            have OKM := Lib.hid fun m hm => (chkL_ok (CC.out rfl)).2 m hm
            clear DL DE CC
            have KX1 := KX
            have HB1 := HB
            have OL1 := OL
            have h11 := HB.out.size
            go_wp2
            go_loopw [8, 83] (TdR ms px py w32) (fun _ i _ => ms.length - (intOf i).toNat)
            case atStart => exact ⟨0, true, rfl, rfl, Nat.zero_le _, Lib.hid (Below.refl _ _), Lib.hid fun _ j hj => absurd hj (by omega)⟩
            case round =>
              clear KX HB OL
              obtain ⟨k, rb, rfl, rfl, hk, HBR, HS⟩ := hrel
              have KX := Lib.hid (KX1.out.below HBR.out)
              have HB := Lib.hid (HB1.out.trans (HBR.out.mono h11))
              have OL := Lib.hid (OL1.out.below HBR.out)
              by_cases q : k < ms.length
              · have q' : decide (k < ms.length) = true := by simpa using q
                obtain ⟨bb, oo, hpu, hcu, hmu, M⟩ : ∃ bb oo, pu = some ⟨bb, oo, none⟩ ∧ ms.length ≤ cu ∧ cu ≤ 9223372036854775807 ∧ MsAt ms bb oo wr := by
                  rcases OL.out with ⟨e, hn⟩ | ⟨bb, oo, cc, e, h2, h3, M⟩
                  · rw [hn] at q; exact absurd q (by simp)
                  · injection e with e1 e2 e3
                    subst e1 e3
                    exact ⟨bb, oo, rfl, h2, h3, M⟩
                subst hpu
                have c0 := M.c0 k q
                have c1 := M.c1 k q
                have c2 := M.c2 k q
                have c3 := M.c3 k q
                have c4 := M.c4 k q
                have c5 := M.c5 k q
                have clt := M.lt
                clear M
                have DD := Lib.hid fun w h => S44.det_any ms (k : Int) (.slice (some ⟨bb, oo, none⟩) ms.length cu) w h
                unfold S44.DtP at DD
                have IMP := Lib.hid (DL2.out k q)
                have ST := Lib.hid fun r2 h2 => td_succ HS.out r2 h2
                have OM1 := OKM.out _ (nth_mem q)
                obtain ⟨f0, f1⟩ := miss_fit2 OM1 VP.out
                have z0 := OM1.z0
                have z1 := OM1.z1
                clear OM1
                generalize S44.detF ms (k : Int) = R at *
                obtain ⟨d, f⟩ := R
                simp only at DD IMP
                generalize nth ms k = m at *
                go_upto_region 14 with (fail)
                have KG := Lib.hid (Blk.of (vs := #[.int .i64 m.s, .int .i64 m.a, .int .i64 m.b, .int .i64 m.z, .int .i64 m.d, .int .i64 m.w]) (t := 59) (w := wr) (b := wr.heap.size) rfl)
                have hb61 : Below wr.heap.size wr (wr.alloc (.cells #[.int .i64 m.s, .int .i64 m.a, .int .i64 m.b, .int .i64 m.z, .int .i64 m.d, .int .i64 m.w] 59)) := (Below.refl _ _).alloc (Nat.le_refl _) _
                have hnG := HB.out.size
                have nzG_X := KX.out.lt
                replace HB := Lib.hid (HB.out.trans (hb61.mono HB.out.size))
                replace KX := Lib.hid (KX.out.below hb61)
                replace OL := Lib.hid (OL.out.below hb61)
                replace HBR := Lib.hid (HBR.out.trans (hb61.mono (Nat.le_trans (Nat.le_refl w32.heap.size) HBR.out.size)))
                clear hb61
                generalize wr.alloc (.cells #[.int .i64 m.s, .int .i64 m.a, .int .i64 m.b, .int .i64 m.z, .int .i64 m.d, .int .i64 m.w] 59) = w61 at *
                generalize wr.heap.size = bG at *
                have neG_X : bG ≠ w.heap.size := by omega
                clear nzG_X
                clear c0 c1 c2 c3 c4 c5 clt
                go_wp2_with fail
                refine (DD.out _ OL.out).mono ?_
                rintro e62 w62 ⟨rfl, hb62⟩
                replace HB := Lib.hid (HB.out.trans (hb62.mono HB.out.size))
                replace KX := Lib.hid (KX.out.below hb62)
                replace KG := Lib.hid (KG.out.below hb62)
                replace OL := Lib.hid (OL.out.below hb62)
                replace HBR := Lib.hid (HBR.out.trans (hb62.mono (Nat.le_trans (Nat.le_refl w32.heap.size) HBR.out.size)))
                clear hb62
                clear DD
                go_upto_region 15 with (fail)
                have ne := SP.out.ne
                obtain ⟨bP, oP, hpp, hcp, hmp, PA⟩ := pl_at (HP.out.below HB.out) ne
                subst hpp
                have p0 := PA.c0 0 ne
                have p1 := PA.c1 0 ne
                rw [EX.out] at p0
                rw [EY.out] at p1
                clear PA
                simp only [Nat.zero_mul, Nat.add_zero] at p0 p1
                have gp0 := fun d os => cell_regrown p0 d os
                have gp1 := fun d os => cell_regrown p1 d os
                clear p0 p1
                have ne2 : decide (0 < P.length) = true := by simpa using ne
                have ST2 := Lib.hid fun r2 h2 => ST.out r2 h2
                clear ST
                unfold HoldP at ST2
                have s0 : IntKind.i64.wrap (m.a * px) = m.a * px := IntWalk.i64_in _ (by omega)
                have s1 : IntKind.i64.wrap (m.b * py) = m.b * py := IntWalk.i64_in _ (by omega)
                have s2 : IntKind.i64.wrap (m.a * px + m.b * py) = m.a * px + m.b * py := IntWalk.i64_in _ (by omega)
                have s3 : IntKind.i64.wrap (m.a * px + m.b * py - m.z) = m.a * px + m.b * py - m.z := IntWalk.i64_in _ (by omega)
                have NZ := Lib.hid fun w => nsz_below (m.a * px + m.b * py - m.z) w
                have ZL := Lib.hid fun d => nsz_le (n := m.a * px + m.b * py - m.z) (d := d) (by omega) (by omega)
                generalize nsz (m.a * px + m.b * py - m.z) = zz at *
                have gG_1 := fun d os => cell_regrown (KG.out.c 1 _ rfl) d os
                have gG_2 := fun d os => cell_regrown (KG.out.c 2 _ rfl) d os
                have gG_3 := fun d os => cell_regrown (KG.out.c 3 _ rfl) d os
                have rv0 := Lib.hid (fun d os => Calls.regrown_of (NZ.out (Go.Sort.grow (redrawn w62 d) os)))
                refine wp_region_quiet_below (by kernel_rfl) (by kernel_rfl) ?_
                generalize hact : Act.mk _ _ = act
                repeat (refine wpQuiet_step (fun K hK => ?_); subst hact; go_simp; (first | (generalize hact : Act.mk _ _ = act; refine hK act ?_; clear hK K) | (apply Exists.intro; refine ⟨fun _ => ?_, ?_⟩; (with_reducible exact rv0.out _ _); generalize hact : Act.mk _ _ = act; refine hK act ?_; clear hK K) | (rw [if_neg (by decide)]; go_simp; generalize hact : Act.mk _ _ = act; refine hK act ?_; clear hK K)))
                refine wpQuiet_nil ?_
                subst hact
                intro w63 hw63
                have hb63 : Below w62.heap.size w62 w63 := by
                  obtain ⟨⟨dq, osq⟩, hw2⟩ := hw63
                  rw [hw2]; exact below_regrown _ dq osq
                clear hw63 gp0 gp1 gG_1 gG_2 gG_3 rv0
                replace HB := Lib.hid (HB.out.trans (hb63.mono HB.out.size))
                replace KX := Lib.hid (KX.out.below hb63)
                replace KG := Lib.hid (KG.out.below hb63)
                replace OL := Lib.hid (OL.out.below hb63)
                replace HBR := Lib.hid (HBR.out.trans (hb63.mono (Nat.le_trans (Nat.le_refl w32.heap.size) HBR.out.size)))
                clear hb63
                clear s0 s1 s2 s3 NZ
                go_upto_region 16 with (fail)
                go_cut [8] (fun s8 wx => wx = w63 ∧ ∃ r2 : Bool, s8 = .bool r2 ∧ Hid (r2 = true → rb = true ∧ zz ≤ m.d))
                case first =>
                  have yG := KG.out
                  have yG_0 := yG.c 0 _ rfl
                  have yG_1 := yG.c 1 _ rfl
                  have yG_2 := yG.c 2 _ rfl
                  have yG_3 := yG.c 3 _ rfl
                  have yG_4 := yG.c 4 _ rfl
                  have yG_5 := yG.c 5 _ rfl
                  have yG_z := yG.lt
                  clear yG
                  cases rb with
                  | false =>
                    go_wp2_with fail
                    go_meet
                    exact ⟨rfl, _, rfl, Lib.hid fun q => absurd q (by simp)⟩
                  | true =>
                    by_cases hz : zz ≤ m.d
                    · have gz : decide (zz ≤ m.d) = true := by simpa using hz
                      have HZ := Lib.hid hz
                      clear hz
                      go_wp2_with fail
                      go_meet
                      exact ⟨rfl, _, rfl, Lib.hid fun _ => ⟨by first | rfl | trivial, HZ.out⟩⟩
                    · have gz : decide (zz ≤ m.d) = false := by simpa using hz
                      clear hz
                      go_wp2_with fail
                      go_meet
                      exact ⟨rfl, _, rfl, Lib.hid fun q => absurd q (by simp)⟩
                case rest =>
                  obtain ⟨hwc, r2, rfl, hr2⟩ := hcut
                  subst hwc
                  have ST3 := Lib.hid (ST2.out r2 fun q => by obtain ⟨a, b⟩ := hr2.out q; have := (ZL.out m.d).1 b; exact ⟨a, by omega⟩)
                  clear ST2 hr2 HS
                  have yX := KX.out
                  have yX_0 := yX.c 0 _ rfl
                  have yX_1 := yX.c 1 _ rfl
                  have yX_2 := yX.c 2 _ rfl
                  have yX_3 := yX.c 3 _ rfl
                  have yX_4 := yX.c 4 _ rfl
                  have yX_5 := yX.c 5 _ rfl
                  have yX_6 := yX.c 6 _ rfl
                  have yX_7 := yX.c 7 _ rfl
                  have yX_8 := yX.c 8 _ rfl
                  have yX_z := yX.lt
                  clear yX
                  have yG := KG.out
                  have yG_0 := yG.c 0 _ rfl
                  have yG_1 := yG.c 1 _ rfl
                  have yG_2 := yG.c 2 _ rfl
                  have yG_3 := yG.c 3 _ rfl
                  have yG_4 := yG.c 4 _ rfl
                  have yG_5 := yG.c 5 _ rfl
                  have yG_z := yG.lt
                  clear yG
                  by_cases hf : f = 0
                  · subst hf
                    by_cases hd : d < zz
                    · have gd : decide (d < zz) = true := by simpa using hd
                      by_cases hs : m.s = fa
                      · have gs : (m.s == fa) = true := by simpa using hs
                        cases okb with
                        | true => exact absurd (IMP.out rfl hs rfl) (fun a => by have := (ZL.out d).2 a; omega)
                        | false =>
                          clear hd hs IMP ZL
                          go_wp2
                          exact ⟨⟨k + 1, r2, by go_num, rfl, by omega, HBR, ST3⟩, by simp [intOf]; omega⟩
                      · have gs : (m.s == fa) = false := by simpa using hs
                        clear hd hs IMP ZL
                        go_wp2
                        exact ⟨⟨k + 1, r2, by go_num, rfl, by omega, HBR, ST3⟩, by simp [intOf]; omega⟩
                    · have gd : decide (d < zz) = false := by simpa using hd
                      clear hd IMP ZL
                      go_wp2
                      exact ⟨⟨k + 1, r2, by go_num, rfl, by omega, HBR, ST3⟩, by simp [intOf]; omega⟩
                  · have gf : (f == 0) = false := by simpa using hf
                    clear hf IMP ZL
                    go_wp2
                    exact ⟨⟨k + 1, r2, by go_num, rfl, by omega, HBR, ST3⟩, by simp [intOf]; omega⟩
              · obtain rfl : k = ms.length := by omega
                have q' : decide (ms.length < ms.length) = false := by simp
                clear hk q
                cases rb with
                | false =>
                  generalize S44.fltF ms = R at *
                  obtain ⟨kk, ee⟩ := R
                  simp only at FC
                  go_wp2_with fail
                  refine (FC.out _ OL.out).mono ?_
                  rintro e61 w61 ⟨rfl, hb61⟩
                  replace HB := Lib.hid (HB.out.trans (hb61.mono HB.out.size))
                  replace KX := Lib.hid (KX.out.below hb61)
                  replace OL := Lib.hid (OL.out.below hb61)
                  clear hb61
                  go_wp2
                  go_ret
                  exact ⟨rfl, HB.out⟩
                | true =>
                  obtain ⟨e1, e2⟩ := DE2.out (HS.out (by first | rfl | trivial))
                  subst e1
                  clear DE2 DL2 HS
                  generalize S44.fltF ms = R at *
                  rcases e2 with e2 | e2
                  all_goals
                    subst e2
                    simp only at FC
                    go_wp2_with fail
                    refine (FC.out _ OL.out).mono ?_
                    rintro e61 w61 ⟨rfl, hb61⟩
                    replace HB := Lib.hid (HB.out.trans (hb61.mono HB.out.size))
                    replace KX := Lib.hid (KX.out.below hb61)
                    replace OL := Lib.hid (OL.out.below hb61)
                    clear hb61
                    go_wp2
                    go_ret
                    exact ⟨rfl, HB.out⟩
        · have ge : (er != 0) = true := by simpa using he
          have ge2 : (er == 0) = false := by simpa using he
          obtain rfl := BC.resolve_left he
          clear he BC DL DE CC
          cases hb with
          | false =>
            go_wp2
            go_ret
            exact ⟨rfl, HB.out⟩
          | true =>
            go_wp2
            go_ret
            exact ⟨rfl, HB.out⟩
end Go.Proofs.YtidelghgjibndaaGreat.topDetect
