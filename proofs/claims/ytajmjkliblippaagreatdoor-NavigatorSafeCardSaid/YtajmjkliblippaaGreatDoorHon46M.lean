/-
  The walk of honest.
-/
import Derived.Test.YtajmjkliblippaaGreatDoorM67
import Derived.Test.YtajmjkliblippaaGreatDoorSafe46M
import Derived.Deep.DeepCutAuto
namespace Go.Proofs.YtajmjkliblippaaGreatDoor
set_option linter.unusedVariables false
open Go.RowKit

set_option maxHeartbeats 40000000 in
set_option maxRecDepth 100000 in
theorem honest_any (cx cy x y t m tk ve vn dr rq px py qx qy fa : Int) (v : Value) (L : List Rp) (w : World) (h : RlG L v w) (hK : ∀ i, i < L.length → 0 ≤ (nthR L i).k ∧ (nthR L i).k ≤ 255) (h0 : 0 ≤ t ∧ t < tk ∧ tk ≤ 1099511627776) (rng : rngC ve vn dr (tk - t) = true) :
    Calls Tryz.prog 23 #[.agg #[.int .i64 cx, .int .i64 cy, .int .i64 x, .int .i64 y, .int .i64 t, .int .i64 m], .agg #[.int .i64 tk, v, .int .i64 ve, .int .i64 vn, .int .i64 dr, .int .i64 rq], .agg #[.int .i64 px, .int .i64 py, .int .i64 qx, .int .i64 qy, .int .i64 fa]] w fun e w' => (∃ hb : Bool, e = .returned (.bool hb) ∧ (hb = true → HonP ⟨cx, cy, x, y⟩ t tk ve vn dr L fa px py qx qy)) ∧ Below w.heap.size w w' := by
  obtain ⟨p, cap, rfl⟩ := rg_form h
  have H0 := Lib.hid h
  have KK := Lib.hid hK
  have HT0 := Lib.hid h0
  have HRG := Lib.hid rng
  clear h hK h0 rng
  obtain ⟨KS, KI, KX, HB⟩ := ent3 w #[.int .i64 cx, .int .i64 cy, .int .i64 x, .int .i64 y, .int .i64 t, .int .i64 m] 27 #[.int .i64 tk, .slice p L.length cap, .int .i64 ve, .int .i64 vn, .int .i64 dr, .int .i64 rq] 38 #[.int .i64 px, .int .i64 py, .int .i64 qx, .int .i64 qy, .int .i64 fa] 56
  go_enter Tryz.func23, Tryz.ntmps23
  go_upto_region 1 with (fail)
  generalize ((w.alloc (.cells #[.int .i64 cx, .int .i64 cy, .int .i64 x, .int .i64 y, .int .i64 t, .int .i64 m] 27)).alloc (.cells #[.int .i64 tk, .slice p L.length cap, .int .i64 ve, .int .i64 vn, .int .i64 dr, .int .i64 rq] 38)).alloc (.cells #[.int .i64 px, .int .i64 py, .int .i64 qx, .int .i64 qy, .int .i64 fa] 56) = w0 at *
  have VP := Lib.hid fun w => vldP_any px py w
  have VQ := Lib.hid fun w => vldP_any qx qy w
  have IN := Lib.hid fun w => inN_any cx cy x y px py w
  obtain ⟨vp, hvp⟩ : ∃ z, vldP px py = z := ⟨_, rfl⟩
  obtain ⟨vq, hvq⟩ : ∃ z, vldP qx qy = z := ⟨_, rfl⟩
  obtain ⟨ib, hib⟩ : ∃ z, inN cx cy x y px py = z := ⟨_, rfl⟩
  rw [hvp] at VP
  rw [hvq] at VQ
  rw [hib] at IN
  have HVP := Lib.hid hvp
  have HVQ := Lib.hid hvq
  have HIB := Lib.hid hib
  clear hvp hvq hib
  go_cut [30] (fun sq wx => (Hid (Below w.heap.size w wx) ∧ Hid (Blk [.int .i64 cx, .int .i64 cy, .int .i64 x, .int .i64 y, .int .i64 t, .int .i64 m] w.heap.size wx) ∧ Hid (Blk [.int .i64 tk, .slice p L.length cap, .int .i64 ve, .int .i64 vn, .int .i64 dr, .int .i64 rq] (w.heap.size + 1) wx) ∧ Hid (Blk [.int .i64 px, .int .i64 py, .int .i64 qx, .int .i64 qy, .int .i64 fa] (w.heap.size + 1 + 1) wx)) ∧ ∃ q : Bool, sq = .bool q ∧ Hid (q = false → vp = true ∧ vq = true ∧ ib = true))
  case first =>
    cases vp with
    | false =>
      obtain ⟨yX_0, yX_1, yX_2, yX_3, yX_4, yX_z⟩ := blk5 KX
      go_wp2_with fail
      refine (VP.out _).mono ?_
      rintro e1 w1 ⟨rfl, hb1⟩
      replace HB := hT HB hb1
      replace KS := hK KS hb1
      replace KI := hK KI hb1
      replace KX := hK KX hb1
      clear yX_0 yX_1 yX_2 yX_3 yX_4 yX_z
      clear hb1
      go_wp2_with fail
      go_meet
      exact ⟨⟨HB, KS, KI, KX⟩, _, rfl, Lib.hid (fun q => absurd q (by simp))⟩
    | true =>
      cases vq with
      | false =>
        obtain ⟨yX_0, yX_1, yX_2, yX_3, yX_4, yX_z⟩ := blk5 KX
        go_wp2_with fail
        refine (VP.out _).mono ?_
        rintro e1 w1 ⟨rfl, hb1⟩
        replace HB := hT HB hb1
        replace KS := hK KS hb1
        replace KI := hK KI hb1
        replace KX := hK KX hb1
        clear yX_0 yX_1 yX_2 yX_3 yX_4 yX_z
        clear hb1
        obtain ⟨yX_0, yX_1, yX_2, yX_3, yX_4, yX_z⟩ := blk5 KX
        go_wp2_with fail
        refine (VQ.out _).mono ?_
        rintro e2 w2 ⟨rfl, hb2⟩
        replace HB := hT HB hb2
        replace KS := hK KS hb2
        replace KI := hK KI hb2
        replace KX := hK KX hb2
        clear yX_0 yX_1 yX_2 yX_3 yX_4 yX_z
        clear hb2
        go_wp2_with fail
        go_meet
        exact ⟨⟨HB, KS, KI, KX⟩, _, rfl, Lib.hid (fun q => absurd q (by simp))⟩
      | true =>
        cases ib with
        | false =>
          obtain ⟨yX_0, yX_1, yX_2, yX_3, yX_4, yX_z⟩ := blk5 KX
          go_wp2_with fail
          refine (VP.out _).mono ?_
          rintro e1 w1 ⟨rfl, hb1⟩
          replace HB := hT HB hb1
          replace KS := hK KS hb1
          replace KI := hK KI hb1
          replace KX := hK KX hb1
          clear yX_0 yX_1 yX_2 yX_3 yX_4 yX_z
          clear hb1
          obtain ⟨yX_0, yX_1, yX_2, yX_3, yX_4, yX_z⟩ := blk5 KX
          go_wp2_with fail
          refine (VQ.out _).mono ?_
          rintro e2 w2 ⟨rfl, hb2⟩
          replace HB := hT HB hb2
          replace KS := hK KS hb2
          replace KI := hK KI hb2
          replace KX := hK KX hb2
          clear yX_0 yX_1 yX_2 yX_3 yX_4 yX_z
          clear hb2
          obtain ⟨yS_0, yS_1, yS_2, yS_3, yS_4, yS_5, yS_z⟩ := blk6 KS
          obtain ⟨yX_0, yX_1, yX_2, yX_3, yX_4, yX_z⟩ := blk5 KX
          go_wp2_with fail
          refine (IN.out _).mono ?_
          rintro e3 w3 ⟨rfl, hb3⟩
          replace HB := hT HB hb3
          replace KS := hK KS hb3
          replace KI := hK KI hb3
          replace KX := hK KX hb3
          clear yS_0 yS_1 yS_2 yS_3 yS_4 yS_5 yS_z yX_0 yX_1 yX_2 yX_3 yX_4 yX_z
          clear hb3
          go_wp2_with fail
          go_meet
          exact ⟨⟨HB, KS, KI, KX⟩, _, rfl, Lib.hid (fun q => absurd q (by simp))⟩
        | true =>
          obtain ⟨yX_0, yX_1, yX_2, yX_3, yX_4, yX_z⟩ := blk5 KX
          go_wp2_with fail
          refine (VP.out _).mono ?_
          rintro e1 w1 ⟨rfl, hb1⟩
          replace HB := hT HB hb1
          replace KS := hK KS hb1
          replace KI := hK KI hb1
          replace KX := hK KX hb1
          clear yX_0 yX_1 yX_2 yX_3 yX_4 yX_z
          clear hb1
          obtain ⟨yX_0, yX_1, yX_2, yX_3, yX_4, yX_z⟩ := blk5 KX
          go_wp2_with fail
          refine (VQ.out _).mono ?_
          rintro e2 w2 ⟨rfl, hb2⟩
          replace HB := hT HB hb2
          replace KS := hK KS hb2
          replace KI := hK KI hb2
          replace KX := hK KX hb2
          clear yX_0 yX_1 yX_2 yX_3 yX_4 yX_z
          clear hb2
          obtain ⟨yS_0, yS_1, yS_2, yS_3, yS_4, yS_5, yS_z⟩ := blk6 KS
          obtain ⟨yX_0, yX_1, yX_2, yX_3, yX_4, yX_z⟩ := blk5 KX
          go_wp2_with fail
          refine (IN.out _).mono ?_
          rintro e3 w3 ⟨rfl, hb3⟩
          replace HB := hT HB hb3
          replace KS := hK KS hb3
          replace KI := hK KI hb3
          replace KX := hK KX hb3
          clear yS_0 yS_1 yS_2 yS_3 yS_4 yS_5 yS_z yX_0 yX_1 yX_2 yX_3 yX_4 yX_z
          clear hb3
          go_wp2_with fail
          go_meet
          exact ⟨⟨HB, KS, KI, KX⟩, _, rfl, Lib.hid (fun _ => ⟨(by first | rfl | trivial), (by first | rfl | trivial), (by first | rfl | trivial)⟩)⟩
  case rest =>
    clear HB KS KI KX VP VQ IN
    obtain ⟨⟨HB, KS, KI, KX⟩, q, rfl, HQ⟩ := hcut
    go_upto_if 30 with (fail)
    cases q with
    | false =>
      obtain ⟨rfl, rfl, rfl⟩ := HQ.out (by first | rfl | trivial)
      clear HQ
      have bp := vldP_iff.1 HVP.out
      have bq := vldP_iff.1 HVQ.out
      obtain ⟨n, hn⟩ : ∃ z, tk - t = z := ⟨_, rfl⟩
      have hn2 := hn
      have rg := rngC_iff.1 HRG.out
      have h0 := HT0.out
      rw [hn] at rg
      have bn := mulb (X := 2000) (Y := 144000) (by omega) (show -2000 ≤ ve by omega) (show ve ≤ 2000 by omega) (show -144000 ≤ n by omega) (show n ≤ 144000 by omega)
      have bm := mulb (X := 2000) (Y := 144000) (by omega) (show -2000 ≤ vn by omega) (show vn ≤ 2000 by omega) (show -144000 ≤ n by omega) (show n ≤ 144000 by omega)
      have bd := mulb (X := 2000) (Y := 144000) (by omega) (show -2000 ≤ dr by omega) (show dr ≤ 2000 by omega) (show -144000 ≤ n by omega) (show n ≤ 144000 by omega)
      obtain ⟨a, ha⟩ : ∃ z, ve * n = z := ⟨_, rfl⟩
      obtain ⟨c, hc⟩ : ∃ z, vn * n = z := ⟨_, rfl⟩
      obtain ⟨r, hr⟩ : ∃ z, dr * n = z := ⟨_, rfl⟩
      rw [ha] at bn
      rw [hc] at bm
      rw [hr] at bd
      have sw : IntKind.i64.wrap (tk - t) = n := (IntWalk.i64_in _ (by omega)).trans hn
      have sa : IntKind.i64.wrap (ve * n) = a := by rw [ha]; exact IntWalk.i64_in _ (by omega)
      have sc : IntKind.i64.wrap (vn * n) = c := by rw [hc]; exact IntWalk.i64_in _ (by omega)
      have sr : IntKind.i64.wrap (dr * n) = r := by rw [hr]; exact IntWalk.i64_in _ (by omega)
      obtain ⟨u, hu⟩ : ∃ z, qx - px = z := ⟨_, rfl⟩
      obtain ⟨v, hv⟩ : ∃ z, qy - py = z := ⟨_, rfl⟩
      have su : IntKind.i64.wrap (qx - px) = u := (IntWalk.i64_in _ (by omega)).trans hu
      have sv : IntKind.i64.wrap (qy - py) = v := (IntWalk.i64_in _ (by omega)).trans hv
      obtain ⟨d, hd⟩ : ∃ z, u - a = z := ⟨_, rfl⟩
      obtain ⟨f, hf⟩ : ∃ z, v - c = z := ⟨_, rfl⟩
      have sd : IntKind.i64.wrap (u - a) = d := (IntWalk.i64_in _ (by omega)).trans hd
      have sf : IntKind.i64.wrap (v - c) = f := (IntWalk.i64_in _ (by omega)).trans hf
      have sdn : IntKind.i64.wrap (-d) = -d := IntWalk.i64_in _ (by omega)
      have sfn : IntKind.i64.wrap (-f) = -f := IntWalk.i64_in _ (by omega)
      have HD := Lib.hid (show d = qx - px - ve * (tk - t) ∧ f = qy - py - vn * (tk - t) ∧ r = dr * (tk - t) by rw [hn, ha, hc, hr]; omega)
      clear bp bq hn hn2 rg h0 bn bm bd ha hc hr hu hv hd hf
      obtain ⟨yS_0, yS_1, yS_2, yS_3, yS_4, yS_5, yS_z⟩ := blk6 KS
      obtain ⟨yI_0, yI_1, yI_2, yI_3, yI_4, yI_5, yI_z⟩ := blk6 KI
      go_upto_region 4 with (fail)
      have gX_0 := fun d os => cell_regrown (KX.out.c 0 _ rfl) d os
      have gX_1 := fun d os => cell_regrown (KX.out.c 1 _ rfl) d os
      have gX_2 := fun d os => cell_regrown (KX.out.c 2 _ rfl) d os
      have gX_3 := fun d os => cell_regrown (KX.out.c 3 _ rfl) d os
      have gI_2 := fun d os => cell_regrown (KI.out.c 2 _ rfl) d os
      have gI_3 := fun d os => cell_regrown (KI.out.c 3 _ rfl) d os
      clear yS_0 yS_1 yS_2 yS_3 yS_4 yS_5 yS_z yI_0 yI_1 yI_2 yI_3 yI_4 yI_5 yI_z
      refine wp_region_quiet_below (by kernel_rfl) (by kernel_rfl) ?_
      generalize hact : Act.mk _ _ = act
      repeat (refine wpQuiet_step (fun K hK => ?_); subst hact; go_simp; (first | (generalize hact : Act.mk _ _ = act; refine hK act ?_; clear hK K) | (rw [if_neg (by decide)]; go_simp; generalize hact : Act.mk _ _ = act; refine hK act ?_; clear hK K)))
      refine wpQuiet_nil ?_
      subst hact
      intro w1 hw1
      have hb1 : Below wc.heap.size wc w1 := by
        obtain ⟨⟨dq, osq⟩, hw2⟩ := hw1
        rw [hw2]; exact below_regrown _ dq osq
      clear hw1 gX_0 gX_1 gX_2 gX_3 gI_2 gI_3 
      replace HB := hT HB hb1
      replace KS := hK KS hb1
      replace KI := hK KI hb1
      replace KX := hK KX hb1
      clear hb1
      clear sw sa sc su sv sd sf
      obtain ⟨yI_0, yI_1, yI_2, yI_3, yI_4, yI_5, yI_z⟩ := blk6 KI
      go_upto_region 6 with (fail)
      clear yI_0 yI_1 yI_2 yI_3 yI_4 yI_5 yI_z
      clear sr
      go_cut [85] (fun sq wx => wx = w1 ∧ ∃ q : Bool, sq = .bool q ∧ Hid (q = false → (d ≤ r ∧ -d ≤ r) ∧ f ≤ r ∧ -f ≤ r))
      case first =>
        by_cases b0 : r < d
        · have gb0 : decide (r < d) = true := by simpa using b0
          clear b0
          go_wp2_with fail
          go_meet
          exact ⟨rfl, _, rfl, Lib.hid (fun q => absurd q (by simp))⟩
        · have gb0 : decide (r < d) = false := by simpa using b0
          by_cases b1 : r < -d
          · have gb1 : decide (r < -d) = true := by simpa using b1
            clear b0 b1
            go_wp2_with fail
            go_meet
            exact ⟨rfl, _, rfl, Lib.hid (fun q => absurd q (by simp))⟩
          · have gb1 : decide (r < -d) = false := by simpa using b1
            by_cases b2 : r < f
            · have gb2 : decide (r < f) = true := by simpa using b2
              clear b0 b1 b2
              go_wp2_with fail
              go_meet
              exact ⟨rfl, _, rfl, Lib.hid (fun q => absurd q (by simp))⟩
            · have gb2 : decide (r < f) = false := by simpa using b2
              by_cases b3 : r < -f
              · have gb3 : decide (r < -f) = true := by simpa using b3
                clear b0 b1 b2 b3
                go_wp2_with fail
                go_meet
                exact ⟨rfl, _, rfl, Lib.hid (fun q => absurd q (by simp))⟩
              · have gb3 : decide (r < -f) = false := by simpa using b3
                have HF := Lib.hid (show (d ≤ r ∧ -d ≤ r) ∧ f ≤ r ∧ -f ≤ r by omega)
                clear b0 b1 b2 b3
                go_wp2_with fail
                go_meet
                exact ⟨rfl, _, rfl, Lib.hid (fun _ => HF.out)⟩
      case rest =>
        obtain ⟨hwc, q, rfl, HQ⟩ := hcut
        subst hwc
        clear sdn sfn
        go_upto_if 85 with (fail)
        cases q with
        | false =>
          have HF := HQ.out (by first | rfl | trivial)
          have HXY := Lib.hid (show (qx - px - ve * (tk - t) ≤ dr * (tk - t) ∧ -(qx - px - ve * (tk - t)) ≤ dr * (tk - t)) ∧ qy - py - vn * (tk - t) ≤ dr * (tk - t) ∧ -(qy - py - vn * (tk - t)) ≤ dr * (tk - t) by obtain ⟨e1, e2, e3⟩ := HD.out; rw [← e1, ← e2, ← e3]; exact HF)
          clear HF HQ HD
          obtain ⟨yI_0, yI_1, yI_2, yI_3, yI_4, yI_5, yI_z⟩ := blk6 KI
          go_wp2
          clear yI_0 yI_1 yI_2 yI_3 yI_4 yI_5 yI_z
          go_loopw [89] (HoR L (fun wx => Hid (Below w.heap.size w wx) ∧ Hid (Blk [.int .i64 cx, .int .i64 cy, .int .i64 x, .int .i64 y, .int .i64 t, .int .i64 m] w.heap.size wx) ∧ Hid (Blk [.int .i64 tk, .slice p L.length cap, .int .i64 ve, .int .i64 vn, .int .i64 dr, .int .i64 rq] (w.heap.size + 1) wx) ∧ Hid (Blk [.int .i64 px, .int .i64 py, .int .i64 qx, .int .i64 qy, .int .i64 fa] (w.heap.size + 1 + 1) wx)) tk fa qx qy) (fun i _ => L.length - (intOf i).toNat)
          case atStart => exact ⟨0, rfl, Nat.zero_le _, ⟨HB, KS, KI, KX⟩, Lib.hid fun i hi => absurd hi (by omega)⟩
          case round =>
            clear HB KS KI KX
            obtain ⟨k, rfl, hk, ⟨HB, KS, KI, KX⟩, HA⟩ := hrel
            by_cases q : k < L.length
            · have q' : decide (k < L.length) = true := by simpa using q
              obtain ⟨bm, om, rfl, hcap, hmax, RA⟩ := rg_at (H0.out.below HB.out) q
              have c0 := RA.c0 k q
              have c1 := RA.c1 k q
              have c2 := RA.c2 k q
              have c3 := RA.c3 k q
              have c4 := RA.c4 k q
              have c5 := RA.c5 k q
              have c6 := RA.c6 k q
              have c7 := RA.c7 k q
              have clt := RA.lt
              clear RA
              have kk := KK.out k q
              have HA2 := Lib.hid fun (hh : (nthR L k).t = tk → (nthR L k).s ≠ fa → agN (nthR L k) qx qy = true) => hon_next HA.out hh
              have AG := Lib.hid fun w => agN_any (nthR L k) qx qy w kk.1 kk.2
              clear kk HA
              obtain ⟨ab, hab⟩ : ∃ z, agN (nthR L k) qx qy = z := ⟨_, rfl⟩
              rw [hab] at AG HA2
              clear hab
              generalize nthR L k = rr at *
              go_upto_region 11 with (fail)
              obtain ⟨KG, hb201⟩ := alB wr #[.int .i64 rr.s, .int .u8 rr.k, .int .i64 rr.x, .int .i64 rr.y, .int .i64 rr.v, .int .i64 rr.b, .int .i64 rr.wt, .int .i64 rr.t] 49
              have hnG := HB.out.size
              have nzG_S := KS.out.lt
              have nzG_I := KI.out.lt
              have nzG_X := KX.out.lt
              replace HB := hT HB hb201
              replace KS := hK KS hb201
              replace KI := hK KI hb201
              replace KX := hK KX hb201
              clear hb201
              generalize wr.alloc (.cells #[.int .i64 rr.s, .int .u8 rr.k, .int .i64 rr.x, .int .i64 rr.y, .int .i64 rr.v, .int .i64 rr.b, .int .i64 rr.wt, .int .i64 rr.t] 49) = w201 at *
              generalize wr.heap.size = bG at *
              have neG_S : bG ≠ w.heap.size := by omega
              have neG_I : bG ≠ (w.heap.size + 1) := by omega
              have neG_X : bG ≠ (w.heap.size + 1 + 1) := by omega
              clear nzG_S nzG_I nzG_X
              clear c0 c1 c2 c3 c4 c5 c6 c7 clt
              by_cases ht : rr.t = tk
              · have gt : (rr.t == tk) = true := by simpa using ht
                by_cases hs : rr.s = fa
                · have gs : (rr.s != fa) = false := by simpa using hs
                  have HA3 := Lib.hid (HA2.out fun _ e => absurd hs e)
                  clear HA2 ht hs AG
                  obtain ⟨yI_0, yI_1, yI_2, yI_3, yI_4, yI_5, yI_z⟩ := blk6 KI
                  obtain ⟨yX_0, yX_1, yX_2, yX_3, yX_4, yX_z⟩ := blk5 KX
                  obtain ⟨yG_0, yG_1, yG_2, yG_3, yG_4, yG_5, yG_6, yG_7, yG_z⟩ := blk8 KG
                  go_wp2
                  exact ⟨⟨k + 1, by go_num, by omega, ⟨HB, KS, KI, KX⟩, HA3⟩, by simp [intOf]; omega⟩
                · have gs : (rr.s != fa) = true := by simpa using hs
                  clear hs ht
                  obtain ⟨yI_0, yI_1, yI_2, yI_3, yI_4, yI_5, yI_z⟩ := blk6 KI
                  obtain ⟨yX_0, yX_1, yX_2, yX_3, yX_4, yX_z⟩ := blk5 KX
                  obtain ⟨yG_0, yG_1, yG_2, yG_3, yG_4, yG_5, yG_6, yG_7, yG_z⟩ := blk8 KG
                  go_wp2_with fail
                  refine (AG.out _).mono ?_
                  rintro e202 w202 ⟨rfl, hb202⟩
                  replace HB := hT HB hb202
                  replace KS := hK KS hb202
                  replace KI := hK KI hb202
                  replace KX := hK KX hb202
                  replace KG := hK KG hb202
                  clear yI_0 yI_1 yI_2 yI_3 yI_4 yI_5 yI_z yX_0 yX_1 yX_2 yX_3 yX_4 yX_z yG_0 yG_1 yG_2 yG_3 yG_4 yG_5 yG_6 yG_7 yG_z
                  clear hb202
                  cases ab with
                  | false =>
                    clear HA2
                    go_wp2
                    go_ret
                    exact ⟨⟨false, rfl, fun q => absurd q (by simp)⟩, HB.out⟩
                  | true =>
                    have HA3 := Lib.hid (HA2.out fun _ _ => (by first | rfl | trivial))
                    clear HA2
                    go_wp2
                    exact ⟨⟨k + 1, by go_num, by omega, ⟨HB, KS, KI, KX⟩, HA3⟩, by simp [intOf]; omega⟩
              · have gt : (rr.t == tk) = false := by simpa using ht
                have HA3 := Lib.hid (HA2.out fun e => absurd e ht)
                clear HA2 ht AG
                obtain ⟨yI_0, yI_1, yI_2, yI_3, yI_4, yI_5, yI_z⟩ := blk6 KI
                obtain ⟨yG_0, yG_1, yG_2, yG_3, yG_4, yG_5, yG_6, yG_7, yG_z⟩ := blk8 KG
                go_wp2
                exact ⟨⟨k + 1, by go_num, by omega, ⟨HB, KS, KI, KX⟩, HA3⟩, by simp [intOf]; omega⟩
            · obtain rfl : k = L.length := by omega
              have q' : decide (L.length < L.length) = false := by simp
              go_wp2
              go_ret
              exact ⟨⟨true, rfl, fun _ => ⟨(vld_pv2 qx qy).symm.trans HVQ.out, HIB.out, HXY.out.1, HXY.out.2, fun i hi => HA.out i hi⟩⟩, HB.out⟩
        | true =>
          clear HQ
          go_wp2
          go_ret
          exact ⟨⟨false, rfl, fun q => absurd q (by simp)⟩, HB.out⟩
    | true =>
      clear HQ
      go_wp2
      go_ret
      exact ⟨⟨false, rfl, fun q => absurd q (by simp)⟩, HB.out⟩
end Go.Proofs.YtajmjkliblippaaGreatDoor
