/-
  The walk of the law TopUsable.
-/
import Derived.Test.YtidelghgjibndaaGreatM7t8
import Derived.Test.YtidelghgjibndaaGreatSafe7M
import Derived.Deep.DeepCutAuto
import Derived.Test.YtidelghgjibndaaGreatTopUsableRM
namespace Go.Proofs.YtidelghgjibndaaGreat.topUsable
set_option linter.unusedVariables false
open Go.ChangeShapes Go.WideShapes Go.ChangeAt Go.RowKit

def UsR (l : List Cy) (w : World) (u7 : Value) (wr : World) : Prop := ∃ (k : Nat) (cx cy x y t m px py : Int), u7 = .int .i64 k ∧ k ≤ l.length ∧ Hid (Below w.heap.size w wr) ∧ Hid (Blk [.int .i64 cx, .int .i64 cy, .int .i64 x, .int .i64 y, .int .i64 t, .int .i64 m] w.heap.size wr) ∧ Hid (Blk [.int .i64 px, .int .i64 py] (w.heap.size + 1) wr)
set_option maxHeartbeats 40000000 in
set_option maxRecDepth 100000 in
theorem walk (sx sy s1 s2 s3 s4 fx fy : Int) (v : Value) (l : List Cy) (w : World) (h : CyG l v w) :
    Calls Tryz.prog 7 #[.agg #[.int .i64 sx, .int .i64 sy, .int .i64 s1, .int .i64 s2, .int .i64 s3, .int .i64 s4], .agg #[.int .i64 fx, .int .i64 fy], v] w fun e w' => e = .returned (.bool true) ∧ Below w.heap.size w w' := by
  obtain ⟨p, cap, rfl⟩ := cg_form h
  have H0 := Lib.hid h
  clear h
  obtain ⟨KS, KF, HB⟩ := ent2 w #[.int .i64 sx, .int .i64 sy, .int .i64 s1, .int .i64 s2, .int .i64 s3, .int .i64 s4] 41 #[.int .i64 fx, .int .i64 fy] 24
  go_enter Tryz.func7, Tryz.ntmps7
  go_wp2_with fail
  generalize (w.alloc (.cells #[.int .i64 sx, .int .i64 sy, .int .i64 s1, .int .i64 s2, .int .i64 s3, .int .i64 s4] 41)).alloc (.cells #[.int .i64 fx, .int .i64 fy] 24) = w0 at *
  refine (ready_any _).mono ?_
  rintro e1 w1 ⟨rfl, hb1⟩
  replace HB := hT HB hb1
  replace KS := hK KS hb1
  replace KF := hK KF hb1
  clear hb1
  go_wp2
  go_loopw [7] (UsR l w) (fun i _ => l.length - (intOf i).toNat)
  case atStart => exact ⟨0, sx, sy, s1, s2, s3, s4, fx, fy, rfl, Nat.zero_le _, HB, KS, KF⟩
  case round =>
    clear HB KS KF
    obtain ⟨k, cx, cy, x, y, t, m, px, py, rfl, hk, HB, KS, KF⟩ := hrel
    by_cases q : k < l.length
    · by_cases q8 : k < 24
      · have q' : decide (k < l.length) = true := by simpa using q
        have q8' : decide (k < 24) = true := by simpa using q8
        have q9 : decide ((k : Int) < 24) = true := by simp; omega
        obtain ⟨bm, om, rfl, hcap, hmax, y0, MM⟩ := cg_at (H0.out.below HB.out) q
        obtain ⟨y1, y2, y3, y4, y5, HE, y6⟩ := cg_at H0.out q
        clear y0 y3 y4 y5 y6
        have c0 := MM.c0
        have c1 := MM.c1
        have c2 := MM.c2
        have c3 := MM.c3
        have c4 := MM.c4
        have c5 := MM.c5
        have c6 := MM.c6
        have c7 := MM.c7
        have c8 := MM.c8
        have clt := MM.lt
        have R0 := HE.rl
        have K0 := HE.kd
        clear MM HE
        generalize nthC l k = cc at *
        obtain ⟨tk, rv, ve, vn, dr, rq, qx, qy, fa, L⟩ := cc
        simp only at c0 c1 c2 c3 c4 c5 c6 c7 c8 R0 K0
        obtain ⟨pr, capr, rfl⟩ := rg_form R0
        obtain ⟨e1, e2, e3⟩ := rg_cap R0
        have R9 := rg_cut R0 9
        have K9 := kd_take 9 K0
        have m1' : min (L.length : Int) 9 = ((L.take 9).length : Int) := by rw [List.length_take]; omega
        have m2' : (L.take 9).length ≤ capr := by rw [List.length_take]; omega
        have m3' : (L.take 9).length ≤ 9 := by rw [List.length_take]; omega
        generalize L.take 9 = T at *
        have RL := Lib.hid R9
        have KK := Lib.hid K9
        have TL := Lib.hid m3'
        clear R0 K0 R9 K9 e1 e2 e3 m3'
        go_upto_region 7 with (fail)
        obtain ⟨KC, hb41⟩ := alB wr #[.int .i64 tk, .slice pr L.length capr, .int .i64 ve, .int .i64 vn, .int .i64 dr, .int .i64 rq, .int .i64 qx, .int .i64 qy, .int .i64 fa] 64
        have hnC := HB.out.size
        have nzC_S := KS.out.lt
        have nzC_F := KF.out.lt
        replace HB := hT HB hb41
        replace KS := hK KS hb41
        replace KF := hK KF hb41
        clear hb41
        generalize wr.alloc (.cells #[.int .i64 tk, .slice pr L.length capr, .int .i64 ve, .int .i64 vn, .int .i64 dr, .int .i64 rq, .int .i64 qx, .int .i64 qy, .int .i64 fa] 64) = w41 at *
        generalize wr.heap.size = bC at *
        have neC_S : bC ≠ w.heap.size := by omega
        have neC_F : bC ≠ (w.heap.size + 1) := by omega
        clear nzC_S nzC_F
        clear c0 c1 c2 c3 c4 c5 c6 c7 c8 clt
        obtain ⟨yC_0, yC_1, yC_2, yC_3, yC_4, yC_5, yC_6, yC_7, yC_8, yC_z, yC_f0, yC_f1, yC_f2, yC_f3, yC_f4, yC_f5, yC_f6, yC_f7, yC_f8⟩ := blf9 KC
        go_upto_region 8 with (fail)
        have hs := st1 w41 bC 1 (.slice pr T.length capr)
        replace KS := oB hs KS (by omega)
        replace KF := oB hs KF (by omega)
        replace KC := Lib.hid (blk_set KC.out (j := 1) (by simp) (.slice pr T.length capr))
        replace HB := oH hs HB (by omega)
        clear hs
        clear yC_0 yC_1 yC_2 yC_3 yC_4 yC_5 yC_6 yC_7 yC_8 yC_z yC_f0 yC_f1 yC_f2 yC_f3 yC_f4 yC_f5 yC_f6 yC_f7 yC_f8
        generalize w41.setCell ⟨bC, 1, none⟩ (.slice pr T.length capr) = w42 at *
        simp only [List.set] at KC
        clear m1' m2'
        obtain ⟨yS_0, yS_1, yS_2, yS_3, yS_4, yS_5, yS_z⟩ := blk6 KS
        obtain ⟨yC_0, yC_1, yC_2, yC_3, yC_4, yC_5, yC_6, yC_7, yC_8, yC_z⟩ := blk9 KC
        by_cases he : stpE2 ⟨cx, cy, x, y⟩ t m tk ve vn dr rq T.length = 0
        · have SF := Lib.hid fun (p : HonP ⟨cx, cy, x, y⟩ t tk ve vn dr T fa px py qx qy) => stp_safe he p
          obtain ⟨⟨t0, t1, t2⟩, _, ⟨r0, r1⟩, rng, _, _, nv, _⟩ := stp_facts he
          have SG := fun w h => step_okR ⟨cx, cy, x, y⟩ t m tk ve vn dr rq T (.slice pr T.length capr) w h KK.out he
          have HT0 := Lib.hid (show 0 ≤ t ∧ t < tk ∧ tk ≤ 1099511627776 from ⟨t0, t1, t2⟩)
          have HRG := Lib.hid rng
          have HRQ := Lib.hid (show 0 ≤ rq ∧ rq ≤ 2000000 from ⟨r0, r1⟩)
          clear he t0 t1 t2 r0 r1 rng
          generalize stpC ⟨cx, cy, x, y⟩ t m tk ve vn dr T = cy' at *
          obtain ⟨⟨nx, ny, n1, n2⟩, ms, ex⟩ := cy'
          simp only at SG nv SF
          have HNV := Lib.hid nv
          obtain ⟨us, hus⟩ : ∃ z, useB n1 n2 rq = z := ⟨_, rfl⟩
          rw [hus] at SG
          have HUS := Lib.hid hus
          have SG := Lib.hid SG
          clear nv hus
          go_wp2_with fail
          refine (SG.out _ (RL.out.below HB.out)).mono ?_
          rintro e43 w43 ⟨rfl, hb43⟩
          replace HB := hT HB hb43
          replace KS := hK KS hb43
          replace KF := hK KF hb43
          replace KC := hK KC hb43
          clear yS_0 yS_1 yS_2 yS_3 yS_4 yS_5 yS_z yC_0 yC_1 yC_2 yC_3 yC_4 yC_5 yC_6 yC_7 yC_8 yC_z
          clear hb43
          clear SG
          go_upto_region 9 with (fail)
          have KN := Lib.hid ((Blk.of (vs := #[.int .i64 nx, .int .i64 ny, .int .i64 n1, .int .i64 n2, .int .i64 tk, .int .i64 ms]) (t := 41) (w := w43) (b := w43.heap.size) rfl).alloc (.cells #[.int .i64 nx, .int .i64 ny, .int .i64 n1, .int .i64 n2, .bool us, .int .i64 ex] 48))
          have KE := Lib.hid (Blk.of (vs := #[.int .i64 nx, .int .i64 ny, .int .i64 n1, .int .i64 n2, .bool us, .int .i64 ex]) (t := 48) (w := w43.alloc (.cells #[.int .i64 nx, .int .i64 ny, .int .i64 n1, .int .i64 n2, .int .i64 tk, .int .i64 ms] 41)) (b := w43.heap.size + 1) (by simp))
          have hb44 : Below w43.heap.size w43 ((w43.alloc (.cells #[.int .i64 nx, .int .i64 ny, .int .i64 n1, .int .i64 n2, .int .i64 tk, .int .i64 ms] 41)).alloc (.cells #[.int .i64 nx, .int .i64 ny, .int .i64 n1, .int .i64 n2, .bool us, .int .i64 ex] 48)) := ((Below.refl _ _).alloc (Nat.le_refl _) _).alloc (by simp) _
          have hnN := HB.out.size
          have nzN_S := KS.out.lt
          have nzN_F := KF.out.lt
          have nzN_C := KC.out.lt
          replace HB := hT HB hb44
          replace KS := hK KS hb44
          replace KF := hK KF hb44
          replace KC := hK KC hb44
          clear hb44
          generalize (w43.alloc (.cells #[.int .i64 nx, .int .i64 ny, .int .i64 n1, .int .i64 n2, .int .i64 tk, .int .i64 ms] 41)).alloc (.cells #[.int .i64 nx, .int .i64 ny, .int .i64 n1, .int .i64 n2, .bool us, .int .i64 ex] 48) = w44 at *
          generalize w43.heap.size = bN at *
          have neN_S : bN ≠ w.heap.size := by omega
          have neE_S : bN + 1 ≠ w.heap.size := by omega
          have neN_F : bN ≠ (w.heap.size + 1) := by omega
          have neE_F : bN + 1 ≠ (w.heap.size + 1) := by omega
          have neN_C : bN ≠ bC := by omega
          have neE_C : bN + 1 ≠ bC := by omega
          clear nzN_S nzN_F nzN_C
          obtain ⟨n, hn⟩ : ∃ z, tk - t = z := ⟨_, rfl⟩
          have sw : IntKind.i64.wrap (tk - t) = n := (IntWalk.i64_in _ (by have := HT0.out; omega)).trans hn
          have HN := Lib.hid hn
          have rg := rngC_iff.1 HRG.out
          rw [hn] at rg
          have bd := mulb (X := 2000) (Y := 144000) (by omega) (show -2000 ≤ dr by omega) (show dr ≤ 2000 by omega) (show -144000 ≤ n by omega) (show n ≤ 144000 by omega)
          obtain ⟨r, hr⟩ : ∃ z, dr * n = z := ⟨_, rfl⟩
          rw [hr] at bd
          have sr : IntKind.i64.wrap (dr * n) = r := by rw [hr]; exact IntWalk.i64_in _ (by omega)
          have HR := Lib.hid hr
          have HRGN := Lib.hid rg
          have HRB := Lib.hid bd
          clear hn hr rg bd
          obtain ⟨yS_0, yS_1, yS_2, yS_3, yS_4, yS_5, yS_z⟩ := blk6 KS
          obtain ⟨yC_0, yC_1, yC_2, yC_3, yC_4, yC_5, yC_6, yC_7, yC_8, yC_z⟩ := blk9 KC
          go_upto_region 13 with (fail)
          clear yS_0 yS_1 yS_2 yS_3 yS_4 yS_5 yS_z yC_0 yC_1 yC_2 yC_3 yC_4 yC_5 yC_6 yC_7 yC_8 yC_z
          clear sw sr
          go_cut [123] (fun sq wx => (Hid (Below w.heap.size w wx) ∧ Hid (Blk [.int .i64 cx, .int .i64 cy, .int .i64 x, .int .i64 y, .int .i64 t, .int .i64 m] w.heap.size wx) ∧ Hid (Blk [.int .i64 px, .int .i64 py] (w.heap.size + 1) wx) ∧ Hid (Blk [.int .i64 tk, .slice pr T.length capr, .int .i64 ve, .int .i64 vn, .int .i64 dr, .int .i64 rq, .int .i64 qx, .int .i64 qy, .int .i64 fa] bC wx) ∧ Hid (Blk [.int .i64 nx, .int .i64 ny, .int .i64 n1, .int .i64 n2, .int .i64 tk, .int .i64 ms] bN wx) ∧ Hid (Blk [.int .i64 nx, .int .i64 ny, .int .i64 n1, .int .i64 n2, .bool us, .int .i64 ex] (bN + 1) wx)) ∧ ∃ q : Bool, sq = .bool q ∧ Hid (q = false → vldP px py = true ∧ vldP qx qy = true ∧ inN cx cy x y px py = true ∧ (qx - px - ve * n ≤ r ∧ -(qx - px - ve * n) ≤ r) ∧ qy - py - vn * n ≤ r ∧ -(qy - py - vn * n) ≤ r))
          case first =>
            refine reg13 KS KF KC HRGN HRB _ _ ?_
            intro u72 u73 u74 u75 u76 u77 u78 u79 u80 u81 u82 u83 u84 u85 u86 u87 u88 u89 u90 u91 u92 u93 u94 u95 u96 u97 u98 u99 u100 u101 u102 u103 u104 u105 u106 u107 u108 u109 u110 u111 u112 u113 u114 u115 u116 u117 u118 u119 u120 u121 u122 q wx hb hq
            replace HB := hT HB hb
            replace KS := hK KS hb
            replace KF := hK KF hb
            replace KC := hK KC hb
            replace KN := hK KN hb
            replace KE := hK KE hb
            have HQ := Lib.hid hq
            clear hb hq
            go_wp2_with fail
            go_meet
            exact ⟨⟨HB, KS, KF, KC, KN, KE⟩, _, rfl, HQ⟩
          case rest =>
            clear HB KS KF KC KN KE HRB
            obtain ⟨⟨HB, KS, KF, KC, KN, KE⟩, q, rfl, HQ⟩ := hcut
            go_upto_if 123 with (fail)
            cases q with
            | false =>
              obtain ⟨hvp, hvq, hib, hx1, hy1⟩ := HQ.out (by first | rfl | trivial)
              have HVQ := Lib.hid hvq
              have HIB := Lib.hid hib
              clear hvp hvq hib
              have HXY := Lib.hid (show (qx - px - ve * (tk - t) ≤ dr * (tk - t) ∧ -(qx - px - ve * (tk - t)) ≤ dr * (tk - t)) ∧ qy - py - vn * (tk - t) ≤ dr * (tk - t) ∧ -(qy - py - vn * (tk - t)) ≤ dr * (tk - t) by rw [HN.out, HR.out]; exact ⟨hx1, hy1⟩)
              clear HQ hx1 hy1 HN HR HRGN HRG
              obtain ⟨yC_0, yC_1, yC_2, yC_3, yC_4, yC_5, yC_6, yC_7, yC_8, yC_z⟩ := blk9 KC
              go_wp2
              clear yC_0 yC_1 yC_2 yC_3 yC_4 yC_5 yC_6 yC_7 yC_8 yC_z
              go_loopw [128] (HoR T (fun wx => Hid (Below w.heap.size w wx) ∧ Hid (Blk [.int .i64 cx, .int .i64 cy, .int .i64 x, .int .i64 y, .int .i64 t, .int .i64 m] w.heap.size wx) ∧ Hid (Blk [.int .i64 px, .int .i64 py] (w.heap.size + 1) wx) ∧ Hid (Blk [.int .i64 tk, .slice pr T.length capr, .int .i64 ve, .int .i64 vn, .int .i64 dr, .int .i64 rq, .int .i64 qx, .int .i64 qy, .int .i64 fa] bC wx) ∧ Hid (Blk [.int .i64 nx, .int .i64 ny, .int .i64 n1, .int .i64 n2, .int .i64 tk, .int .i64 ms] bN wx) ∧ Hid (Blk [.int .i64 nx, .int .i64 ny, .int .i64 n1, .int .i64 n2, .bool us, .int .i64 ex] (bN + 1) wx)) tk fa qx qy) (fun i _ => T.length - (intOf i).toNat)
              case atStart => exact ⟨0, rfl, Nat.zero_le _, ⟨HB, KS, KF, KC, KN, KE⟩, Lib.hid fun i hi => absurd hi (by omega)⟩
              case round =>
                clear HB KS KF KC KN KE
                obtain ⟨j, rfl, hj, ⟨HB, KS, KF, KC, KN, KE⟩, HA⟩ := hrel
                by_cases qj : j < T.length
                · have qj' : decide (j < T.length) = true := by simpa using qj
                  obtain ⟨b2, o2, rfl, hcap2, hmax2, RA⟩ := rg_at (RL.out.below HB.out) qj
                  have c0 := RA.c0 j qj
                  have c1 := RA.c1 j qj
                  have c2 := RA.c2 j qj
                  have c3 := RA.c3 j qj
                  have c4 := RA.c4 j qj
                  have c5 := RA.c5 j qj
                  have c6 := RA.c6 j qj
                  have c7 := RA.c7 j qj
                  have clt := RA.lt
                  clear RA
                  have kk := KK.out j qj
                  have HA2 := Lib.hid fun (hh : (nthR T j).t = tk → (nthR T j).s ≠ fa → agN (nthR T j) qx qy = true) => hon_next HA.out hh
                  have AG := Lib.hid fun w => agN_any (nthR T j) qx qy w kk.1 kk.2
                  clear kk HA
                  obtain ⟨ab, hab⟩ : ∃ z, agN (nthR T j) qx qy = z := ⟨_, rfl⟩
                  rw [hab] at AG HA2
                  clear hab
                  generalize nthR T j = rr at *
                  go_upto_region 18 with (fail)
                  obtain ⟨KG, hb201⟩ := alB wr #[.int .i64 rr.s, .int .u8 rr.k, .int .i64 rr.x, .int .i64 rr.y, .int .i64 rr.v, .int .i64 rr.b, .int .i64 rr.wt, .int .i64 rr.t] 68
                  have hnG := HB.out.size
                  have nzG_S := KS.out.lt
                  have nzG_F := KF.out.lt
                  have nzG_C := KC.out.lt
                  have nzG_N := KN.out.lt
                  have nzG_E := KE.out.lt
                  replace HB := hT HB hb201
                  replace KS := hK KS hb201
                  replace KF := hK KF hb201
                  replace KC := hK KC hb201
                  replace KN := hK KN hb201
                  replace KE := hK KE hb201
                  clear hb201
                  generalize wr.alloc (.cells #[.int .i64 rr.s, .int .u8 rr.k, .int .i64 rr.x, .int .i64 rr.y, .int .i64 rr.v, .int .i64 rr.b, .int .i64 rr.wt, .int .i64 rr.t] 68) = w201 at *
                  generalize wr.heap.size = bG at *
                  have neG_S : bG ≠ w.heap.size := by omega
                  have neG_F : bG ≠ (w.heap.size + 1) := by omega
                  have neG_C : bG ≠ bC := by omega
                  have neG_N : bG ≠ bN := by omega
                  have neG_E : bG ≠ (bN + 1) := by omega
                  clear nzG_S nzG_F nzG_C nzG_N nzG_E
                  clear c0 c1 c2 c3 c4 c5 c6 c7 clt
                  by_cases ht : rr.t = tk
                  · have gt : (rr.t == tk) = true := by simpa using ht
                    by_cases hs : rr.s = fa
                    · have gs : (rr.s != fa) = false := by simpa using hs
                      have HA3 := Lib.hid (HA2.out fun _ e => absurd hs e)
                      clear HA2 ht hs AG
                      obtain ⟨yC_0, yC_1, yC_2, yC_3, yC_4, yC_5, yC_6, yC_7, yC_8, yC_z⟩ := blk9 KC
                      obtain ⟨yG_0, yG_1, yG_2, yG_3, yG_4, yG_5, yG_6, yG_7, yG_z⟩ := blk8 KG
                      go_wp2
                      exact ⟨⟨j + 1, by go_num, by omega, ⟨HB, KS, KF, KC, KN, KE⟩, HA3⟩, by simp [intOf]; omega⟩
                    · have gs : (rr.s != fa) = true := by simpa using hs
                      clear hs ht
                      obtain ⟨yC_0, yC_1, yC_2, yC_3, yC_4, yC_5, yC_6, yC_7, yC_8, yC_z⟩ := blk9 KC
                      obtain ⟨yG_0, yG_1, yG_2, yG_3, yG_4, yG_5, yG_6, yG_7, yG_z⟩ := blk8 KG
                      go_wp2_with fail
                      refine (AG.out _).mono ?_
                      rintro e202 w202 ⟨rfl, hb202⟩
                      replace HB := hT HB hb202
                      replace KS := hK KS hb202
                      replace KF := hK KF hb202
                      replace KC := hK KC hb202
                      replace KN := hK KN hb202
                      replace KE := hK KE hb202
                      replace KG := hK KG hb202
                      clear yC_0 yC_1 yC_2 yC_3 yC_4 yC_5 yC_6 yC_7 yC_8 yC_z yG_0 yG_1 yG_2 yG_3 yG_4 yG_5 yG_6 yG_7 yG_z
                      clear hb202
                      cases ab with
                      | false =>
                        clear HA2
                        go_wp2
                        go_ret
                        exact ⟨rfl, HB.out⟩
                      | true =>
                        have HA3 := Lib.hid (HA2.out fun _ _ => (by first | rfl | trivial))
                        clear HA2
                        go_wp2
                        exact ⟨⟨j + 1, by go_num, by omega, ⟨HB, KS, KF, KC, KN, KE⟩, HA3⟩, by simp [intOf]; omega⟩
                  · have gt : (rr.t == tk) = false := by simpa using ht
                    have HA3 := Lib.hid (HA2.out fun e => absurd e ht)
                    clear HA2 ht AG
                    obtain ⟨yC_0, yC_1, yC_2, yC_3, yC_4, yC_5, yC_6, yC_7, yC_8, yC_z⟩ := blk9 KC
                    obtain ⟨yG_0, yG_1, yG_2, yG_3, yG_4, yG_5, yG_6, yG_7, yG_z⟩ := blk8 KG
                    go_wp2
                    exact ⟨⟨j + 1, by go_num, by omega, ⟨HB, KS, KF, KC, KN, KE⟩, HA3⟩, by simp [intOf]; omega⟩
                · obtain rfl : j = T.length := by omega
                  have qj' : decide (T.length < T.length) = false := by simp
                  have HP : HonP ⟨cx, cy, x, y⟩ t tk ve vn dr T fa px py qx qy := ⟨(vld_pv2 qx qy).symm.trans HVQ.out, HIB.out, HXY.out.1, HXY.out.2, fun i hi => HA.out i hi⟩
                  obtain ⟨s1', s2', s3'⟩ := SF.out HP
                  unfold inB at s2'
                  simp only at s1' s2' s3'
                  have bq := vldP_iff.1 HVQ.out
                  have bn := bxV_iff.1 HNV.out
                  simp only at bn
                  have IN := Lib.hid fun w => inN_any nx ny n1 n2 qx qy w
                  rw [s1'] at IN
                  clear s1' HP HA HXY HIB SF
                  obtain ⟨dx, hdx⟩ : ∃ z, qx - nx = z := ⟨_, rfl⟩
                  obtain ⟨dy, hdy⟩ : ∃ z, qy - ny = z := ⟨_, rfl⟩
                  have w1' : IntKind.i64.wrap (qx - nx) = dx := (IntWalk.i64_in _ (by omega)).trans hdx
                  have w2' : IntKind.i64.wrap (qy - ny) = dy := (IntWalk.i64_in _ (by omega)).trans hdy
                  have NX := Lib.hid fun w => nsz_below dx w
                  have NY := Lib.hid fun w => nsz_below dy w
                  have gu := Lib.hid fun (q : us = true) => show decide (rq < nsz dx) = false ∧ decide (rq < nsz dy) = false by have hus := HUS.out; rw [q] at hus; unfold useB at hus; simp only [Bool.and_eq_true, decide_eq_true_eq] at hus; have k1 := (nsz_le (n := dx) (d := rq) (by omega) (by omega)).2 (by omega); have k2 := (nsz_le (n := dy) (d := rq) (by omega) (by omega)).2 (by omega); constructor <;> (simp; omega)
                  have S3 := Lib.hid s3'
                  clear bq bn hdx hdy s2' s3'
                  go_upto_region 21 with (fail)
                  go_cut [202] (fun sq wx => (Hid (Below w.heap.size w wx) ∧ Hid (Blk [.int .i64 cx, .int .i64 cy, .int .i64 x, .int .i64 y, .int .i64 t, .int .i64 m] w.heap.size wx) ∧ Hid (Blk [.int .i64 px, .int .i64 py] (w.heap.size + 1) wx) ∧ Hid (Blk [.int .i64 tk, .slice pr T.length capr, .int .i64 ve, .int .i64 vn, .int .i64 dr, .int .i64 rq, .int .i64 qx, .int .i64 qy, .int .i64 fa] bC wx) ∧ Hid (Blk [.int .i64 nx, .int .i64 ny, .int .i64 n1, .int .i64 n2, .int .i64 tk, .int .i64 ms] bN wx) ∧ Hid (Blk [.int .i64 nx, .int .i64 ny, .int .i64 n1, .int .i64 n2, .bool us, .int .i64 ex] (bN + 1) wx)) ∧ sq = .bool false)
                  case first =>
                    refine reg21 KC KN KE IN NX NY w1' w2' gu S3 _ _ ?_
                    intro u153 u154 u155 u156 u157 u158 u159 u160 u161 u162 u163 u164 u165 u166 u167 u168 u169 u170 u171 u172 u173 u174 u175 u176 u177 u178 u179 u180 u181 u182 u183 u184 u185 u186 u187 u188 u189 u190 u191 u192 u193 u194 u195 u196 u197 u198 u199 u200 u201 wx hb
                    replace HB := hT HB hb
                    replace KS := hK KS hb
                    replace KF := hK KF hb
                    replace KC := hK KC hb
                    replace KN := hK KN hb
                    replace KE := hK KE hb
                    clear hb
                    go_wp2_with fail
                    go_meet
                    exact ⟨⟨HB, KS, KF, KC, KN, KE⟩, rfl⟩
                  case rest =>
                    clear HB KS KF KC KN KE IN NX NY gu S3 w1' w2'
                    obtain ⟨⟨HB, KS, KF, KC, KN, KE⟩, rfl⟩ := hcut
                    go_upto_if 202 with (fail)
                    go_upto_region 23 with (fail)
                    obtain ⟨yS_0, yS_1, yS_2, yS_3, yS_4, yS_5, yS_z, yS_f0, yS_f1, yS_f2, yS_f3, yS_f4, yS_f5⟩ := blf6 KS
                    obtain ⟨yF_0, yF_1, yF_z, yF_f0, yF_f1⟩ := blf2 KF
                    obtain ⟨yC_0, yC_1, yC_2, yC_3, yC_4, yC_5, yC_6, yC_7, yC_8, yC_z⟩ := blk9 KC
                    obtain ⟨yN_0, yN_1, yN_2, yN_3, yN_4, yN_5, yN_z⟩ := blk6 KN
                    go_region
                    have hs := st6 wc w.heap.size 0 (.int .i64 nx) 1 (.int .i64 ny) 2 (.int .i64 n1) 3 (.int .i64 n2) 4 (.int .i64 tk) 5 (.int .i64 ms)
                    replace KS := Lib.hid (blk_set (blk_set (blk_set (blk_set (blk_set (blk_set KS.out (j := 0) (by simp) (.int .i64 nx)) (j := 1) (by simp) (.int .i64 ny)) (j := 2) (by simp) (.int .i64 n1)) (j := 3) (by simp) (.int .i64 n2)) (j := 4) (by simp) (.int .i64 tk)) (j := 5) (by simp) (.int .i64 ms))
                    replace KF := oB hs KF (by omega)
                    replace KC := oB hs KC (by omega)
                    replace KN := oB hs KN (by omega)
                    replace KE := oB hs KE (by omega)
                    replace HB := oH hs HB (by omega)
                    clear hs
                    clear yS_0 yS_1 yS_2 yS_3 yS_4 yS_5 yS_z yS_f0 yS_f1 yS_f2 yS_f3 yS_f4 yS_f5 yF_0 yF_1 yF_z yF_f0 yF_f1 yC_0 yC_1 yC_2 yC_3 yC_4 yC_5 yC_6 yC_7 yC_8 yC_z yN_0 yN_1 yN_2 yN_3 yN_4 yN_5 yN_z
                    simp only [List.set] at KS
                    have hs := st2 ((((((wc.setCell ⟨w.heap.size, 0, none⟩ (.int .i64 nx)).setCell ⟨w.heap.size, 1, none⟩ (.int .i64 ny)).setCell ⟨w.heap.size, 2, none⟩ (.int .i64 n1)).setCell ⟨w.heap.size, 3, none⟩ (.int .i64 n2)).setCell ⟨w.heap.size, 4, none⟩ (.int .i64 tk)).setCell ⟨w.heap.size, 5, none⟩ (.int .i64 ms)) (w.heap.size + 1) 0 (.int .i64 qx) 1 (.int .i64 qy)
                    replace KS := oB hs KS (by omega)
                    replace KF := Lib.hid (blk_set (blk_set KF.out (j := 0) (by simp) (.int .i64 qx)) (j := 1) (by simp) (.int .i64 qy))
                    replace KC := oB hs KC (by omega)
                    replace KN := oB hs KN (by omega)
                    replace KE := oB hs KE (by omega)
                    replace HB := oH hs HB (by omega)
                    clear hs
                    simp only [List.set] at KF
                    replace KS := Lib.hid (blk_drew1 KS.out)
                    replace KF := Lib.hid (blk_drew1 KF.out)
                    replace KC := Lib.hid (blk_drew1 KC.out)
                    replace KN := Lib.hid (blk_drew1 KN.out)
                    replace KE := Lib.hid (blk_drew1 KE.out)
                    replace HB := Lib.hid (below_drew1 HB.out)
                    generalize (((((((((wc.setCell ⟨w.heap.size, 0, none⟩ (.int .i64 nx)).setCell ⟨w.heap.size, 1, none⟩ (.int .i64 ny)).setCell ⟨w.heap.size, 2, none⟩ (.int .i64 n1)).setCell ⟨w.heap.size, 3, none⟩ (.int .i64 n2)).setCell ⟨w.heap.size, 4, none⟩ (.int .i64 tk)).setCell ⟨w.heap.size, 5, none⟩ (.int .i64 ms)).setCell ⟨(w.heap.size + 1), 0, none⟩ (.int .i64 qx)).setCell ⟨(w.heap.size + 1), 1, none⟩ (.int .i64 qy))).drew = w303 at *
                    go_wp2
                    exact ⟨⟨k + 1, nx, ny, n1, n2, tk, ms, qx, qy, by go_num, by omega, HB, KS, KF⟩, by simp [intOf]; omega⟩
            | true =>
              go_wp2
              go_ret
              exact ⟨rfl, HB.out⟩
        · have SB := Lib.hid fun w h => step_badR ⟨cx, cy, x, y⟩ t m tk ve vn dr rq T (.slice pr T.length capr) w h (by have := TL.out; omega) he
          have ge : (stpE2 ⟨cx, cy, x, y⟩ t m tk ve vn dr rq T.length != 0) = true := by simpa using he
          clear he
          generalize stpE2 ⟨cx, cy, x, y⟩ t m tk ve vn dr rq T.length = e at *
          go_wp2_with fail
          refine (SB.out _ (RL.out.below HB.out)).mono ?_
          rintro e43 w43 ⟨rfl, hb43⟩
          replace HB := hT HB hb43
          replace KS := hK KS hb43
          replace KF := hK KF hb43
          replace KC := hK KC hb43
          clear yS_0 yS_1 yS_2 yS_3 yS_4 yS_5 yS_z yC_0 yC_1 yC_2 yC_3 yC_4 yC_5 yC_6 yC_7 yC_8 yC_z
          clear hb43
          go_wp2
          go_ret
          exact ⟨rfl, (HB.out.alloc HB.out.size _).alloc (by have := HB.out.size; simp; omega) _⟩
      · have q' : decide (k < l.length) = true := by simpa using q
        have q8' : decide (k < 24) = false := by simpa using q8
        have q9 : decide ((k : Int) < 24) = false := by simp; omega
        go_wp2
        go_ret
        exact ⟨rfl, HB.out⟩
    · have q' : decide (k < l.length) = false := by simpa using q
      go_wp2
      go_ret
      exact ⟨rfl, HB.out⟩
end Go.Proofs.YtidelghgjibndaaGreat.topUsable
