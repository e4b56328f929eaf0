/-
  The walk of the law NavigatorIgnores.
-/
import Derived.Test.YtajmjkliblippaaGreatDoorAwake46M
import Derived.Test.YtajmjkliblippaaGreatDoorOwnR46M
namespace Go.Proofs.YtajmjkliblippaaGreatDoor.navigatorIgnores
set_option linter.unusedVariables false
open Go.ChangeShapes Go.WideShapes Go.ChangeAt Go.RowKit

def IgR (T : List Rp) (p : Rp → Bool) (W : World) (v13 v68 : Value) (wr : World) : Prop := ∃ j : Nat, v68 = .int .i64 j ∧ j ≤ T.length ∧ Hid (Below W.heap.size W wr) ∧ Hid (OR W.heap.size wr v13 ((T.take j).filter p))
set_option maxHeartbeats 40000000 in
set_option maxRecDepth 100000 in
theorem walk (cx cy x y t m tk : Int) (v : Value) (ve vn dr rq : Int) (L : List Rp) (w : World) (hE : Env w) (h : RlG L v w) (hK : ∀ i, i < L.length → 0 ≤ (nthR L i).k ∧ (nthR L i).k ≤ 255) :
    Calls Tryz.prog 6 #[.agg #[.int .i64 cx, .int .i64 cy, .int .i64 x, .int .i64 y, .int .i64 t, .int .i64 m], .agg #[.int .i64 tk, v, .int .i64 ve, .int .i64 vn, .int .i64 dr, .int .i64 rq]] w fun e w' => e = .returned (.bool true) ∧ Below w.heap.size w w' := by
  have HE := Lib.hid hE
  have RL0 := Lib.hid h
  have KK0 := kd_take 10 hK
  have TL0 : (L.take 10).length ≤ 10 := by rw [List.length_take]; omega
  obtain ⟨T, hT⟩ : ∃ z, L.take 10 = z := ⟨_, rfl⟩
  rw [hT] at KK0 TL0
  have KK := Lib.hid KK0
  have TL := Lib.hid TL0
  have HTK := Lib.hid hT
  clear KK0 TL0 hT hE h hK
  obtain ⟨KS, KI, HB⟩ := ent2 w #[.int .i64 cx, .int .i64 cy, .int .i64 x, .int .i64 y, .int .i64 t, .int .i64 m] 27 #[.int .i64 tk, v, .int .i64 ve, .int .i64 vn, .int .i64 dr, .int .i64 rq] 38
  go_enter Tryz.func6, Tryz.ntmps6
  go_wp2_with fail
  generalize (w.alloc (.cells #[.int .i64 cx, .int .i64 cy, .int .i64 x, .int .i64 y, .int .i64 t, .int .i64 m] 27)).alloc (.cells #[.int .i64 tk, v, .int .i64 ve, .int .i64 vn, .int .i64 dr, .int .i64 rq] 38) = w0 at *
  refine (awake_any _ (HE.out.below HB.out)).mono ?_
  rintro e1 w1 ⟨rfl, hb1⟩
  replace HB := hT HB hb1
  replace KS := hK KS hb1
  replace KI := hK KI hb1
  clear hb1
  obtain ⟨yI_0, yI_1, yI_2, yI_3, yI_4, yI_5, yI_z⟩ := blk6 KI
  go_wp2_with fail
  refine (cut_any tk ve vn dr rq L v _ (RL0.out.below HB.out)).mono ?_
  rintro e2 w2 ⟨⟨v1, rfl, hr⟩, hb2⟩
  have hr := hr w RL0.out
  rw [HTK.out] at hr
  obtain ⟨p1, c1, rfl⟩ := rg_form hr
  have RL := Lib.hid hr
  clear hr
  replace HB := hT HB hb2
  replace KS := hK KS hb2
  replace KI := hK KI hb2
  clear yI_0 yI_1 yI_2 yI_3 yI_4 yI_5 yI_z
  clear hb2
  obtain ⟨yI_0, yI_1, yI_2, yI_3, yI_4, yI_5, yI_z, yI_f0, yI_f1, yI_f2, yI_f3, yI_f4, yI_f5⟩ := blf6 KI
  go_upto_region 4 with (fail)
  have hs := st6 w2 (w.heap.size + 1) 0 (.int .i64 tk) 1 (.slice p1 T.length c1) 2 (.int .i64 ve) 3 (.int .i64 vn) 4 (.int .i64 dr) 5 (.int .i64 rq)
  replace KS := oB hs KS (by omega)
  replace KI := Lib.hid (blk_set (blk_set (blk_set (blk_set (blk_set (blk_set KI.out (j := 0) (by simp) (.int .i64 tk)) (j := 1) (by simp) (.slice p1 T.length c1)) (j := 2) (by simp) (.int .i64 ve)) (j := 3) (by simp) (.int .i64 vn)) (j := 4) (by simp) (.int .i64 dr)) (j := 5) (by simp) (.int .i64 rq))
  replace HB := oH hs HB (by omega)
  clear hs
  clear yI_0 yI_1 yI_2 yI_3 yI_4 yI_5 yI_z yI_f0 yI_f1 yI_f2 yI_f3 yI_f4 yI_f5
  generalize (((((w2.setCell ⟨(w.heap.size + 1), 0, none⟩ (.int .i64 tk)).setCell ⟨(w.heap.size + 1), 1, none⟩ (.slice p1 T.length c1)).setCell ⟨(w.heap.size + 1), 2, none⟩ (.int .i64 ve)).setCell ⟨(w.heap.size + 1), 3, none⟩ (.int .i64 vn)).setCell ⟨(w.heap.size + 1), 4, none⟩ (.int .i64 dr)).setCell ⟨(w.heap.size + 1), 5, none⟩ (.int .i64 rq) = w3 at *
  simp only [List.set] at KI
  obtain ⟨yS_0, yS_1, yS_2, yS_3, yS_4, yS_5, yS_z⟩ := blk6 KS
  obtain ⟨yI_0, yI_1, yI_2, yI_3, yI_4, yI_5, yI_z⟩ := blk6 KI
  by_cases h8 : 8 < T.length
  · have g8 : decide (8 < T.length) = true := by simpa using h8
    have g8' : decide ((8 : Int) < (T.length : Int)) = true := by simp; omega
    have he : stpE2 ⟨cx, cy, x, y⟩ t m tk ve vn dr rq T.length ≠ 0 := fun he => by have := (stp_ok2 he).2.2.2.1; omega
    clear h8
    have SB := Lib.hid fun w h => step_badR ⟨cx, cy, x, y⟩ t m tk ve vn dr rq T (.slice p1 T.length c1) w h (by have := TL.out; omega) he
    have ge : (stpE2 ⟨cx, cy, x, y⟩ t m tk ve vn dr rq T.length != 0) = true := by simpa using he
    clear he
    generalize stpE2 ⟨cx, cy, x, y⟩ t m tk ve vn dr rq T.length = e at *
    go_wp2_with fail
    refine (SB.out _ (RL.out.below HB.out)).mono ?_
    rintro e4 w4 ⟨rfl, hb4⟩
    replace HB := hT HB hb4
    replace KS := hK KS hb4
    replace KI := hK KI hb4
    clear yS_0 yS_1 yS_2 yS_3 yS_4 yS_5 yS_z yI_0 yI_1 yI_2 yI_3 yI_4 yI_5 yI_z
    clear hb4
    go_wp2
    go_ret
    exact ⟨rfl, (HB.out.alloc HB.out.size _).alloc (by have := HB.out.size; simp; omega) _⟩
  · have g8 : decide (8 < T.length) = false := by simpa using h8
    have g8' : decide ((8 : Int) < (T.length : Int)) = false := by simp; omega
    by_cases he : stpE2 ⟨cx, cy, x, y⟩ t m tk ve vn dr rq T.length = 0
    · obtain ⟨cb, hcb⟩ : ∃ z, movB ⟨cx, cy, x, y⟩ ve vn dr (tk - t) = z := ⟨_, rfl⟩
      have KP := stp_keep ⟨cx, cy, x, y⟩ t m tk ve vn dr T cb hcb
      have KL := stp_le he (List.length_filter_le (keepT tk cb.cx cb.cy cb.x cb.y) T)
      have KF := kd_filt (p := keepT tk cb.cx cb.cy cb.x cb.y) KK.out
      have SG2 := fun v w h => step_okR ⟨cx, cy, x, y⟩ t m tk ve vn dr rq (T.filter (keepT tk cb.cx cb.cy cb.x cb.y)) v w h KF KL
      rw [KP] at SG2
      clear KP KL KF
      obtain ⟨F, hF⟩ : ∃ z, T.filter (keepT tk cb.cx cb.cy cb.x cb.y) = z := ⟨_, rfl⟩
      rw [hF] at SG2
      obtain ⟨⟨t0, t1, t2⟩, _, _, _, _, hcst, _⟩ := stp_facts he
      have SG := fun w h => step_okR ⟨cx, cy, x, y⟩ t m tk ve vn dr rq T (.slice p1 T.length c1) w h KK.out he
      have CO := Lib.hid fun w => coast_any ⟨cx, cy, x, y⟩ ve vn dr (tk - t) w
      rw [hcst, hcb] at CO
      have sw : IntKind.i64.wrap (tk - t) = tk - t := IntWalk.i64_in _ (by omega)
      clear hcst hcb he t0 t1 t2 h8
      obtain ⟨c'x, c'y, c'1, c'2⟩ := cb
      generalize stpC ⟨cx, cy, x, y⟩ t m tk ve vn dr T = cy at *
      obtain ⟨⟨nx, ny, n1, n2⟩, ms, ex⟩ := cy
      simp only at SG CO SG2 hF
      generalize useB n1 n2 rq = us at *
      have HF := Lib.hid hF
      clear hF
      have SG := Lib.hid SG
      have SG2 := Lib.hid SG2
      go_wp2_with fail
      refine (SG.out _ (RL.out.below HB.out)).mono ?_
      rintro e4 w4 ⟨rfl, hb4⟩
      replace HB := hT HB hb4
      replace KS := hK KS hb4
      replace KI := hK KI hb4
      clear yS_0 yS_1 yS_2 yS_3 yS_4 yS_5 yS_z yI_0 yI_1 yI_2 yI_3 yI_4 yI_5 yI_z
      clear hb4
      clear SG
      go_upto_region 8 with (fail)
      have KN := Lib.hid ((Blk.of (vs := #[.int .i64 nx, .int .i64 ny, .int .i64 n1, .int .i64 n2, .int .i64 tk, .int .i64 ms]) (t := 27) (w := w4) (b := w4.heap.size) rfl).alloc (.cells #[.int .i64 nx, .int .i64 ny, .int .i64 n1, .int .i64 n2, .bool us, .int .i64 ex] 41))
      have KE := Lib.hid (Blk.of (vs := #[.int .i64 nx, .int .i64 ny, .int .i64 n1, .int .i64 n2, .bool us, .int .i64 ex]) (t := 41) (w := w4.alloc (.cells #[.int .i64 nx, .int .i64 ny, .int .i64 n1, .int .i64 n2, .int .i64 tk, .int .i64 ms] 27)) (b := w4.heap.size + 1) (by simp))
      have hb5 : Below w4.heap.size w4 ((w4.alloc (.cells #[.int .i64 nx, .int .i64 ny, .int .i64 n1, .int .i64 n2, .int .i64 tk, .int .i64 ms] 27)).alloc (.cells #[.int .i64 nx, .int .i64 ny, .int .i64 n1, .int .i64 n2, .bool us, .int .i64 ex] 41)) := ((Below.refl _ _).alloc (Nat.le_refl _) _).alloc (by simp) _
      have hnN := HB.out.size
      have nzN_S := KS.out.lt
      have nzN_I := KI.out.lt
      replace HB := hT HB hb5
      replace KS := hK KS hb5
      replace KI := hK KI hb5
      clear hb5
      generalize (w4.alloc (.cells #[.int .i64 nx, .int .i64 ny, .int .i64 n1, .int .i64 n2, .int .i64 tk, .int .i64 ms] 27)).alloc (.cells #[.int .i64 nx, .int .i64 ny, .int .i64 n1, .int .i64 n2, .bool us, .int .i64 ex] 41) = w5 at *
      generalize w4.heap.size = bN at *
      have neN_S : bN ≠ w.heap.size := by omega
      have neE_S : bN + 1 ≠ w.heap.size := by omega
      have neN_I : bN ≠ (w.heap.size + 1) := by omega
      have neE_I : bN + 1 ≠ (w.heap.size + 1) := by omega
      clear nzN_S nzN_I
      obtain ⟨yS_0, yS_1, yS_2, yS_3, yS_4, yS_5, yS_z⟩ := blk6 KS
      obtain ⟨yI_0, yI_1, yI_2, yI_3, yI_4, yI_5, yI_z⟩ := blk6 KI
      go_wp2_with fail
      refine (CO.out _).mono ?_
      rintro e6 w6 ⟨rfl, hb6⟩
      replace HB := hT HB hb6
      replace KS := hK KS hb6
      replace KI := hK KI hb6
      replace KN := hK KN hb6
      replace KE := hK KE hb6
      clear yS_0 yS_1 yS_2 yS_3 yS_4 yS_5 yS_z yI_0 yI_1 yI_2 yI_3 yI_4 yI_5 yI_z
      clear hb6
      clear CO sw
      go_upto_region 11 with (fail)
      obtain ⟨KD, hb7⟩ := alB w6 #[.int .i64 (c'x), .int .i64 (c'y), .int .i64 (c'1), .int .i64 (c'2)] 25
      have hnD := HB.out.size
      have nzD_S := KS.out.lt
      have nzD_I := KI.out.lt
      have nzD_N := KN.out.lt
      have nzD_E := KE.out.lt
      replace HB := hT HB hb7
      replace KS := hK KS hb7
      replace KI := hK KI hb7
      replace KN := hK KN hb7
      replace KE := hK KE hb7
      clear hb7
      generalize w6.alloc (.cells #[.int .i64 (c'x), .int .i64 (c'y), .int .i64 (c'1), .int .i64 (c'2)] 25) = w7 at *
      generalize w6.heap.size = bD at *
      have neD_S : bD ≠ w.heap.size := by omega
      have neD_I : bD ≠ (w.heap.size + 1) := by omega
      have neD_N : bD ≠ bN := by omega
      have neD_E : bD ≠ (bN + 1) := by omega
      clear nzD_S nzD_I nzD_N nzD_E
      obtain ⟨yI_0, yI_1, yI_2, yI_3, yI_4, yI_5, yI_z⟩ := blk6 KI
      go_wp2
      clear yI_0 yI_1 yI_2 yI_3 yI_4 yI_5 yI_z
      generalize w7 = w1 at *
      have KS1 := KS
      have KI1 := KI
      have KN1 := KN
      have KE1 := KE
      have KD1 := KD
      have hS1 := KS.out.lt
      have hI1 := KI.out.lt
      have hN1 := KN.out.lt
      have hE1 := KE.out.lt
      have hD1 := KD.out.lt
      have HB1 := HB
      have h11 := HB.out.size
      go_loopw [13, 68] (IgR T (keepT tk c'x c'y c'1 c'2) w1) (fun _ i _ => T.length - (intOf i).toNat)
      case atStart => exact ⟨0, rfl, Nat.zero_le _, Lib.hid (Below.refl _ _), Lib.hid (World.ownsRow_nil _ _ _ _)⟩
      case round =>
        clear HB KS KI KN KE KD
        obtain ⟨j, rfl, hj, HBR, HO⟩ := hrel
        have KS := Lib.hid (blk_keep KS1.out HBR.out hS1)
        have KI := Lib.hid (blk_keep KI1.out HBR.out hI1)
        have KN := Lib.hid (blk_keep KN1.out HBR.out hN1)
        have KE := Lib.hid (blk_keep KE1.out HBR.out hE1)
        have KD := Lib.hid (blk_keep KD1.out HBR.out hD1)
        have HB := Lib.hid (HB1.out.trans (HBR.out.mono h11))
        by_cases q : j < T.length
        · have q' : decide (j < T.length) = true := by simpa using q
          obtain ⟨bm, om, rfl, hcap, hmax, RA⟩ := rg_at (RL.out.below HB.out) q
          have c0 := RA.c0 j q
          have c1 := RA.c1 j q
          have c2 := RA.c2 j q
          have c3 := RA.c3 j q
          have c4 := RA.c4 j q
          have c5 := RA.c5 j q
          have c6 := RA.c6 j q
          have c7 := RA.c7 j q
          have clt := RA.lt
          clear RA
          have kk := KK.out j q
          have FS := Lib.hid (filt_succ (p := keepT tk c'x c'y c'1 c'2) q)
          have FL := Lib.hid (show ((T.take j).filter (keepT tk c'x c'y c'1 c'2)).length ≤ 100000 by have := List.length_filter_le (keepT tk c'x c'y c'1 c'2) (T.take j); rw [List.length_take] at this; have := TL.out; omega)
          have RW := Lib.hid fun w => rowsN_any (nthR T j) c'x c'y c'1 c'2 w kk.1 kk.2
          have DK := Lib.hid (show keepT tk c'x c'y c'1 c'2 (nthR T j) = (decide ((nthR T j).t = tk) && decide ((rowsN (nthR T j) c'x c'y c'1 c'2).2 = 0)) from rfl)
          clear kk
          generalize nthR T j = rr at *
          obtain ⟨R, hR⟩ : ∃ z, rowsN rr c'x c'y c'1 c'2 = z := ⟨_, rfl⟩
          rw [hR] at RW DK
          clear hR
          obtain ⟨pl, en⟩ := R
          simp only at RW DK
          go_upto_region 15 with (fail)
          obtain ⟨KG, hb201⟩ := alB wr #[.int .i64 rr.s, .int .u8 rr.k, .int .i64 rr.x, .int .i64 rr.y, .int .i64 rr.v, .int .i64 rr.b, .int .i64 rr.wt, .int .i64 rr.t] 49
          have hnG := HB.out.size
          have nzG_S := KS.out.lt
          have nzG_I := KI.out.lt
          have nzG_N := KN.out.lt
          have nzG_E := KE.out.lt
          have nzG_D := KD.out.lt
          replace HB := hT HB hb201
          replace KS := hK KS hb201
          replace KI := hK KI hb201
          replace KN := hK KN hb201
          replace KE := hK KE hb201
          replace KD := hK KD hb201
          replace HO := Lib.hid (HO.out.below hb201)
          replace HBR := Lib.hid (HBR.out.trans (hb201.mono (Nat.le_trans (Nat.le_refl w1.heap.size) HBR.out.size)))
          clear hb201
          generalize wr.alloc (.cells #[.int .i64 rr.s, .int .u8 rr.k, .int .i64 rr.x, .int .i64 rr.y, .int .i64 rr.v, .int .i64 rr.b, .int .i64 rr.wt, .int .i64 rr.t] 49) = w201 at *
          generalize wr.heap.size = bG at *
          have neG_S : bG ≠ w.heap.size := by omega
          have neG_I : bG ≠ (w.heap.size + 1) := by omega
          have neG_N : bG ≠ bN := by omega
          have neG_E : bG ≠ (bN + 1) := by omega
          have neG_D : bG ≠ bD := by omega
          clear nzG_S nzG_I nzG_N nzG_E nzG_D
          clear c0 c1 c2 c3 c4 c5 c6 c7 clt
          obtain ⟨yD_0, yD_1, yD_2, yD_3, yD_z⟩ := blk4 KD
          obtain ⟨yG_0, yG_1, yG_2, yG_3, yG_4, yG_5, yG_6, yG_7, yG_z⟩ := blk8 KG
          go_wp2_with fail
          refine (RW.out _).mono ?_
          rintro e202 w202 ⟨ur, rfl, hrn, hb202⟩
          clear hrn
          replace HB := hT HB hb202
          replace KS := hK KS hb202
          replace KI := hK KI hb202
          replace KN := hK KN hb202
          replace KE := hK KE hb202
          replace KD := hK KD hb202
          replace KG := hK KG hb202
          replace HO := Lib.hid (HO.out.below hb202)
          replace HBR := Lib.hid (HBR.out.trans (hb202.mono (Nat.le_trans (Nat.le_refl w1.heap.size) HBR.out.size)))
          clear yD_0 yD_1 yD_2 yD_3 yD_z yG_0 yG_1 yG_2 yG_3 yG_4 yG_5 yG_6 yG_7 yG_z
          clear hb202
          clear RW
          by_cases he : en = 0
          · subst he
            by_cases ht : rr.t = tk
            · have gt : (rr.t == tk) = true := by simpa using ht
              have FS2 := Lib.hid (FS.out.trans (if_pos (by rw [DK.out]; simp [ht])))
              clear FS DK ht
              obtain ⟨yI_0, yI_1, yI_2, yI_3, yI_4, yI_5, yI_z⟩ := blk6 KI
              obtain ⟨yG_0, yG_1, yG_2, yG_3, yG_4, yG_5, yG_6, yG_7, yG_z⟩ := blk8 KG
              have HA := Lib.hid ((Below.refl w202.heap.size w202).alloc (Nat.le_refl _) (.cells #[.int .i64 rr.s, .int .u8 rr.k, .int .i64 rr.x, .int .i64 rr.y, .int .i64 rr.v, .int .i64 rr.b, .int .i64 rr.wt, .int .i64 rr.t] 49))
              have HS := Lib.hid HBR.out.size
              have OL := Lib.hid (World.ownsRow.lt HO.out)
              go_wp2_with (at_builtin; refine Halt.mk ?_)
              unfold Halt
              refine wpList_or rfl (.tmp 87) (.tmp 89) rfl w1.heap.size u13 ((T.take j).filter (keepT tk c'x c'y c'1 c'2)) rfl w202 HO.out 49 rr 1 rfl FL.out HS.out ?_
              intro v5 w5 ho5 hg5
              have HBR5 := Lib.hid (below_grown (HBR.out.trans (HA.out.mono HS.out)) hg5 (by have := HS.out; simp; omega) (fun k hk => (OL.out k hk).1))
              have HO5 := Lib.hid (show OR w1.heap.size w5 v5 ((T.take (j + 1)).filter (keepT tk c'x c'y c'1 c'2)) by rw [FS2.out]; exact ho5)
              obtain ⟨p5, cap5, hu5⟩ := rg_form ho5.rg
              obtain ⟨N5, hN5⟩ : ∃ N, ((T.take j).filter (keepT tk c'x c'y c'1 c'2) ++ [rr]).length = N := ⟨_, rfl⟩
              rw [hN5] at hu5
              clear ho5 hN5 hg5 HO HBR FS2 FL
              subst hu5
              go_wp2
              exact ⟨⟨j + 1, by go_num, by omega, HBR5, HO5⟩, by simp [intOf]; omega⟩
            · have gt : (rr.t == tk) = false := by simpa using ht
              have hkd : ¬ (keepT tk c'x c'y c'1 c'2 rr = true) := by rw [DK.out]; simp [ht]
              clear ht
              have HO6 := Lib.hid (show OR w1.heap.size w202 u13 ((T.take (j + 1)).filter (keepT tk c'x c'y c'1 c'2)) by rw [FS.out, if_neg hkd]; exact HO.out)
              clear FS DK FL HO hkd
              obtain ⟨yI_0, yI_1, yI_2, yI_3, yI_4, yI_5, yI_z⟩ := blk6 KI
              obtain ⟨yG_0, yG_1, yG_2, yG_3, yG_4, yG_5, yG_6, yG_7, yG_z⟩ := blk8 KG
              go_wp2
              exact ⟨⟨j + 1, by go_num, by omega, HBR, HO6⟩, by simp [intOf]; omega⟩
          · have ge : (en == 0) = false := by simpa using he
            have hkd : ¬ (keepT tk c'x c'y c'1 c'2 rr = true) := by rw [DK.out]; simp [he]
            clear he
            have HO6 := Lib.hid (show OR w1.heap.size w202 u13 ((T.take (j + 1)).filter (keepT tk c'x c'y c'1 c'2)) by rw [FS.out, if_neg hkd]; exact HO.out)
            clear FS DK FL HO hkd
            go_wp2
            exact ⟨⟨j + 1, by go_num, by omega, HBR, HO6⟩, by simp [intOf]; omega⟩
        · obtain rfl : j = T.length := by omega
          have q' : decide (T.length < T.length) = false := by simp
          rw [List.take_length, HF.out] at HO
          have HBR9 := HBR
          clear HBR
          obtain ⟨p5, cap5, hu5⟩ := rg_form HO.out.rg
          have SS := Lib.hid (show ∀ u, RlG F u13 (wr.setCell ⟨(w.heap.size + 1), 1, none⟩ u) from fun u => or_set HO.out hI1 u)
          clear HO
          subst hu5
          obtain ⟨yI_0, yI_1, yI_2, yI_3, yI_4, yI_5, yI_z, yI_f0, yI_f1, yI_f2, yI_f3, yI_f4, yI_f5⟩ := blf6 KI
          go_upto_region 20 with (fail)
          have RL2 := Lib.hid (SS.out (.slice p5 F.length cap5))
          clear SS
          have hs := st1 wr (w.heap.size + 1) 1 (.slice p5 F.length cap5)
          replace KS := oB hs KS (by omega)
          replace KI := Lib.hid (blk_set KI.out (j := 1) (by simp) (.slice p5 F.length cap5))
          replace KN := oB hs KN (by omega)
          replace KE := oB hs KE (by omega)
          replace KD := oB hs KD (by omega)
          replace HB := oH hs HB (by omega)
          clear hs
          clear yI_0 yI_1 yI_2 yI_3 yI_4 yI_5 yI_z yI_f0 yI_f1 yI_f2 yI_f3 yI_f4 yI_f5
          generalize wr.setCell ⟨(w.heap.size + 1), 1, none⟩ (.slice p5 F.length cap5) = w301 at *
          simp only [List.set] at KI
          obtain ⟨yS_0, yS_1, yS_2, yS_3, yS_4, yS_5, yS_z⟩ := blk6 KS
          obtain ⟨yI_0, yI_1, yI_2, yI_3, yI_4, yI_5, yI_z⟩ := blk6 KI
          go_wp2_with fail
          refine (SG2.out _ _ RL2.out).mono ?_
          rintro e302 w302 ⟨rfl, hb302⟩
          replace HB := hT HB hb302
          replace KS := hK KS hb302
          replace KI := hK KI hb302
          replace KN := hK KN hb302
          replace KE := hK KE hb302
          replace KD := hK KD hb302
          clear yS_0 yS_1 yS_2 yS_3 yS_4 yS_5 yS_z yI_0 yI_1 yI_2 yI_3 yI_4 yI_5 yI_z
          clear hb302
          clear SG2 RL2
          go_upto_region 21 with (fail)
          have KP := Lib.hid ((Blk.of (vs := #[.int .i64 nx, .int .i64 ny, .int .i64 n1, .int .i64 n2, .int .i64 tk, .int .i64 ms]) (t := 27) (w := w302) (b := w302.heap.size) rfl).alloc (.cells #[.int .i64 nx, .int .i64 ny, .int .i64 n1, .int .i64 n2, .bool us, .int .i64 ex] 41))
          have KQ := Lib.hid (Blk.of (vs := #[.int .i64 nx, .int .i64 ny, .int .i64 n1, .int .i64 n2, .bool us, .int .i64 ex]) (t := 41) (w := w302.alloc (.cells #[.int .i64 nx, .int .i64 ny, .int .i64 n1, .int .i64 n2, .int .i64 tk, .int .i64 ms] 27)) (b := w302.heap.size + 1) (by simp))
          have hb303 : Below w302.heap.size w302 ((w302.alloc (.cells #[.int .i64 nx, .int .i64 ny, .int .i64 n1, .int .i64 n2, .int .i64 tk, .int .i64 ms] 27)).alloc (.cells #[.int .i64 nx, .int .i64 ny, .int .i64 n1, .int .i64 n2, .bool us, .int .i64 ex] 41)) := ((Below.refl _ _).alloc (Nat.le_refl _) _).alloc (by simp) _
          have hnP := HB.out.size
          have nzP_S := KS.out.lt
          have nzP_I := KI.out.lt
          have nzP_N := KN.out.lt
          have nzP_E := KE.out.lt
          have nzP_D := KD.out.lt
          replace HB := hT HB hb303
          replace KS := hK KS hb303
          replace KI := hK KI hb303
          replace KN := hK KN hb303
          replace KE := hK KE hb303
          replace KD := hK KD hb303
          clear hb303
          generalize (w302.alloc (.cells #[.int .i64 nx, .int .i64 ny, .int .i64 n1, .int .i64 n2, .int .i64 tk, .int .i64 ms] 27)).alloc (.cells #[.int .i64 nx, .int .i64 ny, .int .i64 n1, .int .i64 n2, .bool us, .int .i64 ex] 41) = w303 at *
          generalize w302.heap.size = bP at *
          have neP_S : bP ≠ w.heap.size := by omega
          have neQ_S : bP + 1 ≠ w.heap.size := by omega
          have neP_I : bP ≠ (w.heap.size + 1) := by omega
          have neQ_I : bP + 1 ≠ (w.heap.size + 1) := by omega
          have neP_N : bP ≠ bN := by omega
          have neQ_N : bP + 1 ≠ bN := by omega
          have neP_E : bP ≠ (bN + 1) := by omega
          have neQ_E : bP + 1 ≠ (bN + 1) := by omega
          have neP_D : bP ≠ bD := by omega
          have neQ_D : bP + 1 ≠ bD := by omega
          clear nzP_S nzP_I nzP_N nzP_E nzP_D
          obtain ⟨yN_0, yN_1, yN_2, yN_3, yN_4, yN_5, yN_z⟩ := blk6 KN
          obtain ⟨yE_0, yE_1, yE_2, yE_3, yE_4, yE_5, yE_z⟩ := blk6 KE
          obtain ⟨yP_0, yP_1, yP_2, yP_3, yP_4, yP_5, yP_z⟩ := blk6 KP
          obtain ⟨yQ_0, yQ_1, yQ_2, yQ_3, yQ_4, yQ_5, yQ_z⟩ := blk6 KQ
          go_wp2
          go_ret
          exact ⟨rfl, HB.out⟩
    · have SB := Lib.hid fun w h => step_badR ⟨cx, cy, x, y⟩ t m tk ve vn dr rq T (.slice p1 T.length c1) w h (by have := TL.out; omega) he
      have ge : (stpE2 ⟨cx, cy, x, y⟩ t m tk ve vn dr rq T.length != 0) = true := by simpa using he
      clear he
      generalize stpE2 ⟨cx, cy, x, y⟩ t m tk ve vn dr rq T.length = e at *
      go_wp2_with fail
      refine (SB.out _ (RL.out.below HB.out)).mono ?_
      rintro e4 w4 ⟨rfl, hb4⟩
      replace HB := hT HB hb4
      replace KS := hK KS hb4
      replace KI := hK KI hb4
      clear yS_0 yS_1 yS_2 yS_3 yS_4 yS_5 yS_z yI_0 yI_1 yI_2 yI_3 yI_4 yI_5 yI_z
      clear hb4
      go_wp2
      go_ret
      exact ⟨rfl, (HB.out.alloc HB.out.size _).alloc (by have := HB.out.size; simp; omega) _⟩
end Go.Proofs.YtajmjkliblippaaGreatDoor.navigatorIgnores
