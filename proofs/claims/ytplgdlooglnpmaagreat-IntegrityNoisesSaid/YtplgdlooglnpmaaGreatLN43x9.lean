/-
  Walks and laws of the layers below, gathered from several texts.
-/
import Derived.Test.YtplgdlooglnpmaaGreatLN43x8
namespace Go.Proofs.YtplgdlooglnpmaaGreat
set_option linter.unusedVariables false
open Go.RowKit
set_option maxHeartbeats 40000000 in
set_option maxRecDepth 100000 in
theorem rex_ok (l : List Ms) (v : Value) (w : World) (h : LstAt l v w) (hc : chkL l = 0) (hd : detN l ≠ 0) :
    Calls Tryz.prog 28 #[v] w fun e w' => e = .returned (.tuple #[.agg #[.int .i64 (hiW (solX l)), .int .u64 (loW (solX l)), .int .i64 (hiW (solY l)), .int .u64 (loW (solY l)), .int .i64 (detN l), .int .i64 0, .int .i64 0], .int .i64 0]) ∧ Below w.heap.size w w' := by
  obtain ⟨p, cap, rfl⟩ := lst_form h
  have OL := Lib.hid (okL_of hc)
  obtain ⟨⟨a0, a1⟩, ⟨b0, b1⟩, ⟨c0, c1⟩, ⟨d0, d1⟩, ⟨e0, e1⟩⟩ := nrm_bd OL.out
  obtain ⟨⟨dt0, dt1⟩, ⟨sx0, sx1⟩, ⟨sy0, sy1⟩⟩ := sol_bd (nrm_bd OL.out)
  have NO := Lib.hid fun w h => rnormal_any l (.slice p l.length cap) w h hc
  have P1 := mulb (X := 16777216) (Y := 16777216) (by omega) a0 a1 c0 c1
  have P2 := mulb (X := 16777216) (Y := 16777216) (by omega) b0 b1 b0 b1
  have LX := Lib.hid fun w => rminor_any (nYY l) (nXZ l) (nXY l) (nYZ l) w ⟨by omega, by omega⟩ ⟨by omega, by omega⟩ ⟨by omega, by omega⟩ ⟨by omega, by omega⟩ (show FitW (solX l) from ⟨by omega, by omega⟩)
  have LY := Lib.hid fun w => rminor_any (nXX l) (nYZ l) (nXY l) (nXZ l) w ⟨by omega, by omega⟩ ⟨by omega, by omega⟩ ⟨by omega, by omega⟩ ⟨by omega, by omega⟩ (show FitW (solY l) from ⟨by omega, by omega⟩)
  have q1 : IntKind.i64.wrap (nXX l * nYY l) = nXX l * nYY l := IntWalk.i64_in _ (by omega)
  have q2 : IntKind.i64.wrap (nXY l * nXY l) = nXY l * nXY l := IntWalk.i64_in _ (by omega)
  have q3 : IntKind.i64.wrap (nXX l * nYY l - nXY l * nXY l) = detN l := IntWalk.i64_in _ (by unfold detN at dt0 dt1; omega)
  have HX : Hid (solX l = nYY l * nXZ l - nXY l * nYZ l) := Lib.hid rfl
  have HY : Hid (solY l = nXX l * nYZ l - nXY l * nXZ l) := Lib.hid rfl
  rw [← HX.out] at LX
  rw [← HY.out] at LY
  have NX := Lib.hid fun (hd : 0 < detN l) w => rnearest_any (solX l) (detN l) w (by omega) (by omega) hd (by omega)
  have NY := Lib.hid fun (hd : 0 < detN l) w => rnearest_any (solY l) (detN l) w (by omega) (by omega) hd (by omega)
  have VP := Lib.hid fun w => rvldP_any (cenX l) (cenY l) w
  have E0 : solE l = if detN l = 0 then 14 else if (pOk (cenX l) && pOk (cenY l)) = true then 0 else 2 := by unfold solE; rw [if_pos hc]
  have HDP : detN l ≠ 0 → 0 < detN l := fun q => by have := det_nonneg l (chk_w hc); omega
  rw [show nearI2 (solX l) (detN l) = cenX l from rfl] at NX
  rw [show nearI2 (solY l) (detN l) = cenY l from rfl] at NY
  clear hc a0 a1 b0 b1 c0 c1 d0 d1 e0 e1 dt0 dt1 sx0 sx1 sy0 sy1 P1 P2 HX HY
  obtain ⟨A, EA⟩ : ∃ x, nXX l = x := ⟨_, rfl⟩
  obtain ⟨B, EB⟩ : ∃ x, nXY l = x := ⟨_, rfl⟩
  obtain ⟨C, EC⟩ : ∃ x, nYY l = x := ⟨_, rfl⟩
  obtain ⟨D, ED⟩ : ∃ x, nXZ l = x := ⟨_, rfl⟩
  obtain ⟨E, EE⟩ : ∃ x, nYZ l = x := ⟨_, rfl⟩
  obtain ⟨X, EX⟩ : ∃ x, solX l = x := ⟨_, rfl⟩
  obtain ⟨Y, EY⟩ : ∃ x, solY l = x := ⟨_, rfl⟩
  obtain ⟨T, ET⟩ : ∃ x, detN l = x := ⟨_, rfl⟩
  rw [EA, EB, EC, ED, EE] at NO
  rw [EC, ED, EB, EE, EX] at LX
  rw [EA, EE, EB, ED, EY] at LY
  rw [EA, EC] at q1
  rw [EB] at q2
  rw [EA, EB, EC, ET] at q3
  rw [ET, EX] at NX
  rw [ET, EY] at NY
  rw [ET] at E0 HDP
  have HX := Lib.hid EX
  have HY := Lib.hid EY
  have HT := Lib.hid ET
  clear EA EB EC ED EE EX EY ET
  obtain ⟨cx, hcx⟩ : ∃ x, cenX l = x := ⟨_, rfl⟩
  obtain ⟨cy, hcy⟩ : ∃ x, cenY l = x := ⟨_, rfl⟩
  rw [hcx] at NX
  rw [hcy] at NY
  rw [hcx, hcy] at VP E0
  have HCX := Lib.hid hcx
  have HCY := Lib.hid hcy
  clear hcx hcy
  have PV : (pOk cx && pOk cy) = vldP cx cy := by unfold pOk vldP; rw [Bool.eq_iff_iff]; simp only [Bool.and_eq_true, decide_eq_true_eq]; omega
  have PI : vldP cx cy = true → I64 cx ∧ I64 cy := fun h => by have := vldP_iff.1 h; exact ⟨⟨by omega, by omega⟩, by omega, by omega⟩
  rw [PV] at E0
  clear PV
  unfold wv at LX LY NX NY
  have g : (T == 0) = false := by rw [← HT.out]; simpa using hd
  clear NX NY VP E0 HDP PI HCX HCY hd
  have H0 := Lib.hid h
  have KZ := Lib.hid (Blk.of (vs := #[.int .i64 0, .int .u64 0, .int .i64 0, .int .u64 0, .int .i64 0, .int .i64 0, .int .i64 0]) (t := 51) (w := w) (b := w.heap.size) (by simp))
  have HB := Lib.hid ((Below.refl w.heap.size w).alloc (by simp; try omega) (.cells #[.int .i64 0, .int .u64 0, .int .i64 0, .int .u64 0, .int .i64 0, .int .i64 0, .int .i64 0] 51))
  go_enter Tryz.func28, Tryz.ntmps28
  clear h
  go_wp2_with fail
  generalize w.alloc (.cells #[.int .i64 0, .int .u64 0, .int .i64 0, .int .u64 0, .int .i64 0, .int .i64 0, .int .i64 0] 51) = w0 at *
  refine (NO.out _ (H0.out.below HB.out)).mono ?_
  rintro e1 w1 ⟨rfl, hb1⟩
  replace HB := Lib.hid (HB.out.trans (hb1.mono HB.out.size))
  replace KZ := Lib.hid (KZ.out.below hb1)
  clear hb1
  go_wp2_with fail
  have KN := Lib.hid (Blk.of (vs := #[.int .i64 A, .int .i64 B, .int .i64 C, .int .i64 D, .int .i64 E]) (t := 81) (w := w1) (b := w1.heap.size) rfl)
  have hb2 : Below w1.heap.size w1 (w1.alloc (.cells #[.int .i64 A, .int .i64 B, .int .i64 C, .int .i64 D, .int .i64 E] 81)) := (Below.refl _ _).alloc (Nat.le_refl _) _
  have hnN := HB.out.size
  have nzN_Z := KZ.out.lt
  replace HB := Lib.hid (HB.out.trans (hb2.mono HB.out.size))
  replace KZ := Lib.hid (KZ.out.below hb2)
  clear hb2
  generalize w1.alloc (.cells #[.int .i64 A, .int .i64 B, .int .i64 C, .int .i64 D, .int .i64 E] 81) = w2 at *
  generalize w1.heap.size = bN at *
  have neN_Z : bN ≠ w.heap.size := by omega
  clear nzN_Z
  have BD := Lib.hid (show Below w2.heap.size w2 w2.drew from ⟨rfl, rfl, rfl, Nat.le_refl _, fun _ _ => rfl⟩)
  have BD2 := Lib.hid (below_drew_alloc w2 (.cells #[.int .i64 0, .int .u64 0, .int .i64 0, .int .u64 0, .int .i64 0, .int .i64 0, .int .i64 0] 51))
  have DLX := Lib.hid fun W (h : Below w2.heap.size w2 W) => (LX.out W).mono fun e w' ⟨h1, h2⟩ => show _ ∧ Below w2.heap.size w2 w' ∧ Below W.heap.size W w' from ⟨h1, h.trans (h2.mono h.size), h2⟩
  have DLY := Lib.hid fun W (h : Below w2.heap.size w2 W) => (LY.out W).mono fun e w' ⟨h1, h2⟩ => show _ ∧ Below w2.heap.size w2 w' ∧ Below W.heap.size W w' from ⟨h1, h.trans (h2.mono h.size), h2⟩
  have yN := KN.out
  have yN_0 := yN.c 0 _ rfl
  have yN_1 := yN.c 1 _ rfl
  have yN_2 := yN.c 2 _ rfl
  have yN_3 := yN.c 3 _ rfl
  have yN_4 := yN.c 4 _ rfl
  have yN_z := yN.lt
  clear yN
  apply wp_join (R := fun b w' => w.heap.size ≤ b ∧ b ≠ w.heap.size ∧ b ≠ bN ∧ Hid (Below w.heap.size w w') ∧ Hid (Blk [.int .i64 (hiW X), .int .u64 (loW X), .int .i64 (hiW Y), .int .u64 (loW Y), .int .i64 T, .int .i64 0, .int .i64 0] b w') ∧ Hid (Blk [.int .i64 0, .int .u64 0, .int .i64 0, .int .u64 0, .int .i64 0, .int .i64 0, .int .i64 0] w.heap.size w') ∧ Hid (Blk [.int .i64 A, .int .i64 B, .int .i64 C, .int .i64 D, .int .i64 E] bN w'))
  · go_region_held3 (fun w' => w'.cell? ⟨bN, 0, none⟩ = some (.int .i64 A) ∧ w'.cell? ⟨bN, 1, none⟩ = some (.int .i64 B) ∧ w'.cell? ⟨bN, 2, none⟩ = some (.int .i64 C) ∧ w'.cell? ⟨bN, 3, none⟩ = some (.int .i64 D) ∧ w'.cell? ⟨bN, 4, none⟩ = some (.int .i64 E)) (first | (refine ⟨?_, ?_, ?_, ?_, ?_⟩ <;> first | with_reducible assumption | (rw [far7 KV.out.1 yN_z]; with_reducible assumption)) | go_keep)
      (first
        | (go_at_call 59; with_reducible refine Calls.mono (DLX.out _ (by first | with_reducible exact BD.out | with_reducible exact BD2.out | with_reducible exact HX.out | with_reducible exact HX.out.alloc HX.out.size _)) ?_; rintro e9 w9 ⟨rfl, hb9, hc9⟩; have pN := KN.out.below hb9; have qN0 := pN.c 0 _ rfl; have qN1 := pN.c 1 _ rfl; have qN2 := pN.c 2 _ rfl; have qN3 := pN.c 3 _ rfl; have qN4 := pN.c 4 _ rfl; clear pN; (first | (with_reducible have KV := Lib.hid (kv_drew (vs := #[.int .i64 0, .int .u64 0, .int .i64 0, .int .u64 0, .int .i64 0, .int .i64 0, .int .i64 0]) (t := 51) hc9); have pV := KV.out.2; have v0 := pV.c 0 _ rfl; have vf0 := pV.f 0 _ rfl; have v1 := pV.c 1 _ rfl; have vf1 := pV.f 1 _ rfl; have v2 := pV.c 2 _ rfl; have vf2 := pV.f 2 _ rfl; have v3 := pV.c 3 _ rfl; have vf3 := pV.f 3 _ rfl; have v4 := pV.c 4 _ rfl; have vf4 := pV.f 4 _ rfl; have v5 := pV.c 5 _ rfl; have vf5 := pV.f 5 _ rfl; have v6 := pV.c 6 _ rfl; have vf6 := pV.f 6 _ rfl; have v9 := pV.lt; clear pV) | (with_reducible have KV := Lib.hid (kv_new (vs := #[.int .i64 0, .int .u64 0, .int .i64 0, .int .u64 0, .int .i64 0, .int .i64 0, .int .i64 0]) (t := 51) HX.out hc9); have pV := KV.out.2; have v0 := pV.c 0 _ rfl; have vf0 := pV.f 0 _ rfl; have v1 := pV.c 1 _ rfl; have vf1 := pV.f 1 _ rfl; have v2 := pV.c 2 _ rfl; have vf2 := pV.f 2 _ rfl; have v3 := pV.c 3 _ rfl; have vf3 := pV.f 3 _ rfl; have v4 := pV.c 4 _ rfl; have vf4 := pV.f 4 _ rfl; have v5 := pV.c 5 _ rfl; have vf5 := pV.f 5 _ rfl; have v6 := pV.c 6 _ rfl; have vf6 := pV.f 6 _ rfl; have v9 := pV.lt; clear pV) | (with_reducible have KV := Lib.hid (kv_old KV.out hc9); have pV := KV.out.2; have v0 := pV.c 0 _ rfl; have vf0 := pV.f 0 _ rfl; have v1 := pV.c 1 _ rfl; have vf1 := pV.f 1 _ rfl; have v2 := pV.c 2 _ rfl; have vf2 := pV.f 2 _ rfl; have v3 := pV.c 3 _ rfl; have vf3 := pV.f 3 _ rfl; have v4 := pV.c 4 _ rfl; have vf4 := pV.f 4 _ rfl; have v5 := pV.c 5 _ rfl; have vf5 := pV.f 5 _ rfl; have v6 := pV.c 6 _ rfl; have vf6 := pV.f 6 _ rfl; have v9 := pV.lt; clear pV) | skip); have HX := Lib.hid hb9; clear hb9 hc9)
        | (go_at_call 59; with_reducible refine Calls.mono (DLY.out _ (by first | with_reducible exact BD.out | with_reducible exact BD2.out | with_reducible exact HX.out | with_reducible exact HX.out.alloc HX.out.size _)) ?_; rintro e9 w9 ⟨rfl, hb9, hc9⟩; have pN := KN.out.below hb9; have qN0 := pN.c 0 _ rfl; have qN1 := pN.c 1 _ rfl; have qN2 := pN.c 2 _ rfl; have qN3 := pN.c 3 _ rfl; have qN4 := pN.c 4 _ rfl; clear pN; (first | (with_reducible have KV := Lib.hid (kv_drew (vs := #[.int .i64 0, .int .u64 0, .int .i64 0, .int .u64 0, .int .i64 0, .int .i64 0, .int .i64 0]) (t := 51) hc9); have pV := KV.out.2; have v0 := pV.c 0 _ rfl; have vf0 := pV.f 0 _ rfl; have v1 := pV.c 1 _ rfl; have vf1 := pV.f 1 _ rfl; have v2 := pV.c 2 _ rfl; have vf2 := pV.f 2 _ rfl; have v3 := pV.c 3 _ rfl; have vf3 := pV.f 3 _ rfl; have v4 := pV.c 4 _ rfl; have vf4 := pV.f 4 _ rfl; have v5 := pV.c 5 _ rfl; have vf5 := pV.f 5 _ rfl; have v6 := pV.c 6 _ rfl; have vf6 := pV.f 6 _ rfl; have v9 := pV.lt; clear pV) | (with_reducible have KV := Lib.hid (kv_new (vs := #[.int .i64 0, .int .u64 0, .int .i64 0, .int .u64 0, .int .i64 0, .int .i64 0, .int .i64 0]) (t := 51) HX.out hc9); have pV := KV.out.2; have v0 := pV.c 0 _ rfl; have vf0 := pV.f 0 _ rfl; have v1 := pV.c 1 _ rfl; have vf1 := pV.f 1 _ rfl; have v2 := pV.c 2 _ rfl; have vf2 := pV.f 2 _ rfl; have v3 := pV.c 3 _ rfl; have vf3 := pV.f 3 _ rfl; have v4 := pV.c 4 _ rfl; have vf4 := pV.f 4 _ rfl; have v5 := pV.c 5 _ rfl; have vf5 := pV.f 5 _ rfl; have v6 := pV.c 6 _ rfl; have vf6 := pV.f 6 _ rfl; have v9 := pV.lt; clear pV) | (with_reducible have KV := Lib.hid (kv_old KV.out hc9); have pV := KV.out.2; have v0 := pV.c 0 _ rfl; have vf0 := pV.f 0 _ rfl; have v1 := pV.c 1 _ rfl; have vf1 := pV.f 1 _ rfl; have v2 := pV.c 2 _ rfl; have vf2 := pV.f 2 _ rfl; have v3 := pV.c 3 _ rfl; have vf3 := pV.f 3 _ rfl; have v4 := pV.c 4 _ rfl; have vf4 := pV.f 4 _ rfl; have v5 := pV.c 5 _ rfl; have vf5 := pV.f 5 _ rfl; have v6 := pV.c 6 _ rfl; have vf6 := pV.f 6 _ rfl; have v9 := pV.lt; clear pV) | skip); have HX := Lib.hid hb9; clear hb9 hc9))
    all_goals
      first
        | (have FN := kv_set7 (.int .i64 (hiW X)) (.int .u64 (loW X)) (.int .i64 (hiW Y)) (.int .u64 (loW Y)) (.int .i64 T) (.int .i64 0) (.int .i64 0) KV.out HX.out; have FB := Lib.hid FN.1; have KS := Lib.hid FN.2.1; have n0S := FN.2.2; clear FN; generalize World.setCell (World.setCell (World.setCell (World.setCell (World.setCell (World.setCell (World.setCell _ _ (.int .i64 (hiW X))) _ (.int .u64 (loW X))) _ (.int .i64 (hiW Y))) _ (.int .u64 (loW Y))) _ (.int .i64 T)) _ (.int .i64 0)) _ (.int .i64 0) = w3 at *)
        | (have FN := kv_putn (vs := #[.int .i64 (hiW X), .int .u64 (loW X), .int .i64 (hiW Y), .int .u64 (loW Y), .int .i64 T, .int .i64 0, .int .i64 0]) (t := 51) HX.out; have FB := Lib.hid FN.1; have KS := Lib.hid FN.2.1; have n0S := FN.2.2; clear FN; generalize (World.alloc _ (.cells #[.int .i64 (hiW X), .int .u64 (loW X), .int .i64 (hiW Y), .int .u64 (loW Y), .int .i64 T, .int .i64 0, .int .i64 0] 51)) = w3 at *)
      have nS := Nat.le_trans HB.out.size n0S
      have neS_Z := Nat.ne_of_gt (Nat.lt_of_lt_of_le KZ.out.lt n0S)
      have neS_N := Nat.ne_of_gt (Nat.lt_of_lt_of_le KN.out.lt n0S)
      replace HB := Lib.hid (HB.out.trans (FB.out.mono HB.out.size))
      replace KZ := Lib.hid (KZ.out.below FB.out)
      replace KN := Lib.hid (KN.out.below FB.out)
      obtain ⟨bS, hbS⟩ := ex_blk KS
      rw [← hbS] at KS nS neS_Z neS_N ⊢
      refine OnlyN.mk ⟨bS, rfl, ?_⟩
      with_reducible exact ⟨nS, neS_Z, neS_N, HB, KS, KZ, KN⟩
  clear BD BD2 DLX DLY yN_0 yN_1 yN_2 yN_3 yN_4 yN_z
  rintro bS w3 ⟨nS, neS_Z, neS_N, HB2, KS, KZ2, KN2⟩
  replace HB := HB2
  clear HB2
  replace KZ := KZ2
  clear KZ2
  replace KN := KN2
  clear KN2
  clear LX LY NO q1 q2 q3
  have yZ := KZ.out
  have yZ_0 := yZ.c 0 _ rfl
  have yZ_1 := yZ.c 1 _ rfl
  have yZ_2 := yZ.c 2 _ rfl
  have yZ_3 := yZ.c 3 _ rfl
  have yZ_4 := yZ.c 4 _ rfl
  have yZ_5 := yZ.c 5 _ rfl
  have yZ_6 := yZ.c 6 _ rfl
  have yZ_z := yZ.lt
  have yZ_f0 := yZ.f 0 _ rfl
  have yZ_f1 := yZ.f 1 _ rfl
  have yZ_f2 := yZ.f 2 _ rfl
  have yZ_f3 := yZ.f 3 _ rfl
  have yZ_f4 := yZ.f 4 _ rfl
  have yZ_f5 := yZ.f 5 _ rfl
  have yZ_f6 := yZ.f 6 _ rfl
  clear yZ
  have yS := KS.out
  have yS_0 := yS.c 0 _ rfl
  have yS_1 := yS.c 1 _ rfl
  have yS_2 := yS.c 2 _ rfl
  have yS_3 := yS.c 3 _ rfl
  have yS_4 := yS.c 4 _ rfl
  have yS_5 := yS.c 5 _ rfl
  have yS_6 := yS.c 6 _ rfl
  have yS_z := yS.lt
  clear yS
  go_wp2
  replace KZ := Lib.hid (blk_set (blk_set (blk_set (blk_set (blk_set (blk_set (blk_set KZ.out (j := 0) (by simp) (.int .i64 (hiW X))) (j := 1) (by simp) (.int .u64 (loW X))) (j := 2) (by simp) (.int .i64 (hiW Y))) (j := 3) (by simp) (.int .u64 (loW Y))) (j := 4) (by simp) (.int .i64 T)) (j := 5) (by simp) (.int .i64 0)) (j := 6) (by simp) (.int .i64 0))
  replace KN := Lib.hid (blk_other (b := bN) (n := w.heap.size) (j := 6) (blk_other (b := bN) (n := w.heap.size) (j := 5) (blk_other (b := bN) (n := w.heap.size) (j := 4) (blk_other (b := bN) (n := w.heap.size) (j := 3) (blk_other (b := bN) (n := w.heap.size) (j := 2) (blk_other (b := bN) (n := w.heap.size) (j := 1) (blk_other (b := bN) (n := w.heap.size) (j := 0) KN.out (by omega) (.int .i64 (hiW X))) (by omega) (.int .u64 (loW X))) (by omega) (.int .i64 (hiW Y))) (by omega) (.int .u64 (loW Y))) (by omega) (.int .i64 T)) (by omega) (.int .i64 0)) (by omega) (.int .i64 0))
  replace KS := Lib.hid (blk_other (b := bS) (n := w.heap.size) (j := 6) (blk_other (b := bS) (n := w.heap.size) (j := 5) (blk_other (b := bS) (n := w.heap.size) (j := 4) (blk_other (b := bS) (n := w.heap.size) (j := 3) (blk_other (b := bS) (n := w.heap.size) (j := 2) (blk_other (b := bS) (n := w.heap.size) (j := 1) (blk_other (b := bS) (n := w.heap.size) (j := 0) KS.out (by omega) (.int .i64 (hiW X))) (by omega) (.int .u64 (loW X))) (by omega) (.int .i64 (hiW Y))) (by omega) (.int .u64 (loW Y))) (by omega) (.int .i64 T)) (by omega) (.int .i64 0)) (by omega) (.int .i64 0))
  replace HB := Lib.hid (((((((HB.out.setCell (p := ⟨w.heap.size, 0, none⟩) (show w.heap.size ≤ w.heap.size by omega) (.int .i64 (hiW X))).setCell (p := ⟨w.heap.size, 1, none⟩) (show w.heap.size ≤ w.heap.size by omega) (.int .u64 (loW X))).setCell (p := ⟨w.heap.size, 2, none⟩) (show w.heap.size ≤ w.heap.size by omega) (.int .i64 (hiW Y))).setCell (p := ⟨w.heap.size, 3, none⟩) (show w.heap.size ≤ w.heap.size by omega) (.int .u64 (loW Y))).setCell (p := ⟨w.heap.size, 4, none⟩) (show w.heap.size ≤ w.heap.size by omega) (.int .i64 T)).setCell (p := ⟨w.heap.size, 5, none⟩) (show w.heap.size ≤ w.heap.size by omega) (.int .i64 0)).setCell (p := ⟨w.heap.size, 6, none⟩) (show w.heap.size ≤ w.heap.size by omega) (.int .i64 0))
  clear yZ_0 yZ_1 yZ_2 yZ_3 yZ_4 yZ_5 yZ_6 yZ_z yZ_f0 yZ_f1 yZ_f2 yZ_f3 yZ_f4 yZ_f5 yZ_f6 yS_0 yS_1 yS_2 yS_3 yS_4 yS_5 yS_6 yS_z
  generalize ((((((w3.setCell ⟨w.heap.size, 0, none⟩ (.int .i64 (hiW X))).setCell ⟨w.heap.size, 1, none⟩ (.int .u64 (loW X))).setCell ⟨w.heap.size, 2, none⟩ (.int .i64 (hiW Y))).setCell ⟨w.heap.size, 3, none⟩ (.int .u64 (loW Y))).setCell ⟨w.heap.size, 4, none⟩ (.int .i64 T)).setCell ⟨w.heap.size, 5, none⟩ (.int .i64 0)).setCell ⟨w.heap.size, 6, none⟩ (.int .i64 0) = w4 at *
  simp only [List.set] at KZ
  have yZ := KZ.out
  have yZ_0 := yZ.c 0 _ rfl
  have yZ_1 := yZ.c 1 _ rfl
  have yZ_2 := yZ.c 2 _ rfl
  have yZ_3 := yZ.c 3 _ rfl
  have yZ_4 := yZ.c 4 _ rfl
  have yZ_5 := yZ.c 5 _ rfl
  have yZ_6 := yZ.c 6 _ rfl
  have yZ_z := yZ.lt
  clear yZ
  refine bodyPost_ret (v := .tuple #[.agg #[.int .i64 (hiW X), .int .u64 (loW X), .int .i64 (hiW Y), .int .u64 (loW Y), .int .i64 T, .int .i64 0, .int .i64 0], .int .i64 0]) (by simp [results, Tryz.results28, go_sem, yZ_0, yZ_1, yZ_2, yZ_3, yZ_4, yZ_5, yZ_6]) rfl ⟨by rw [HX.out, HY.out, HT.out], HB.out⟩
set_option maxHeartbeats 40000000 in
set_option maxRecDepth 100000 in
theorem rex_rank (l : List Ms) (v : Value) (w : World) (h : LstAt l v w) (hc : chkL l = 0) (hd : detN l = 0) :
    Calls Tryz.prog 28 #[v] w fun e w' => e = .returned (.tuple #[.agg #[.int .i64 0, .int .u64 0, .int .i64 0, .int .u64 0, .int .i64 0, .int .i64 0, .int .i64 0], .int .i64 14]) ∧ Below w.heap.size w w' := by
  obtain ⟨p, cap, rfl⟩ := lst_form h
  have OL := Lib.hid (okL_of hc)
  obtain ⟨⟨a0, a1⟩, ⟨b0, b1⟩, ⟨c0, c1⟩, ⟨d0, d1⟩, ⟨e0, e1⟩⟩ := nrm_bd OL.out
  obtain ⟨⟨dt0, dt1⟩, ⟨sx0, sx1⟩, ⟨sy0, sy1⟩⟩ := sol_bd (nrm_bd OL.out)
  have NO := Lib.hid fun w h => rnormal_any l (.slice p l.length cap) w h hc
  have P1 := mulb (X := 16777216) (Y := 16777216) (by omega) a0 a1 c0 c1
  have P2 := mulb (X := 16777216) (Y := 16777216) (by omega) b0 b1 b0 b1
  have LX := Lib.hid fun w => rminor_any (nYY l) (nXZ l) (nXY l) (nYZ l) w ⟨by omega, by omega⟩ ⟨by omega, by omega⟩ ⟨by omega, by omega⟩ ⟨by omega, by omega⟩ (show FitW (solX l) from ⟨by omega, by omega⟩)
  have LY := Lib.hid fun w => rminor_any (nXX l) (nYZ l) (nXY l) (nXZ l) w ⟨by omega, by omega⟩ ⟨by omega, by omega⟩ ⟨by omega, by omega⟩ ⟨by omega, by omega⟩ (show FitW (solY l) from ⟨by omega, by omega⟩)
  have q1 : IntKind.i64.wrap (nXX l * nYY l) = nXX l * nYY l := IntWalk.i64_in _ (by omega)
  have q2 : IntKind.i64.wrap (nXY l * nXY l) = nXY l * nXY l := IntWalk.i64_in _ (by omega)
  have q3 : IntKind.i64.wrap (nXX l * nYY l - nXY l * nXY l) = detN l := IntWalk.i64_in _ (by unfold detN at dt0 dt1; omega)
  have HX : Hid (solX l = nYY l * nXZ l - nXY l * nYZ l) := Lib.hid rfl
  have HY : Hid (solY l = nXX l * nYZ l - nXY l * nXZ l) := Lib.hid rfl
  rw [← HX.out] at LX
  rw [← HY.out] at LY
  have NX := Lib.hid fun (hd : 0 < detN l) w => rnearest_any (solX l) (detN l) w (by omega) (by omega) hd (by omega)
  have NY := Lib.hid fun (hd : 0 < detN l) w => rnearest_any (solY l) (detN l) w (by omega) (by omega) hd (by omega)
  have VP := Lib.hid fun w => rvldP_any (cenX l) (cenY l) w
  have E0 : solE l = if detN l = 0 then 14 else if (pOk (cenX l) && pOk (cenY l)) = true then 0 else 2 := by unfold solE; rw [if_pos hc]
  have HDP : detN l ≠ 0 → 0 < detN l := fun q => by have := det_nonneg l (chk_w hc); omega
  rw [show nearI2 (solX l) (detN l) = cenX l from rfl] at NX
  rw [show nearI2 (solY l) (detN l) = cenY l from rfl] at NY
  clear hc a0 a1 b0 b1 c0 c1 d0 d1 e0 e1 dt0 dt1 sx0 sx1 sy0 sy1 P1 P2 HX HY
  obtain ⟨A, EA⟩ : ∃ x, nXX l = x := ⟨_, rfl⟩
  obtain ⟨B, EB⟩ : ∃ x, nXY l = x := ⟨_, rfl⟩
  obtain ⟨C, EC⟩ : ∃ x, nYY l = x := ⟨_, rfl⟩
  obtain ⟨D, ED⟩ : ∃ x, nXZ l = x := ⟨_, rfl⟩
  obtain ⟨E, EE⟩ : ∃ x, nYZ l = x := ⟨_, rfl⟩
  obtain ⟨X, EX⟩ : ∃ x, solX l = x := ⟨_, rfl⟩
  obtain ⟨Y, EY⟩ : ∃ x, solY l = x := ⟨_, rfl⟩
  obtain ⟨T, ET⟩ : ∃ x, detN l = x := ⟨_, rfl⟩
  rw [EA, EB, EC, ED, EE] at NO
  rw [EC, ED, EB, EE, EX] at LX
  rw [EA, EE, EB, ED, EY] at LY
  rw [EA, EC] at q1
  rw [EB] at q2
  rw [EA, EB, EC, ET] at q3
  rw [ET, EX] at NX
  rw [ET, EY] at NY
  rw [ET] at E0 HDP
  have HX := Lib.hid EX
  have HY := Lib.hid EY
  have HT := Lib.hid ET
  clear EA EB EC ED EE EX EY ET
  obtain ⟨cx, hcx⟩ : ∃ x, cenX l = x := ⟨_, rfl⟩
  obtain ⟨cy, hcy⟩ : ∃ x, cenY l = x := ⟨_, rfl⟩
  rw [hcx] at NX
  rw [hcy] at NY
  rw [hcx, hcy] at VP E0
  have HCX := Lib.hid hcx
  have HCY := Lib.hid hcy
  clear hcx hcy
  have PV : (pOk cx && pOk cy) = vldP cx cy := by unfold pOk vldP; rw [Bool.eq_iff_iff]; simp only [Bool.and_eq_true, decide_eq_true_eq]; omega
  have PI : vldP cx cy = true → I64 cx ∧ I64 cy := fun h => by have := vldP_iff.1 h; exact ⟨⟨by omega, by omega⟩, by omega, by omega⟩
  rw [PV] at E0
  clear PV
  unfold wv at LX LY NX NY
  have g : (T == 0) = true := by rw [← HT.out]; simpa using hd
  clear NX NY VP E0 HDP PI HCX HCY HX HY HT hd
  have H0 := Lib.hid h
  have KZ := Lib.hid (Blk.of (vs := #[.int .i64 0, .int .u64 0, .int .i64 0, .int .u64 0, .int .i64 0, .int .i64 0, .int .i64 0]) (t := 51) (w := w) (b := w.heap.size) (by simp))
  have HB := Lib.hid ((Below.refl w.heap.size w).alloc (by simp; try omega) (.cells #[.int .i64 0, .int .u64 0, .int .i64 0, .int .u64 0, .int .i64 0, .int .i64 0, .int .i64 0] 51))
  go_enter Tryz.func28, Tryz.ntmps28
  clear h
  go_wp2_with fail
  generalize w.alloc (.cells #[.int .i64 0, .int .u64 0, .int .i64 0, .int .u64 0, .int .i64 0, .int .i64 0, .int .i64 0] 51) = w0 at *
  refine (NO.out _ (H0.out.below HB.out)).mono ?_
  rintro e1 w1 ⟨rfl, hb1⟩
  replace HB := Lib.hid (HB.out.trans (hb1.mono HB.out.size))
  replace KZ := Lib.hid (KZ.out.below hb1)
  clear hb1
  go_wp2_with fail
  have KN := Lib.hid (Blk.of (vs := #[.int .i64 A, .int .i64 B, .int .i64 C, .int .i64 D, .int .i64 E]) (t := 81) (w := w1) (b := w1.heap.size) rfl)
  have hb2 : Below w1.heap.size w1 (w1.alloc (.cells #[.int .i64 A, .int .i64 B, .int .i64 C, .int .i64 D, .int .i64 E] 81)) := (Below.refl _ _).alloc (Nat.le_refl _) _
  have hnN := HB.out.size
  have nzN_Z := KZ.out.lt
  replace HB := Lib.hid (HB.out.trans (hb2.mono HB.out.size))
  replace KZ := Lib.hid (KZ.out.below hb2)
  clear hb2
  generalize w1.alloc (.cells #[.int .i64 A, .int .i64 B, .int .i64 C, .int .i64 D, .int .i64 E] 81) = w2 at *
  generalize w1.heap.size = bN at *
  have neN_Z : bN ≠ w.heap.size := by omega
  clear nzN_Z
  have BD := Lib.hid (show Below w2.heap.size w2 w2.drew from ⟨rfl, rfl, rfl, Nat.le_refl _, fun _ _ => rfl⟩)
  have BD2 := Lib.hid (below_drew_alloc w2 (.cells #[.int .i64 0, .int .u64 0, .int .i64 0, .int .u64 0, .int .i64 0, .int .i64 0, .int .i64 0] 51))
  have DLX := Lib.hid fun W (h : Below w2.heap.size w2 W) => (LX.out W).mono fun e w' ⟨h1, h2⟩ => show _ ∧ Below w2.heap.size w2 w' ∧ Below W.heap.size W w' from ⟨h1, h.trans (h2.mono h.size), h2⟩
  have DLY := Lib.hid fun W (h : Below w2.heap.size w2 W) => (LY.out W).mono fun e w' ⟨h1, h2⟩ => show _ ∧ Below w2.heap.size w2 w' ∧ Below W.heap.size W w' from ⟨h1, h.trans (h2.mono h.size), h2⟩
  have yN := KN.out
  have yN_0 := yN.c 0 _ rfl
  have yN_1 := yN.c 1 _ rfl
  have yN_2 := yN.c 2 _ rfl
  have yN_3 := yN.c 3 _ rfl
  have yN_4 := yN.c 4 _ rfl
  have yN_z := yN.lt
  clear yN
  apply wp_join (R := fun b w' => w.heap.size ≤ b ∧ b ≠ w.heap.size ∧ b ≠ bN ∧ Hid (Below w.heap.size w w') ∧ Hid (Blk [.int .i64 (hiW X), .int .u64 (loW X), .int .i64 (hiW Y), .int .u64 (loW Y), .int .i64 T, .int .i64 0, .int .i64 0] b w') ∧ Hid (Blk [.int .i64 0, .int .u64 0, .int .i64 0, .int .u64 0, .int .i64 0, .int .i64 0, .int .i64 0] w.heap.size w') ∧ Hid (Blk [.int .i64 A, .int .i64 B, .int .i64 C, .int .i64 D, .int .i64 E] bN w'))
  · go_region_held3 (fun w' => w'.cell? ⟨bN, 0, none⟩ = some (.int .i64 A) ∧ w'.cell? ⟨bN, 1, none⟩ = some (.int .i64 B) ∧ w'.cell? ⟨bN, 2, none⟩ = some (.int .i64 C) ∧ w'.cell? ⟨bN, 3, none⟩ = some (.int .i64 D) ∧ w'.cell? ⟨bN, 4, none⟩ = some (.int .i64 E)) (first | (refine ⟨?_, ?_, ?_, ?_, ?_⟩ <;> first | with_reducible assumption | (rw [far7 KV.out.1 yN_z]; with_reducible assumption)) | go_keep)
      (first
        | (go_at_call 59; with_reducible refine Calls.mono (DLX.out _ (by first | with_reducible exact BD.out | with_reducible exact BD2.out | with_reducible exact HX.out | with_reducible exact HX.out.alloc HX.out.size _)) ?_; rintro e9 w9 ⟨rfl, hb9, hc9⟩; have pN := KN.out.below hb9; have qN0 := pN.c 0 _ rfl; have qN1 := pN.c 1 _ rfl; have qN2 := pN.c 2 _ rfl; have qN3 := pN.c 3 _ rfl; have qN4 := pN.c 4 _ rfl; clear pN; (first | (with_reducible have KV := Lib.hid (kv_drew (vs := #[.int .i64 0, .int .u64 0, .int .i64 0, .int .u64 0, .int .i64 0, .int .i64 0, .int .i64 0]) (t := 51) hc9); have pV := KV.out.2; have v0 := pV.c 0 _ rfl; have vf0 := pV.f 0 _ rfl; have v1 := pV.c 1 _ rfl; have vf1 := pV.f 1 _ rfl; have v2 := pV.c 2 _ rfl; have vf2 := pV.f 2 _ rfl; have v3 := pV.c 3 _ rfl; have vf3 := pV.f 3 _ rfl; have v4 := pV.c 4 _ rfl; have vf4 := pV.f 4 _ rfl; have v5 := pV.c 5 _ rfl; have vf5 := pV.f 5 _ rfl; have v6 := pV.c 6 _ rfl; have vf6 := pV.f 6 _ rfl; have v9 := pV.lt; clear pV) | (with_reducible have KV := Lib.hid (kv_new (vs := #[.int .i64 0, .int .u64 0, .int .i64 0, .int .u64 0, .int .i64 0, .int .i64 0, .int .i64 0]) (t := 51) HX.out hc9); have pV := KV.out.2; have v0 := pV.c 0 _ rfl; have vf0 := pV.f 0 _ rfl; have v1 := pV.c 1 _ rfl; have vf1 := pV.f 1 _ rfl; have v2 := pV.c 2 _ rfl; have vf2 := pV.f 2 _ rfl; have v3 := pV.c 3 _ rfl; have vf3 := pV.f 3 _ rfl; have v4 := pV.c 4 _ rfl; have vf4 := pV.f 4 _ rfl; have v5 := pV.c 5 _ rfl; have vf5 := pV.f 5 _ rfl; have v6 := pV.c 6 _ rfl; have vf6 := pV.f 6 _ rfl; have v9 := pV.lt; clear pV) | (with_reducible have KV := Lib.hid (kv_old KV.out hc9); have pV := KV.out.2; have v0 := pV.c 0 _ rfl; have vf0 := pV.f 0 _ rfl; have v1 := pV.c 1 _ rfl; have vf1 := pV.f 1 _ rfl; have v2 := pV.c 2 _ rfl; have vf2 := pV.f 2 _ rfl; have v3 := pV.c 3 _ rfl; have vf3 := pV.f 3 _ rfl; have v4 := pV.c 4 _ rfl; have vf4 := pV.f 4 _ rfl; have v5 := pV.c 5 _ rfl; have vf5 := pV.f 5 _ rfl; have v6 := pV.c 6 _ rfl; have vf6 := pV.f 6 _ rfl; have v9 := pV.lt; clear pV) | skip); have HX := Lib.hid hb9; clear hb9 hc9)
        | (go_at_call 59; with_reducible refine Calls.mono (DLY.out _ (by first | with_reducible exact BD.out | with_reducible exact BD2.out | with_reducible exact HX.out | with_reducible exact HX.out.alloc HX.out.size _)) ?_; rintro e9 w9 ⟨rfl, hb9, hc9⟩; have pN := KN.out.below hb9; have qN0 := pN.c 0 _ rfl; have qN1 := pN.c 1 _ rfl; have qN2 := pN.c 2 _ rfl; have qN3 := pN.c 3 _ rfl; have qN4 := pN.c 4 _ rfl; clear pN; (first | (with_reducible have KV := Lib.hid (kv_drew (vs := #[.int .i64 0, .int .u64 0, .int .i64 0, .int .u64 0, .int .i64 0, .int .i64 0, .int .i64 0]) (t := 51) hc9); have pV := KV.out.2; have v0 := pV.c 0 _ rfl; have vf0 := pV.f 0 _ rfl; have v1 := pV.c 1 _ rfl; have vf1 := pV.f 1 _ rfl; have v2 := pV.c 2 _ rfl; have vf2 := pV.f 2 _ rfl; have v3 := pV.c 3 _ rfl; have vf3 := pV.f 3 _ rfl; have v4 := pV.c 4 _ rfl; have vf4 := pV.f 4 _ rfl; have v5 := pV.c 5 _ rfl; have vf5 := pV.f 5 _ rfl; have v6 := pV.c 6 _ rfl; have vf6 := pV.f 6 _ rfl; have v9 := pV.lt; clear pV) | (with_reducible have KV := Lib.hid (kv_new (vs := #[.int .i64 0, .int .u64 0, .int .i64 0, .int .u64 0, .int .i64 0, .int .i64 0, .int .i64 0]) (t := 51) HX.out hc9); have pV := KV.out.2; have v0 := pV.c 0 _ rfl; have vf0 := pV.f 0 _ rfl; have v1 := pV.c 1 _ rfl; have vf1 := pV.f 1 _ rfl; have v2 := pV.c 2 _ rfl; have vf2 := pV.f 2 _ rfl; have v3 := pV.c 3 _ rfl; have vf3 := pV.f 3 _ rfl; have v4 := pV.c 4 _ rfl; have vf4 := pV.f 4 _ rfl; have v5 := pV.c 5 _ rfl; have vf5 := pV.f 5 _ rfl; have v6 := pV.c 6 _ rfl; have vf6 := pV.f 6 _ rfl; have v9 := pV.lt; clear pV) | (with_reducible have KV := Lib.hid (kv_old KV.out hc9); have pV := KV.out.2; have v0 := pV.c 0 _ rfl; have vf0 := pV.f 0 _ rfl; have v1 := pV.c 1 _ rfl; have vf1 := pV.f 1 _ rfl; have v2 := pV.c 2 _ rfl; have vf2 := pV.f 2 _ rfl; have v3 := pV.c 3 _ rfl; have vf3 := pV.f 3 _ rfl; have v4 := pV.c 4 _ rfl; have vf4 := pV.f 4 _ rfl; have v5 := pV.c 5 _ rfl; have vf5 := pV.f 5 _ rfl; have v6 := pV.c 6 _ rfl; have vf6 := pV.f 6 _ rfl; have v9 := pV.lt; clear pV) | skip); have HX := Lib.hid hb9; clear hb9 hc9))
    all_goals
      first
        | (have FN := kv_set7 (.int .i64 (hiW X)) (.int .u64 (loW X)) (.int .i64 (hiW Y)) (.int .u64 (loW Y)) (.int .i64 T) (.int .i64 0) (.int .i64 0) KV.out HX.out; have FB := Lib.hid FN.1; have KS := Lib.hid FN.2.1; have n0S := FN.2.2; clear FN; generalize World.setCell (World.setCell (World.setCell (World.setCell (World.setCell (World.setCell (World.setCell _ _ (.int .i64 (hiW X))) _ (.int .u64 (loW X))) _ (.int .i64 (hiW Y))) _ (.int .u64 (loW Y))) _ (.int .i64 T)) _ (.int .i64 0)) _ (.int .i64 0) = w3 at *)
        | (have FN := kv_putn (vs := #[.int .i64 (hiW X), .int .u64 (loW X), .int .i64 (hiW Y), .int .u64 (loW Y), .int .i64 T, .int .i64 0, .int .i64 0]) (t := 51) HX.out; have FB := Lib.hid FN.1; have KS := Lib.hid FN.2.1; have n0S := FN.2.2; clear FN; generalize (World.alloc _ (.cells #[.int .i64 (hiW X), .int .u64 (loW X), .int .i64 (hiW Y), .int .u64 (loW Y), .int .i64 T, .int .i64 0, .int .i64 0] 51)) = w3 at *)
      have nS := Nat.le_trans HB.out.size n0S
      have neS_Z := Nat.ne_of_gt (Nat.lt_of_lt_of_le KZ.out.lt n0S)
      have neS_N := Nat.ne_of_gt (Nat.lt_of_lt_of_le KN.out.lt n0S)
      replace HB := Lib.hid (HB.out.trans (FB.out.mono HB.out.size))
      replace KZ := Lib.hid (KZ.out.below FB.out)
      replace KN := Lib.hid (KN.out.below FB.out)
      obtain ⟨bS, hbS⟩ := ex_blk KS
      rw [← hbS] at KS nS neS_Z neS_N ⊢
      refine OnlyN.mk ⟨bS, rfl, ?_⟩
      with_reducible exact ⟨nS, neS_Z, neS_N, HB, KS, KZ, KN⟩
  clear BD BD2 DLX DLY yN_0 yN_1 yN_2 yN_3 yN_4 yN_z
  rintro bS w3 ⟨nS, neS_Z, neS_N, HB2, KS, KZ2, KN2⟩
  replace HB := HB2
  clear HB2
  replace KZ := KZ2
  clear KZ2
  replace KN := KN2
  clear KN2
  clear LX LY NO q1 q2 q3
  have yZ := KZ.out
  have yZ_0 := yZ.c 0 _ rfl
  have yZ_1 := yZ.c 1 _ rfl
  have yZ_2 := yZ.c 2 _ rfl
  have yZ_3 := yZ.c 3 _ rfl
  have yZ_4 := yZ.c 4 _ rfl
  have yZ_5 := yZ.c 5 _ rfl
  have yZ_6 := yZ.c 6 _ rfl
  have yZ_z := yZ.lt
  have yZ_f0 := yZ.f 0 _ rfl
  have yZ_f1 := yZ.f 1 _ rfl
  have yZ_f2 := yZ.f 2 _ rfl
  have yZ_f3 := yZ.f 3 _ rfl
  have yZ_f4 := yZ.f 4 _ rfl
  have yZ_f5 := yZ.f 5 _ rfl
  have yZ_f6 := yZ.f 6 _ rfl
  clear yZ
  have yS := KS.out
  have yS_0 := yS.c 0 _ rfl
  have yS_1 := yS.c 1 _ rfl
  have yS_2 := yS.c 2 _ rfl
  have yS_3 := yS.c 3 _ rfl
  have yS_4 := yS.c 4 _ rfl
  have yS_5 := yS.c 5 _ rfl
  have yS_6 := yS.c 6 _ rfl
  have yS_z := yS.lt
  clear yS
  go_wp2
  replace KZ := Lib.hid (blk_set (blk_set (blk_set (blk_set (blk_set (blk_set (blk_set KZ.out (j := 0) (by simp) (.int .i64 0)) (j := 1) (by simp) (.int .u64 0)) (j := 2) (by simp) (.int .i64 0)) (j := 3) (by simp) (.int .u64 0)) (j := 4) (by simp) (.int .i64 0)) (j := 5) (by simp) (.int .i64 0)) (j := 6) (by simp) (.int .i64 0))
  replace KN := Lib.hid (blk_other (b := bN) (n := w.heap.size) (j := 6) (blk_other (b := bN) (n := w.heap.size) (j := 5) (blk_other (b := bN) (n := w.heap.size) (j := 4) (blk_other (b := bN) (n := w.heap.size) (j := 3) (blk_other (b := bN) (n := w.heap.size) (j := 2) (blk_other (b := bN) (n := w.heap.size) (j := 1) (blk_other (b := bN) (n := w.heap.size) (j := 0) KN.out (by omega) (.int .i64 0)) (by omega) (.int .u64 0)) (by omega) (.int .i64 0)) (by omega) (.int .u64 0)) (by omega) (.int .i64 0)) (by omega) (.int .i64 0)) (by omega) (.int .i64 0))
  replace KS := Lib.hid (blk_other (b := bS) (n := w.heap.size) (j := 6) (blk_other (b := bS) (n := w.heap.size) (j := 5) (blk_other (b := bS) (n := w.heap.size) (j := 4) (blk_other (b := bS) (n := w.heap.size) (j := 3) (blk_other (b := bS) (n := w.heap.size) (j := 2) (blk_other (b := bS) (n := w.heap.size) (j := 1) (blk_other (b := bS) (n := w.heap.size) (j := 0) KS.out (by omega) (.int .i64 0)) (by omega) (.int .u64 0)) (by omega) (.int .i64 0)) (by omega) (.int .u64 0)) (by omega) (.int .i64 0)) (by omega) (.int .i64 0)) (by omega) (.int .i64 0))
  replace HB := Lib.hid (((((((HB.out.setCell (p := ⟨w.heap.size, 0, none⟩) (show w.heap.size ≤ w.heap.size by omega) (.int .i64 0)).setCell (p := ⟨w.heap.size, 1, none⟩) (show w.heap.size ≤ w.heap.size by omega) (.int .u64 0)).setCell (p := ⟨w.heap.size, 2, none⟩) (show w.heap.size ≤ w.heap.size by omega) (.int .i64 0)).setCell (p := ⟨w.heap.size, 3, none⟩) (show w.heap.size ≤ w.heap.size by omega) (.int .u64 0)).setCell (p := ⟨w.heap.size, 4, none⟩) (show w.heap.size ≤ w.heap.size by omega) (.int .i64 0)).setCell (p := ⟨w.heap.size, 5, none⟩) (show w.heap.size ≤ w.heap.size by omega) (.int .i64 0)).setCell (p := ⟨w.heap.size, 6, none⟩) (show w.heap.size ≤ w.heap.size by omega) (.int .i64 0))
  clear yZ_0 yZ_1 yZ_2 yZ_3 yZ_4 yZ_5 yZ_6 yZ_z yZ_f0 yZ_f1 yZ_f2 yZ_f3 yZ_f4 yZ_f5 yZ_f6 yS_0 yS_1 yS_2 yS_3 yS_4 yS_5 yS_6 yS_z
  generalize ((((((w3.setCell ⟨w.heap.size, 0, none⟩ (.int .i64 0)).setCell ⟨w.heap.size, 1, none⟩ (.int .u64 0)).setCell ⟨w.heap.size, 2, none⟩ (.int .i64 0)).setCell ⟨w.heap.size, 3, none⟩ (.int .u64 0)).setCell ⟨w.heap.size, 4, none⟩ (.int .i64 0)).setCell ⟨w.heap.size, 5, none⟩ (.int .i64 0)).setCell ⟨w.heap.size, 6, none⟩ (.int .i64 0) = w4 at *
  simp only [List.set] at KZ
  have yZ := KZ.out
  have yZ_0 := yZ.c 0 _ rfl
  have yZ_1 := yZ.c 1 _ rfl
  have yZ_2 := yZ.c 2 _ rfl
  have yZ_3 := yZ.c 3 _ rfl
  have yZ_4 := yZ.c 4 _ rfl
  have yZ_5 := yZ.c 5 _ rfl
  have yZ_6 := yZ.c 6 _ rfl
  have yZ_z := yZ.lt
  clear yZ
  refine bodyPost_ret (v := .tuple #[.agg #[.int .i64 0, .int .u64 0, .int .i64 0, .int .u64 0, .int .i64 0, .int .i64 0, .int .i64 0], .int .i64 14]) (by simp [results, Tryz.results28, go_sem, yZ_0, yZ_1, yZ_2, yZ_3, yZ_4, yZ_5, yZ_6]) rfl ⟨rfl, HB.out⟩
set_option maxHeartbeats 8000000 in
set_option maxRecDepth 100000 in
theorem rex_chk (l : List Ms) (v : Value) (w : World) (h : LstAt l v w) (hc : chkL l ≠ 0) :
    Calls Tryz.prog 28 #[v] w fun e w' => e = .returned (.tuple #[.agg #[.int .i64 0, .int .u64 0, .int .i64 0, .int .u64 0, .int .i64 0, .int .i64 0, .int .i64 0], .int .i64 (chkL l)]) ∧ Below w.heap.size w w' := by
  obtain ⟨p, cap, rfl⟩ := lst_form h
  have NO := Lib.hid fun w h => rnormal_bad l (.slice p l.length cap) w h hc
  have g : (chkL l != 0) = true := by simpa using hc
  have g' : (chkL l == 0) = false := by simpa using hc
  clear hc
  generalize chkL l = c at *
  have H0 := Lib.hid h
  have KZ := Lib.hid (Blk.of (vs := #[.int .i64 0, .int .u64 0, .int .i64 0, .int .u64 0, .int .i64 0, .int .i64 0, .int .i64 0]) (t := 51) (w := w) (b := w.heap.size) (by simp))
  have HB := Lib.hid ((Below.refl w.heap.size w).alloc (by simp; try omega) (.cells #[.int .i64 0, .int .u64 0, .int .i64 0, .int .u64 0, .int .i64 0, .int .i64 0, .int .i64 0] 51))
  go_enter Tryz.func28, Tryz.ntmps28
  clear h
  go_wp2_with fail
  generalize w.alloc (.cells #[.int .i64 0, .int .u64 0, .int .i64 0, .int .u64 0, .int .i64 0, .int .i64 0, .int .i64 0] 51) = w0 at *
  refine (NO.out _ (H0.out.below HB.out)).mono ?_
  rintro e1 w1 ⟨rfl, hb1⟩
  replace HB := Lib.hid (HB.out.trans (hb1.mono HB.out.size))
  replace KZ := Lib.hid (KZ.out.below hb1)
  clear hb1
  have yZ := KZ.out
  have yZ_0 := yZ.c 0 _ rfl
  have yZ_1 := yZ.c 1 _ rfl
  have yZ_2 := yZ.c 2 _ rfl
  have yZ_3 := yZ.c 3 _ rfl
  have yZ_4 := yZ.c 4 _ rfl
  have yZ_5 := yZ.c 5 _ rfl
  have yZ_6 := yZ.c 6 _ rfl
  have yZ_z := yZ.lt
  have yZ_f0 := yZ.f 0 _ rfl
  have yZ_f1 := yZ.f 1 _ rfl
  have yZ_f2 := yZ.f 2 _ rfl
  have yZ_f3 := yZ.f 3 _ rfl
  have yZ_f4 := yZ.f 4 _ rfl
  have yZ_f5 := yZ.f 5 _ rfl
  have yZ_f6 := yZ.f 6 _ rfl
  clear yZ
  go_wp2
  replace KZ := Lib.hid (blk_set (blk_set (blk_set (blk_set (blk_set (blk_set (blk_set KZ.out (j := 0) (by simp) (.int .i64 0)) (j := 1) (by simp) (.int .u64 0)) (j := 2) (by simp) (.int .i64 0)) (j := 3) (by simp) (.int .u64 0)) (j := 4) (by simp) (.int .i64 0)) (j := 5) (by simp) (.int .i64 0)) (j := 6) (by simp) (.int .i64 0))
  replace HB := Lib.hid (((((((HB.out.setCell (p := ⟨w.heap.size, 0, none⟩) (show w.heap.size ≤ w.heap.size by omega) (.int .i64 0)).setCell (p := ⟨w.heap.size, 1, none⟩) (show w.heap.size ≤ w.heap.size by omega) (.int .u64 0)).setCell (p := ⟨w.heap.size, 2, none⟩) (show w.heap.size ≤ w.heap.size by omega) (.int .i64 0)).setCell (p := ⟨w.heap.size, 3, none⟩) (show w.heap.size ≤ w.heap.size by omega) (.int .u64 0)).setCell (p := ⟨w.heap.size, 4, none⟩) (show w.heap.size ≤ w.heap.size by omega) (.int .i64 0)).setCell (p := ⟨w.heap.size, 5, none⟩) (show w.heap.size ≤ w.heap.size by omega) (.int .i64 0)).setCell (p := ⟨w.heap.size, 6, none⟩) (show w.heap.size ≤ w.heap.size by omega) (.int .i64 0))
  clear yZ_0 yZ_1 yZ_2 yZ_3 yZ_4 yZ_5 yZ_6 yZ_z yZ_f0 yZ_f1 yZ_f2 yZ_f3 yZ_f4 yZ_f5 yZ_f6
  generalize ((((((w1.setCell ⟨w.heap.size, 0, none⟩ (.int .i64 0)).setCell ⟨w.heap.size, 1, none⟩ (.int .u64 0)).setCell ⟨w.heap.size, 2, none⟩ (.int .i64 0)).setCell ⟨w.heap.size, 3, none⟩ (.int .u64 0)).setCell ⟨w.heap.size, 4, none⟩ (.int .i64 0)).setCell ⟨w.heap.size, 5, none⟩ (.int .i64 0)).setCell ⟨w.heap.size, 6, none⟩ (.int .i64 0) = w2 at *
  simp only [List.set] at KZ
  have KN := Lib.hid (Blk.of (vs := #[.int .i64 0, .int .i64 0, .int .i64 0, .int .i64 0, .int .i64 0]) (t := 81) (w := w2) (b := w2.heap.size) rfl)
  have hb3 : Below w2.heap.size w2 (w2.alloc (.cells #[.int .i64 0, .int .i64 0, .int .i64 0, .int .i64 0, .int .i64 0] 81)) := (Below.refl _ _).alloc (Nat.le_refl _) _
  have hnN := HB.out.size
  have nzN_Z := KZ.out.lt
  replace HB := Lib.hid (HB.out.trans (hb3.mono HB.out.size))
  replace KZ := Lib.hid (KZ.out.below hb3)
  clear hb3
  generalize w2.alloc (.cells #[.int .i64 0, .int .i64 0, .int .i64 0, .int .i64 0, .int .i64 0] 81) = w3 at *
  generalize w2.heap.size = bN at *
  have neN_Z : bN ≠ w.heap.size := by omega
  clear nzN_Z
  have yZ := KZ.out
  have yZ_0 := yZ.c 0 _ rfl
  have yZ_1 := yZ.c 1 _ rfl
  have yZ_2 := yZ.c 2 _ rfl
  have yZ_3 := yZ.c 3 _ rfl
  have yZ_4 := yZ.c 4 _ rfl
  have yZ_5 := yZ.c 5 _ rfl
  have yZ_6 := yZ.c 6 _ rfl
  have yZ_z := yZ.lt
  clear yZ
  refine bodyPost_ret (v := .tuple #[.agg #[.int .i64 0, .int .u64 0, .int .i64 0, .int .u64 0, .int .i64 0, .int .i64 0, .int .i64 0], .int .i64 c]) (by simp [results, Tryz.results28, go_sem, yZ_0, yZ_1, yZ_2, yZ_3, yZ_4, yZ_5, yZ_6]) rfl ⟨rfl, HB.out⟩
set_option maxHeartbeats 40000000 in
set_option maxRecDepth 100000 in
theorem rsol_bad0 (l : List Ms) (v : Value) (w : World) (h : LstAt l v w) (hc : chkL l = 0) (hd : detN l ≠ 0) (hs : solE l ≠ 0) :
    Calls Tryz.prog 25 #[v] w fun e w' => e = .returned (.tuple #[.agg #[.int .i64 0, .int .u64 0, .int .i64 0, .int .u64 0, .int .i64 0, .int .i64 0, .int .i64 0], .int .i64 (solE l)]) ∧ Below w.heap.size w w' := by
  obtain ⟨p, cap, rfl⟩ := lst_form h
  have OL := Lib.hid (okL_of hc)
  obtain ⟨⟨a0, a1⟩, ⟨b0, b1⟩, ⟨c0, c1⟩, ⟨d0, d1⟩, ⟨e0, e1⟩⟩ := nrm_bd OL.out
  obtain ⟨⟨dt0, dt1⟩, ⟨sx0, sx1⟩, ⟨sy0, sy1⟩⟩ := sol_bd (nrm_bd OL.out)
  have NO := Lib.hid fun w h => rnormal_any l (.slice p l.length cap) w h hc
  have P1 := mulb (X := 16777216) (Y := 16777216) (by omega) a0 a1 c0 c1
  have P2 := mulb (X := 16777216) (Y := 16777216) (by omega) b0 b1 b0 b1
  have LX := Lib.hid fun w => rminor_any (nYY l) (nXZ l) (nXY l) (nYZ l) w ⟨by omega, by omega⟩ ⟨by omega, by omega⟩ ⟨by omega, by omega⟩ ⟨by omega, by omega⟩ (show FitW (solX l) from ⟨by omega, by omega⟩)
  have LY := Lib.hid fun w => rminor_any (nXX l) (nYZ l) (nXY l) (nXZ l) w ⟨by omega, by omega⟩ ⟨by omega, by omega⟩ ⟨by omega, by omega⟩ ⟨by omega, by omega⟩ (show FitW (solY l) from ⟨by omega, by omega⟩)
  have q1 : IntKind.i64.wrap (nXX l * nYY l) = nXX l * nYY l := IntWalk.i64_in _ (by omega)
  have q2 : IntKind.i64.wrap (nXY l * nXY l) = nXY l * nXY l := IntWalk.i64_in _ (by omega)
  have q3 : IntKind.i64.wrap (nXX l * nYY l - nXY l * nXY l) = detN l := IntWalk.i64_in _ (by unfold detN at dt0 dt1; omega)
  have HX : Hid (solX l = nYY l * nXZ l - nXY l * nYZ l) := Lib.hid rfl
  have HY : Hid (solY l = nXX l * nYZ l - nXY l * nXZ l) := Lib.hid rfl
  rw [← HX.out] at LX
  rw [← HY.out] at LY
  have NX := Lib.hid fun (hd : 0 < detN l) w => rnearest_any (solX l) (detN l) w (by omega) (by omega) hd (by omega)
  have NY := Lib.hid fun (hd : 0 < detN l) w => rnearest_any (solY l) (detN l) w (by omega) (by omega) hd (by omega)
  have VP := Lib.hid fun w => rvldP_any (cenX l) (cenY l) w
  have E0 : solE l = if detN l = 0 then 14 else if (pOk (cenX l) && pOk (cenY l)) = true then 0 else 2 := by unfold solE; rw [if_pos hc]
  have HDP : detN l ≠ 0 → 0 < detN l := fun q => by have := det_nonneg l (chk_w hc); omega
  rw [show nearI2 (solX l) (detN l) = cenX l from rfl] at NX
  rw [show nearI2 (solY l) (detN l) = cenY l from rfl] at NY
  have EX0 := Lib.hid fun hd w h => rex_ok l (.slice p l.length cap) w h hc hd
  clear NO LX LY q1 q2 q3 hc a0 a1 b0 b1 c0 c1 d0 d1 e0 e1 dt0 dt1 sx0 sx1 sy0 sy1 P1 P2 HX HY
  obtain ⟨A, EA⟩ : ∃ x, nXX l = x := ⟨_, rfl⟩
  obtain ⟨B, EB⟩ : ∃ x, nXY l = x := ⟨_, rfl⟩
  obtain ⟨C, EC⟩ : ∃ x, nYY l = x := ⟨_, rfl⟩
  obtain ⟨D, ED⟩ : ∃ x, nXZ l = x := ⟨_, rfl⟩
  obtain ⟨E, EE⟩ : ∃ x, nYZ l = x := ⟨_, rfl⟩
  obtain ⟨X, EX⟩ : ∃ x, solX l = x := ⟨_, rfl⟩
  obtain ⟨Y, EY⟩ : ∃ x, solY l = x := ⟨_, rfl⟩
  obtain ⟨T, ET⟩ : ∃ x, detN l = x := ⟨_, rfl⟩
  rw [ET, EX] at NX
  rw [ET, EY] at NY
  rw [ET] at E0 HDP
  rw [EX, EY, ET] at EX0
  have HX := Lib.hid EX
  have HY := Lib.hid EY
  have HT := Lib.hid ET
  clear EA EB EC ED EE EX EY ET
  obtain ⟨cx, hcx⟩ : ∃ x, cenX l = x := ⟨_, rfl⟩
  obtain ⟨cy, hcy⟩ : ∃ x, cenY l = x := ⟨_, rfl⟩
  rw [hcx] at NX
  rw [hcy] at NY
  rw [hcx, hcy] at VP E0
  have HCX := Lib.hid hcx
  have HCY := Lib.hid hcy
  clear hcx hcy
  have PV : (pOk cx && pOk cy) = vldP cx cy := by unfold pOk vldP; rw [Bool.eq_iff_iff]; simp only [Bool.and_eq_true, decide_eq_true_eq]; omega
  have PI : vldP cx cy = true → I64 cx ∧ I64 cy := fun h => by have := vldP_iff.1 h; exact ⟨⟨by omega, by omega⟩, by omega, by omega⟩
  rw [PV] at E0
  clear PV
  unfold wv at NX NY
  obtain ⟨ee, hee⟩ : ∃ x, solE l = x := ⟨_, rfl⟩
  have ht : T ≠ 0 := by rw [← HT.out]; exact hd
  have HS := Lib.hid hee
  rw [hee] at E0 hs
  clear hee HCX HCY HX HY HT hd
  rw [HS.out]
  clear HS
  have EX := Lib.hid (EX0.out ht)
  have g : (T == 0) = false := by simpa using ht
  have NX := Lib.hid (NX.out (HDP ht))
  have NY := Lib.hid (NY.out (HDP ht))
  have E1 := E0.trans (if_neg ht)
  have hv : vldP cx cy = false := by
    cases hv : vldP cx cy with
    | false => rfl
    | true => rw [hv, if_pos rfl] at E1; exact absurd E1 hs
  rw [hv] at E1 VP
  have HE : Hid (ee = 2) := Lib.hid E1
  clear E0 E1 HDP ht hs PI hv EX0
  have H0 := Lib.hid h
  have KZ := Lib.hid (Blk.of (vs := #[.int .i64 0, .int .u64 0, .int .i64 0, .int .u64 0, .int .i64 0, .int .i64 0, .int .i64 0]) (t := 51) (w := w) (b := w.heap.size) (by simp))
  have HB := Lib.hid ((Below.refl w.heap.size w).alloc (by simp; try omega) (.cells #[.int .i64 0, .int .u64 0, .int .i64 0, .int .u64 0, .int .i64 0, .int .i64 0, .int .i64 0] 51))
  go_enter Tryz.func25, Tryz.ntmps25
  clear h
  go_wp2_with fail
  generalize w.alloc (.cells #[.int .i64 0, .int .u64 0, .int .i64 0, .int .u64 0, .int .i64 0, .int .i64 0, .int .i64 0] 51) = w0 at *
  refine (EX.out _ (H0.out.below HB.out)).mono ?_
  rintro e1 w1 ⟨rfl, hb1⟩
  replace HB := Lib.hid (HB.out.trans (hb1.mono HB.out.size))
  replace KZ := Lib.hid (KZ.out.below hb1)
  clear hb1
  go_wp2_with fail
  have KS := Lib.hid (Blk.of (vs := #[.int .i64 (hiW X), .int .u64 (loW X), .int .i64 (hiW Y), .int .u64 (loW Y), .int .i64 T, .int .i64 0, .int .i64 0]) (t := 51) (w := w1) (b := w1.heap.size) rfl)
  have hb2 : Below w1.heap.size w1 (w1.alloc (.cells #[.int .i64 (hiW X), .int .u64 (loW X), .int .i64 (hiW Y), .int .u64 (loW Y), .int .i64 T, .int .i64 0, .int .i64 0] 51)) := (Below.refl _ _).alloc (Nat.le_refl _) _
  have hnS := HB.out.size
  have nzS_Z := KZ.out.lt
  replace HB := Lib.hid (HB.out.trans (hb2.mono HB.out.size))
  replace KZ := Lib.hid (KZ.out.below hb2)
  clear hb2
  generalize w1.alloc (.cells #[.int .i64 (hiW X), .int .u64 (loW X), .int .i64 (hiW Y), .int .u64 (loW Y), .int .i64 T, .int .i64 0, .int .i64 0] 51) = w2 at *
  generalize w1.heap.size = bS at *
  have neS_Z : bS ≠ w.heap.size := by omega
  clear nzS_Z
  by_cases ix : I64 cx
  · rw [if_pos ix, decide_eq_true ix] at NX
    by_cases iy : I64 cy
    · rw [if_pos iy, decide_eq_true iy] at NY
      clear ix iy
      have yZ := KZ.out
      have yZ_0 := yZ.c 0 _ rfl
      have yZ_1 := yZ.c 1 _ rfl
      have yZ_2 := yZ.c 2 _ rfl
      have yZ_3 := yZ.c 3 _ rfl
      have yZ_4 := yZ.c 4 _ rfl
      have yZ_5 := yZ.c 5 _ rfl
      have yZ_6 := yZ.c 6 _ rfl
      have yZ_z := yZ.lt
      have yZ_f0 := yZ.f 0 _ rfl
      have yZ_f1 := yZ.f 1 _ rfl
      have yZ_f2 := yZ.f 2 _ rfl
      have yZ_f3 := yZ.f 3 _ rfl
      have yZ_f4 := yZ.f 4 _ rfl
      have yZ_f5 := yZ.f 5 _ rfl
      have yZ_f6 := yZ.f 6 _ rfl
      clear yZ
      have yS := KS.out
      have yS_0 := yS.c 0 _ rfl
      have yS_1 := yS.c 1 _ rfl
      have yS_2 := yS.c 2 _ rfl
      have yS_3 := yS.c 3 _ rfl
      have yS_4 := yS.c 4 _ rfl
      have yS_5 := yS.c 5 _ rfl
      have yS_6 := yS.c 6 _ rfl
      have yS_z := yS.lt
      have yS_f0 := yS.f 0 _ rfl
      have yS_f1 := yS.f 1 _ rfl
      have yS_f2 := yS.f 2 _ rfl
      have yS_f3 := yS.f 3 _ rfl
      have yS_f4 := yS.f 4 _ rfl
      have yS_f5 := yS.f 5 _ rfl
      have yS_f6 := yS.f 6 _ rfl
      clear yS
      go_wp2_with fail
      refine (NX.out _).mono ?_
      rintro e3 w3 ⟨rfl, hb3⟩
      replace HB := Lib.hid (HB.out.trans (hb3.mono HB.out.size))
      replace KZ := Lib.hid (KZ.out.below hb3)
      replace KS := Lib.hid (KS.out.below hb3)
      clear yZ_0 yZ_1 yZ_2 yZ_3 yZ_4 yZ_5 yZ_6 yZ_z yZ_f0 yZ_f1 yZ_f2 yZ_f3 yZ_f4 yZ_f5 yZ_f6 yS_0 yS_1 yS_2 yS_3 yS_4 yS_5 yS_6 yS_z yS_f0 yS_f1 yS_f2 yS_f3 yS_f4 yS_f5 yS_f6
      clear hb3
      have yS := KS.out
      have yS_0 := yS.c 0 _ rfl
      have yS_1 := yS.c 1 _ rfl
      have yS_2 := yS.c 2 _ rfl
      have yS_3 := yS.c 3 _ rfl
      have yS_4 := yS.c 4 _ rfl
      have yS_5 := yS.c 5 _ rfl
      have yS_6 := yS.c 6 _ rfl
      have yS_z := yS.lt
      have yS_f0 := yS.f 0 _ rfl
      have yS_f1 := yS.f 1 _ rfl
      have yS_f2 := yS.f 2 _ rfl
      have yS_f3 := yS.f 3 _ rfl
      have yS_f4 := yS.f 4 _ rfl
      have yS_f5 := yS.f 5 _ rfl
      have yS_f6 := yS.f 6 _ rfl
      clear yS
      go_wp2_with fail
      refine (NY.out _).mono ?_
      rintro e4 w4 ⟨rfl, hb4⟩
      replace HB := Lib.hid (HB.out.trans (hb4.mono HB.out.size))
      replace KZ := Lib.hid (KZ.out.below hb4)
      replace KS := Lib.hid (KS.out.below hb4)
      clear yS_0 yS_1 yS_2 yS_3 yS_4 yS_5 yS_6 yS_z yS_f0 yS_f1 yS_f2 yS_f3 yS_f4 yS_f5 yS_f6
      clear hb4
      have yZ := KZ.out
      have yZ_0 := yZ.c 0 _ rfl
      have yZ_1 := yZ.c 1 _ rfl
      have yZ_2 := yZ.c 2 _ rfl
      have yZ_3 := yZ.c 3 _ rfl
      have yZ_4 := yZ.c 4 _ rfl
      have yZ_5 := yZ.c 5 _ rfl
      have yZ_6 := yZ.c 6 _ rfl
      have yZ_z := yZ.lt
      have yZ_f0 := yZ.f 0 _ rfl
      have yZ_f1 := yZ.f 1 _ rfl
      have yZ_f2 := yZ.f 2 _ rfl
      have yZ_f3 := yZ.f 3 _ rfl
      have yZ_f4 := yZ.f 4 _ rfl
      have yZ_f5 := yZ.f 5 _ rfl
      have yZ_f6 := yZ.f 6 _ rfl
      clear yZ
      have yS := KS.out
      have yS_0 := yS.c 0 _ rfl
      have yS_1 := yS.c 1 _ rfl
      have yS_2 := yS.c 2 _ rfl
      have yS_3 := yS.c 3 _ rfl
      have yS_4 := yS.c 4 _ rfl
      have yS_5 := yS.c 5 _ rfl
      have yS_6 := yS.c 6 _ rfl
      have yS_z := yS.lt
      have yS_f0 := yS.f 0 _ rfl
      have yS_f1 := yS.f 1 _ rfl
      have yS_f2 := yS.f 2 _ rfl
      have yS_f3 := yS.f 3 _ rfl
      have yS_f4 := yS.f 4 _ rfl
      have yS_f5 := yS.f 5 _ rfl
      have yS_f6 := yS.f 6 _ rfl
      clear yS
      go_wp2_with fail
      replace KZ := Lib.hid (blk_other (b := w.heap.size) (n := bS) (j := 6) (blk_other (b := w.heap.size) (n := bS) (j := 5) KZ.out (by omega) (.int .i64 cx)) (by omega) (.int .i64 cy))
      replace KS := Lib.hid (blk_set (blk_set KS.out (j := 5) (by simp) (.int .i64 cx)) (j := 6) (by simp) (.int .i64 cy))
      replace HB := Lib.hid ((HB.out.setCell (p := ⟨bS, 5, none⟩) (show w.heap.size ≤ bS by omega) (.int .i64 cx)).setCell (p := ⟨bS, 6, none⟩) (show w.heap.size ≤ bS by omega) (.int .i64 cy))
      clear yZ_0 yZ_1 yZ_2 yZ_3 yZ_4 yZ_5 yZ_6 yZ_z yZ_f0 yZ_f1 yZ_f2 yZ_f3 yZ_f4 yZ_f5 yZ_f6 yS_0 yS_1 yS_2 yS_3 yS_4 yS_5 yS_6 yS_z yS_f0 yS_f1 yS_f2 yS_f3 yS_f4 yS_f5 yS_f6
      generalize (w4.setCell ⟨bS, 5, none⟩ (.int .i64 cx)).setCell ⟨bS, 6, none⟩ (.int .i64 cy) = w5 at *
      simp only [List.set] at KS
      refine (VP.out _).mono ?_
      rintro e6 w6 ⟨rfl, hb6⟩
      replace HB := Lib.hid (HB.out.trans (hb6.mono HB.out.size))
      replace KZ := Lib.hid (KZ.out.below hb6)
      replace KS := Lib.hid (KS.out.below hb6)
      clear hb6
      have yZ := KZ.out
      have yZ_0 := yZ.c 0 _ rfl
      have yZ_1 := yZ.c 1 _ rfl
      have yZ_2 := yZ.c 2 _ rfl
      have yZ_3 := yZ.c 3 _ rfl
      have yZ_4 := yZ.c 4 _ rfl
      have yZ_5 := yZ.c 5 _ rfl
      have yZ_6 := yZ.c 6 _ rfl
      have yZ_z := yZ.lt
      have yZ_f0 := yZ.f 0 _ rfl
      have yZ_f1 := yZ.f 1 _ rfl
      have yZ_f2 := yZ.f 2 _ rfl
      have yZ_f3 := yZ.f 3 _ rfl
      have yZ_f4 := yZ.f 4 _ rfl
      have yZ_f5 := yZ.f 5 _ rfl
      have yZ_f6 := yZ.f 6 _ rfl
      clear yZ
      have yS := KS.out
      have yS_0 := yS.c 0 _ rfl
      have yS_1 := yS.c 1 _ rfl
      have yS_2 := yS.c 2 _ rfl
      have yS_3 := yS.c 3 _ rfl
      have yS_4 := yS.c 4 _ rfl
      have yS_5 := yS.c 5 _ rfl
      have yS_6 := yS.c 6 _ rfl
      have yS_z := yS.lt
      have yS_f0 := yS.f 0 _ rfl
      have yS_f1 := yS.f 1 _ rfl
      have yS_f2 := yS.f 2 _ rfl
      have yS_f3 := yS.f 3 _ rfl
      have yS_f4 := yS.f 4 _ rfl
      have yS_f5 := yS.f 5 _ rfl
      have yS_f6 := yS.f 6 _ rfl
      clear yS
      go_wp2
      replace KZ := Lib.hid (blk_set (blk_set (blk_set (blk_set (blk_set (blk_set (blk_set KZ.out (j := 0) (by simp) (.int .i64 0)) (j := 1) (by simp) (.int .u64 0)) (j := 2) (by simp) (.int .i64 0)) (j := 3) (by simp) (.int .u64 0)) (j := 4) (by simp) (.int .i64 0)) (j := 5) (by simp) (.int .i64 0)) (j := 6) (by simp) (.int .i64 0))
      replace KS := Lib.hid (blk_other (b := bS) (n := w.heap.size) (j := 6) (blk_other (b := bS) (n := w.heap.size) (j := 5) (blk_other (b := bS) (n := w.heap.size) (j := 4) (blk_other (b := bS) (n := w.heap.size) (j := 3) (blk_other (b := bS) (n := w.heap.size) (j := 2) (blk_other (b := bS) (n := w.heap.size) (j := 1) (blk_other (b := bS) (n := w.heap.size) (j := 0) KS.out (by omega) (.int .i64 0)) (by omega) (.int .u64 0)) (by omega) (.int .i64 0)) (by omega) (.int .u64 0)) (by omega) (.int .i64 0)) (by omega) (.int .i64 0)) (by omega) (.int .i64 0))
      replace HB := Lib.hid (((((((HB.out.setCell (p := ⟨w.heap.size, 0, none⟩) (show w.heap.size ≤ w.heap.size by omega) (.int .i64 0)).setCell (p := ⟨w.heap.size, 1, none⟩) (show w.heap.size ≤ w.heap.size by omega) (.int .u64 0)).setCell (p := ⟨w.heap.size, 2, none⟩) (show w.heap.size ≤ w.heap.size by omega) (.int .i64 0)).setCell (p := ⟨w.heap.size, 3, none⟩) (show w.heap.size ≤ w.heap.size by omega) (.int .u64 0)).setCell (p := ⟨w.heap.size, 4, none⟩) (show w.heap.size ≤ w.heap.size by omega) (.int .i64 0)).setCell (p := ⟨w.heap.size, 5, none⟩) (show w.heap.size ≤ w.heap.size by omega) (.int .i64 0)).setCell (p := ⟨w.heap.size, 6, none⟩) (show w.heap.size ≤ w.heap.size by omega) (.int .i64 0))
      clear yZ_0 yZ_1 yZ_2 yZ_3 yZ_4 yZ_5 yZ_6 yZ_z yZ_f0 yZ_f1 yZ_f2 yZ_f3 yZ_f4 yZ_f5 yZ_f6 yS_0 yS_1 yS_2 yS_3 yS_4 yS_5 yS_6 yS_z yS_f0 yS_f1 yS_f2 yS_f3 yS_f4 yS_f5 yS_f6
      generalize ((((((w6.setCell ⟨w.heap.size, 0, none⟩ (.int .i64 0)).setCell ⟨w.heap.size, 1, none⟩ (.int .u64 0)).setCell ⟨w.heap.size, 2, none⟩ (.int .i64 0)).setCell ⟨w.heap.size, 3, none⟩ (.int .u64 0)).setCell ⟨w.heap.size, 4, none⟩ (.int .i64 0)).setCell ⟨w.heap.size, 5, none⟩ (.int .i64 0)).setCell ⟨w.heap.size, 6, none⟩ (.int .i64 0) = w7 at *
      simp only [List.set] at KZ
      have yZ := KZ.out
      have yZ_0 := yZ.c 0 _ rfl
      have yZ_1 := yZ.c 1 _ rfl
      have yZ_2 := yZ.c 2 _ rfl
      have yZ_3 := yZ.c 3 _ rfl
      have yZ_4 := yZ.c 4 _ rfl
      have yZ_5 := yZ.c 5 _ rfl
      have yZ_6 := yZ.c 6 _ rfl
      have yZ_z := yZ.lt
      clear yZ
      refine bodyPost_ret (v := .tuple #[.agg #[.int .i64 0, .int .u64 0, .int .i64 0, .int .u64 0, .int .i64 0, .int .i64 0, .int .i64 0], .int .i64 2]) (by simp [results, Tryz.results25, go_sem, yZ_0, yZ_1, yZ_2, yZ_3, yZ_4, yZ_5, yZ_6]) rfl ⟨by rw [HE.out], HB.out⟩
    · rw [if_neg iy, decide_eq_false iy] at NY
      clear ix iy
      have yZ := KZ.out
      have yZ_0 := yZ.c 0 _ rfl
      have yZ_1 := yZ.c 1 _ rfl
      have yZ_2 := yZ.c 2 _ rfl
      have yZ_3 := yZ.c 3 _ rfl
      have yZ_4 := yZ.c 4 _ rfl
      have yZ_5 := yZ.c 5 _ rfl
      have yZ_6 := yZ.c 6 _ rfl
      have yZ_z := yZ.lt
      have yZ_f0 := yZ.f 0 _ rfl
      have yZ_f1 := yZ.f 1 _ rfl
      have yZ_f2 := yZ.f 2 _ rfl
      have yZ_f3 := yZ.f 3 _ rfl
      have yZ_f4 := yZ.f 4 _ rfl
      have yZ_f5 := yZ.f 5 _ rfl
      have yZ_f6 := yZ.f 6 _ rfl
      clear yZ
      have yS := KS.out
      have yS_0 := yS.c 0 _ rfl
      have yS_1 := yS.c 1 _ rfl
      have yS_2 := yS.c 2 _ rfl
      have yS_3 := yS.c 3 _ rfl
      have yS_4 := yS.c 4 _ rfl
      have yS_5 := yS.c 5 _ rfl
      have yS_6 := yS.c 6 _ rfl
      have yS_z := yS.lt
      have yS_f0 := yS.f 0 _ rfl
      have yS_f1 := yS.f 1 _ rfl
      have yS_f2 := yS.f 2 _ rfl
      have yS_f3 := yS.f 3 _ rfl
      have yS_f4 := yS.f 4 _ rfl
      have yS_f5 := yS.f 5 _ rfl
      have yS_f6 := yS.f 6 _ rfl
      clear yS
      go_wp2_with fail
      refine (NX.out _).mono ?_
      rintro e3 w3 ⟨rfl, hb3⟩
      replace HB := Lib.hid (HB.out.trans (hb3.mono HB.out.size))
      replace KZ := Lib.hid (KZ.out.below hb3)
      replace KS := Lib.hid (KS.out.below hb3)
      clear yZ_0 yZ_1 yZ_2 yZ_3 yZ_4 yZ_5 yZ_6 yZ_z yZ_f0 yZ_f1 yZ_f2 yZ_f3 yZ_f4 yZ_f5 yZ_f6 yS_0 yS_1 yS_2 yS_3 yS_4 yS_5 yS_6 yS_z yS_f0 yS_f1 yS_f2 yS_f3 yS_f4 yS_f5 yS_f6
      clear hb3
      have yS := KS.out
      have yS_0 := yS.c 0 _ rfl
      have yS_1 := yS.c 1 _ rfl
      have yS_2 := yS.c 2 _ rfl
      have yS_3 := yS.c 3 _ rfl
      have yS_4 := yS.c 4 _ rfl
      have yS_5 := yS.c 5 _ rfl
      have yS_6 := yS.c 6 _ rfl
      have yS_z := yS.lt
      have yS_f0 := yS.f 0 _ rfl
      have yS_f1 := yS.f 1 _ rfl
      have yS_f2 := yS.f 2 _ rfl
      have yS_f3 := yS.f 3 _ rfl
      have yS_f4 := yS.f 4 _ rfl
      have yS_f5 := yS.f 5 _ rfl
      have yS_f6 := yS.f 6 _ rfl
      clear yS
      go_wp2_with fail
      refine (NY.out _).mono ?_
      rintro e4 w4 ⟨rfl, hb4⟩
      replace HB := Lib.hid (HB.out.trans (hb4.mono HB.out.size))
      replace KZ := Lib.hid (KZ.out.below hb4)
      replace KS := Lib.hid (KS.out.below hb4)
      clear yS_0 yS_1 yS_2 yS_3 yS_4 yS_5 yS_6 yS_z yS_f0 yS_f1 yS_f2 yS_f3 yS_f4 yS_f5 yS_f6
      clear hb4
      have yZ := KZ.out
      have yZ_0 := yZ.c 0 _ rfl
      have yZ_1 := yZ.c 1 _ rfl
      have yZ_2 := yZ.c 2 _ rfl
      have yZ_3 := yZ.c 3 _ rfl
      have yZ_4 := yZ.c 4 _ rfl
      have yZ_5 := yZ.c 5 _ rfl
      have yZ_6 := yZ.c 6 _ rfl
      have yZ_z := yZ.lt
      have yZ_f0 := yZ.f 0 _ rfl
      have yZ_f1 := yZ.f 1 _ rfl
      have yZ_f2 := yZ.f 2 _ rfl
      have yZ_f3 := yZ.f 3 _ rfl
      have yZ_f4 := yZ.f 4 _ rfl
      have yZ_f5 := yZ.f 5 _ rfl
      have yZ_f6 := yZ.f 6 _ rfl
      clear yZ
      have yS := KS.out
      have yS_0 := yS.c 0 _ rfl
      have yS_1 := yS.c 1 _ rfl
      have yS_2 := yS.c 2 _ rfl
      have yS_3 := yS.c 3 _ rfl
      have yS_4 := yS.c 4 _ rfl
      have yS_5 := yS.c 5 _ rfl
      have yS_6 := yS.c 6 _ rfl
      have yS_z := yS.lt
      have yS_f0 := yS.f 0 _ rfl
      have yS_f1 := yS.f 1 _ rfl
      have yS_f2 := yS.f 2 _ rfl
      have yS_f3 := yS.f 3 _ rfl
      have yS_f4 := yS.f 4 _ rfl
      have yS_f5 := yS.f 5 _ rfl
      have yS_f6 := yS.f 6 _ rfl
      clear yS
      go_wp2
      replace KZ := Lib.hid (blk_other (b := w.heap.size) (n := bS) (j := 6) (blk_other (b := w.heap.size) (n := bS) (j := 5) KZ.out (by omega) (.int .i64 cx)) (by omega) (.int .i64 0))
      replace KS := Lib.hid (blk_set (blk_set KS.out (j := 5) (by simp) (.int .i64 cx)) (j := 6) (by simp) (.int .i64 0))
      replace HB := Lib.hid ((HB.out.setCell (p := ⟨bS, 5, none⟩) (show w.heap.size ≤ bS by omega) (.int .i64 cx)).setCell (p := ⟨bS, 6, none⟩) (show w.heap.size ≤ bS by omega) (.int .i64 0))
      clear yZ_0 yZ_1 yZ_2 yZ_3 yZ_4 yZ_5 yZ_6 yZ_z yZ_f0 yZ_f1 yZ_f2 yZ_f3 yZ_f4 yZ_f5 yZ_f6 yS_0 yS_1 yS_2 yS_3 yS_4 yS_5 yS_6 yS_z yS_f0 yS_f1 yS_f2 yS_f3 yS_f4 yS_f5 yS_f6
      generalize (w4.setCell ⟨bS, 5, none⟩ (.int .i64 cx)).setCell ⟨bS, 6, none⟩ (.int .i64 0) = w5 at *
      simp only [List.set] at KS
      replace KZ := Lib.hid (blk_set (blk_set (blk_set (blk_set (blk_set (blk_set (blk_set KZ.out (j := 0) (by simp) (.int .i64 0)) (j := 1) (by simp) (.int .u64 0)) (j := 2) (by simp) (.int .i64 0)) (j := 3) (by simp) (.int .u64 0)) (j := 4) (by simp) (.int .i64 0)) (j := 5) (by simp) (.int .i64 0)) (j := 6) (by simp) (.int .i64 0))
      replace KS := Lib.hid (blk_other (b := bS) (n := w.heap.size) (j := 6) (blk_other (b := bS) (n := w.heap.size) (j := 5) (blk_other (b := bS) (n := w.heap.size) (j := 4) (blk_other (b := bS) (n := w.heap.size) (j := 3) (blk_other (b := bS) (n := w.heap.size) (j := 2) (blk_other (b := bS) (n := w.heap.size) (j := 1) (blk_other (b := bS) (n := w.heap.size) (j := 0) KS.out (by omega) (.int .i64 0)) (by omega) (.int .u64 0)) (by omega) (.int .i64 0)) (by omega) (.int .u64 0)) (by omega) (.int .i64 0)) (by omega) (.int .i64 0)) (by omega) (.int .i64 0))
      replace HB := Lib.hid (((((((HB.out.setCell (p := ⟨w.heap.size, 0, none⟩) (show w.heap.size ≤ w.heap.size by omega) (.int .i64 0)).setCell (p := ⟨w.heap.size, 1, none⟩) (show w.heap.size ≤ w.heap.size by omega) (.int .u64 0)).setCell (p := ⟨w.heap.size, 2, none⟩) (show w.heap.size ≤ w.heap.size by omega) (.int .i64 0)).setCell (p := ⟨w.heap.size, 3, none⟩) (show w.heap.size ≤ w.heap.size by omega) (.int .u64 0)).setCell (p := ⟨w.heap.size, 4, none⟩) (show w.heap.size ≤ w.heap.size by omega) (.int .i64 0)).setCell (p := ⟨w.heap.size, 5, none⟩) (show w.heap.size ≤ w.heap.size by omega) (.int .i64 0)).setCell (p := ⟨w.heap.size, 6, none⟩) (show w.heap.size ≤ w.heap.size by omega) (.int .i64 0))
      generalize ((((((w5.setCell ⟨w.heap.size, 0, none⟩ (.int .i64 0)).setCell ⟨w.heap.size, 1, none⟩ (.int .u64 0)).setCell ⟨w.heap.size, 2, none⟩ (.int .i64 0)).setCell ⟨w.heap.size, 3, none⟩ (.int .u64 0)).setCell ⟨w.heap.size, 4, none⟩ (.int .i64 0)).setCell ⟨w.heap.size, 5, none⟩ (.int .i64 0)).setCell ⟨w.heap.size, 6, none⟩ (.int .i64 0) = w6 at *
      simp only [List.set] at KZ
      have yZ := KZ.out
      have yZ_0 := yZ.c 0 _ rfl
      have yZ_1 := yZ.c 1 _ rfl
      have yZ_2 := yZ.c 2 _ rfl
      have yZ_3 := yZ.c 3 _ rfl
      have yZ_4 := yZ.c 4 _ rfl
      have yZ_5 := yZ.c 5 _ rfl
      have yZ_6 := yZ.c 6 _ rfl
      have yZ_z := yZ.lt
      clear yZ
      refine bodyPost_ret (v := .tuple #[.agg #[.int .i64 0, .int .u64 0, .int .i64 0, .int .u64 0, .int .i64 0, .int .i64 0, .int .i64 0], .int .i64 2]) (by simp [results, Tryz.results25, go_sem, yZ_0, yZ_1, yZ_2, yZ_3, yZ_4, yZ_5, yZ_6]) rfl ⟨by rw [HE.out], HB.out⟩
  · rw [if_neg ix, decide_eq_false ix] at NX
    obtain ⟨oy, hoy⟩ : ∃ b, decide (I64 cy) = b := ⟨_, rfl⟩
    obtain ⟨uy, huy⟩ : ∃ b, (if I64 cy then cy else 0) = b := ⟨_, rfl⟩
    rw [hoy, huy] at NY
    clear ix hoy huy
    have yZ := KZ.out
    have yZ_0 := yZ.c 0 _ rfl
    have yZ_1 := yZ.c 1 _ rfl
    have yZ_2 := yZ.c 2 _ rfl
    have yZ_3 := yZ.c 3 _ rfl
    have yZ_4 := yZ.c 4 _ rfl
    have yZ_5 := yZ.c 5 _ rfl
    have yZ_6 := yZ.c 6 _ rfl
    have yZ_z := yZ.lt
    have yZ_f0 := yZ.f 0 _ rfl
    have yZ_f1 := yZ.f 1 _ rfl
    have yZ_f2 := yZ.f 2 _ rfl
    have yZ_f3 := yZ.f 3 _ rfl
    have yZ_f4 := yZ.f 4 _ rfl
    have yZ_f5 := yZ.f 5 _ rfl
    have yZ_f6 := yZ.f 6 _ rfl
    clear yZ
    have yS := KS.out
    have yS_0 := yS.c 0 _ rfl
    have yS_1 := yS.c 1 _ rfl
    have yS_2 := yS.c 2 _ rfl
    have yS_3 := yS.c 3 _ rfl
    have yS_4 := yS.c 4 _ rfl
    have yS_5 := yS.c 5 _ rfl
    have yS_6 := yS.c 6 _ rfl
    have yS_z := yS.lt
    have yS_f0 := yS.f 0 _ rfl
    have yS_f1 := yS.f 1 _ rfl
    have yS_f2 := yS.f 2 _ rfl
    have yS_f3 := yS.f 3 _ rfl
    have yS_f4 := yS.f 4 _ rfl
    have yS_f5 := yS.f 5 _ rfl
    have yS_f6 := yS.f 6 _ rfl
    clear yS
    go_wp2_with fail
    refine (NX.out _).mono ?_
    rintro e3 w3 ⟨rfl, hb3⟩
    replace HB := Lib.hid (HB.out.trans (hb3.mono HB.out.size))
    replace KZ := Lib.hid (KZ.out.below hb3)
    replace KS := Lib.hid (KS.out.below hb3)
    clear yZ_0 yZ_1 yZ_2 yZ_3 yZ_4 yZ_5 yZ_6 yZ_z yZ_f0 yZ_f1 yZ_f2 yZ_f3 yZ_f4 yZ_f5 yZ_f6 yS_0 yS_1 yS_2 yS_3 yS_4 yS_5 yS_6 yS_z yS_f0 yS_f1 yS_f2 yS_f3 yS_f4 yS_f5 yS_f6
    clear hb3
    have yS := KS.out
    have yS_0 := yS.c 0 _ rfl
    have yS_1 := yS.c 1 _ rfl
    have yS_2 := yS.c 2 _ rfl
    have yS_3 := yS.c 3 _ rfl
    have yS_4 := yS.c 4 _ rfl
    have yS_5 := yS.c 5 _ rfl
    have yS_6 := yS.c 6 _ rfl
    have yS_z := yS.lt
    have yS_f0 := yS.f 0 _ rfl
    have yS_f1 := yS.f 1 _ rfl
    have yS_f2 := yS.f 2 _ rfl
    have yS_f3 := yS.f 3 _ rfl
    have yS_f4 := yS.f 4 _ rfl
    have yS_f5 := yS.f 5 _ rfl
    have yS_f6 := yS.f 6 _ rfl
    clear yS
    go_wp2_with fail
    refine (NY.out _).mono ?_
    rintro e4 w4 ⟨rfl, hb4⟩
    replace HB := Lib.hid (HB.out.trans (hb4.mono HB.out.size))
    replace KZ := Lib.hid (KZ.out.below hb4)
    replace KS := Lib.hid (KS.out.below hb4)
    clear yS_0 yS_1 yS_2 yS_3 yS_4 yS_5 yS_6 yS_z yS_f0 yS_f1 yS_f2 yS_f3 yS_f4 yS_f5 yS_f6
    clear hb4
    have yZ := KZ.out
    have yZ_0 := yZ.c 0 _ rfl
    have yZ_1 := yZ.c 1 _ rfl
    have yZ_2 := yZ.c 2 _ rfl
    have yZ_3 := yZ.c 3 _ rfl
    have yZ_4 := yZ.c 4 _ rfl
    have yZ_5 := yZ.c 5 _ rfl
    have yZ_6 := yZ.c 6 _ rfl
    have yZ_z := yZ.lt
    have yZ_f0 := yZ.f 0 _ rfl
    have yZ_f1 := yZ.f 1 _ rfl
    have yZ_f2 := yZ.f 2 _ rfl
    have yZ_f3 := yZ.f 3 _ rfl
    have yZ_f4 := yZ.f 4 _ rfl
    have yZ_f5 := yZ.f 5 _ rfl
    have yZ_f6 := yZ.f 6 _ rfl
    clear yZ
    have yS := KS.out
    have yS_0 := yS.c 0 _ rfl
    have yS_1 := yS.c 1 _ rfl
    have yS_2 := yS.c 2 _ rfl
    have yS_3 := yS.c 3 _ rfl
    have yS_4 := yS.c 4 _ rfl
    have yS_5 := yS.c 5 _ rfl
    have yS_6 := yS.c 6 _ rfl
    have yS_z := yS.lt
    have yS_f0 := yS.f 0 _ rfl
    have yS_f1 := yS.f 1 _ rfl
    have yS_f2 := yS.f 2 _ rfl
    have yS_f3 := yS.f 3 _ rfl
    have yS_f4 := yS.f 4 _ rfl
    have yS_f5 := yS.f 5 _ rfl
    have yS_f6 := yS.f 6 _ rfl
    clear yS
    go_wp2
    replace KZ := Lib.hid (blk_other (b := w.heap.size) (n := bS) (j := 6) (blk_other (b := w.heap.size) (n := bS) (j := 5) KZ.out (by omega) (.int .i64 0)) (by omega) (.int .i64 uy))
    replace KS := Lib.hid (blk_set (blk_set KS.out (j := 5) (by simp) (.int .i64 0)) (j := 6) (by simp) (.int .i64 uy))
    replace HB := Lib.hid ((HB.out.setCell (p := ⟨bS, 5, none⟩) (show w.heap.size ≤ bS by omega) (.int .i64 0)).setCell (p := ⟨bS, 6, none⟩) (show w.heap.size ≤ bS by omega) (.int .i64 uy))
    clear yZ_0 yZ_1 yZ_2 yZ_3 yZ_4 yZ_5 yZ_6 yZ_z yZ_f0 yZ_f1 yZ_f2 yZ_f3 yZ_f4 yZ_f5 yZ_f6 yS_0 yS_1 yS_2 yS_3 yS_4 yS_5 yS_6 yS_z yS_f0 yS_f1 yS_f2 yS_f3 yS_f4 yS_f5 yS_f6
    generalize (w4.setCell ⟨bS, 5, none⟩ (.int .i64 0)).setCell ⟨bS, 6, none⟩ (.int .i64 uy) = w5 at *
    simp only [List.set] at KS
    replace KZ := Lib.hid (blk_set (blk_set (blk_set (blk_set (blk_set (blk_set (blk_set KZ.out (j := 0) (by simp) (.int .i64 0)) (j := 1) (by simp) (.int .u64 0)) (j := 2) (by simp) (.int .i64 0)) (j := 3) (by simp) (.int .u64 0)) (j := 4) (by simp) (.int .i64 0)) (j := 5) (by simp) (.int .i64 0)) (j := 6) (by simp) (.int .i64 0))
    replace KS := Lib.hid (blk_other (b := bS) (n := w.heap.size) (j := 6) (blk_other (b := bS) (n := w.heap.size) (j := 5) (blk_other (b := bS) (n := w.heap.size) (j := 4) (blk_other (b := bS) (n := w.heap.size) (j := 3) (blk_other (b := bS) (n := w.heap.size) (j := 2) (blk_other (b := bS) (n := w.heap.size) (j := 1) (blk_other (b := bS) (n := w.heap.size) (j := 0) KS.out (by omega) (.int .i64 0)) (by omega) (.int .u64 0)) (by omega) (.int .i64 0)) (by omega) (.int .u64 0)) (by omega) (.int .i64 0)) (by omega) (.int .i64 0)) (by omega) (.int .i64 0))
    replace HB := Lib.hid (((((((HB.out.setCell (p := ⟨w.heap.size, 0, none⟩) (show w.heap.size ≤ w.heap.size by omega) (.int .i64 0)).setCell (p := ⟨w.heap.size, 1, none⟩) (show w.heap.size ≤ w.heap.size by omega) (.int .u64 0)).setCell (p := ⟨w.heap.size, 2, none⟩) (show w.heap.size ≤ w.heap.size by omega) (.int .i64 0)).setCell (p := ⟨w.heap.size, 3, none⟩) (show w.heap.size ≤ w.heap.size by omega) (.int .u64 0)).setCell (p := ⟨w.heap.size, 4, none⟩) (show w.heap.size ≤ w.heap.size by omega) (.int .i64 0)).setCell (p := ⟨w.heap.size, 5, none⟩) (show w.heap.size ≤ w.heap.size by omega) (.int .i64 0)).setCell (p := ⟨w.heap.size, 6, none⟩) (show w.heap.size ≤ w.heap.size by omega) (.int .i64 0))
    generalize ((((((w5.setCell ⟨w.heap.size, 0, none⟩ (.int .i64 0)).setCell ⟨w.heap.size, 1, none⟩ (.int .u64 0)).setCell ⟨w.heap.size, 2, none⟩ (.int .i64 0)).setCell ⟨w.heap.size, 3, none⟩ (.int .u64 0)).setCell ⟨w.heap.size, 4, none⟩ (.int .i64 0)).setCell ⟨w.heap.size, 5, none⟩ (.int .i64 0)).setCell ⟨w.heap.size, 6, none⟩ (.int .i64 0) = w6 at *
    simp only [List.set] at KZ
    have yZ := KZ.out
    have yZ_0 := yZ.c 0 _ rfl
    have yZ_1 := yZ.c 1 _ rfl
    have yZ_2 := yZ.c 2 _ rfl
    have yZ_3 := yZ.c 3 _ rfl
    have yZ_4 := yZ.c 4 _ rfl
    have yZ_5 := yZ.c 5 _ rfl
    have yZ_6 := yZ.c 6 _ rfl
    have yZ_z := yZ.lt
    clear yZ
    refine bodyPost_ret (v := .tuple #[.agg #[.int .i64 0, .int .u64 0, .int .i64 0, .int .u64 0, .int .i64 0, .int .i64 0, .int .i64 0], .int .i64 2]) (by simp [results, Tryz.results25, go_sem, yZ_0, yZ_1, yZ_2, yZ_3, yZ_4, yZ_5, yZ_6]) rfl ⟨by rw [HE.out], HB.out⟩
set_option maxHeartbeats 40000000 in
set_option maxRecDepth 100000 in
theorem rsol_ok (l : List Ms) (v : Value) (w : World) (h : LstAt l v w) (hs : solE l = 0) :
    Calls Tryz.prog 25 #[v] w fun e w' => e = .returned (.tuple #[.agg #[.int .i64 (hiW (solX l)), .int .u64 (loW (solX l)), .int .i64 (hiW (solY l)), .int .u64 (loW (solY l)), .int .i64 (detN l), .int .i64 (cenX l), .int .i64 (cenY l)], .int .i64 0]) ∧ Below w.heap.size w w' := by
  have hc := (sol_chk hs).1
  obtain ⟨p, cap, rfl⟩ := lst_form h
  have OL := Lib.hid (okL_of hc)
  obtain ⟨⟨a0, a1⟩, ⟨b0, b1⟩, ⟨c0, c1⟩, ⟨d0, d1⟩, ⟨e0, e1⟩⟩ := nrm_bd OL.out
  obtain ⟨⟨dt0, dt1⟩, ⟨sx0, sx1⟩, ⟨sy0, sy1⟩⟩ := sol_bd (nrm_bd OL.out)
  have NO := Lib.hid fun w h => rnormal_any l (.slice p l.length cap) w h hc
  have P1 := mulb (X := 16777216) (Y := 16777216) (by omega) a0 a1 c0 c1
  have P2 := mulb (X := 16777216) (Y := 16777216) (by omega) b0 b1 b0 b1
  have LX := Lib.hid fun w => rminor_any (nYY l) (nXZ l) (nXY l) (nYZ l) w ⟨by omega, by omega⟩ ⟨by omega, by omega⟩ ⟨by omega, by omega⟩ ⟨by omega, by omega⟩ (show FitW (solX l) from ⟨by omega, by omega⟩)
  have LY := Lib.hid fun w => rminor_any (nXX l) (nYZ l) (nXY l) (nXZ l) w ⟨by omega, by omega⟩ ⟨by omega, by omega⟩ ⟨by omega, by omega⟩ ⟨by omega, by omega⟩ (show FitW (solY l) from ⟨by omega, by omega⟩)
  have q1 : IntKind.i64.wrap (nXX l * nYY l) = nXX l * nYY l := IntWalk.i64_in _ (by omega)
  have q2 : IntKind.i64.wrap (nXY l * nXY l) = nXY l * nXY l := IntWalk.i64_in _ (by omega)
  have q3 : IntKind.i64.wrap (nXX l * nYY l - nXY l * nXY l) = detN l := IntWalk.i64_in _ (by unfold detN at dt0 dt1; omega)
  have HX : Hid (solX l = nYY l * nXZ l - nXY l * nYZ l) := Lib.hid rfl
  have HY : Hid (solY l = nXX l * nYZ l - nXY l * nXZ l) := Lib.hid rfl
  rw [← HX.out] at LX
  rw [← HY.out] at LY
  have NX := Lib.hid fun (hd : 0 < detN l) w => rnearest_any (solX l) (detN l) w (by omega) (by omega) hd (by omega)
  have NY := Lib.hid fun (hd : 0 < detN l) w => rnearest_any (solY l) (detN l) w (by omega) (by omega) hd (by omega)
  have VP := Lib.hid fun w => rvldP_any (cenX l) (cenY l) w
  have E0 : solE l = if detN l = 0 then 14 else if (pOk (cenX l) && pOk (cenY l)) = true then 0 else 2 := by unfold solE; rw [if_pos hc]
  have HDP : detN l ≠ 0 → 0 < detN l := fun q => by have := det_nonneg l (chk_w hc); omega
  rw [show nearI2 (solX l) (detN l) = cenX l from rfl] at NX
  rw [show nearI2 (solY l) (detN l) = cenY l from rfl] at NY
  have EX0 := Lib.hid fun hd w h => rex_ok l (.slice p l.length cap) w h hc hd
  clear NO LX LY q1 q2 q3 hc a0 a1 b0 b1 c0 c1 d0 d1 e0 e1 dt0 dt1 sx0 sx1 sy0 sy1 P1 P2 HX HY
  obtain ⟨A, EA⟩ : ∃ x, nXX l = x := ⟨_, rfl⟩
  obtain ⟨B, EB⟩ : ∃ x, nXY l = x := ⟨_, rfl⟩
  obtain ⟨C, EC⟩ : ∃ x, nYY l = x := ⟨_, rfl⟩
  obtain ⟨D, ED⟩ : ∃ x, nXZ l = x := ⟨_, rfl⟩
  obtain ⟨E, EE⟩ : ∃ x, nYZ l = x := ⟨_, rfl⟩
  obtain ⟨X, EX⟩ : ∃ x, solX l = x := ⟨_, rfl⟩
  obtain ⟨Y, EY⟩ : ∃ x, solY l = x := ⟨_, rfl⟩
  obtain ⟨T, ET⟩ : ∃ x, detN l = x := ⟨_, rfl⟩
  rw [ET, EX] at NX
  rw [ET, EY] at NY
  rw [ET] at E0 HDP
  rw [EX, EY, ET] at EX0
  have HX := Lib.hid EX
  have HY := Lib.hid EY
  have HT := Lib.hid ET
  clear EA EB EC ED EE EX EY ET
  obtain ⟨cx, hcx⟩ : ∃ x, cenX l = x := ⟨_, rfl⟩
  obtain ⟨cy, hcy⟩ : ∃ x, cenY l = x := ⟨_, rfl⟩
  rw [hcx] at NX
  rw [hcy] at NY
  rw [hcx, hcy] at VP E0
  have HCX := Lib.hid hcx
  have HCY := Lib.hid hcy
  clear hcx hcy
  have PV : (pOk cx && pOk cy) = vldP cx cy := by unfold pOk vldP; rw [Bool.eq_iff_iff]; simp only [Bool.and_eq_true, decide_eq_true_eq]; omega
  have PI : vldP cx cy = true → I64 cx ∧ I64 cy := fun h => by have := vldP_iff.1 h; exact ⟨⟨by omega, by omega⟩, by omega, by omega⟩
  rw [PV] at E0
  clear PV
  unfold wv at NX NY
  rw [hs] at E0
  clear hs
  have ht : T ≠ 0 := fun q => by rw [if_pos q] at E0; cases E0
  have hv : vldP cx cy = true := by
    rw [if_neg ht] at E0
    cases hv : vldP cx cy with
    | true => rfl
    | false => rw [hv, if_neg (by simp)] at E0; cases E0
  have EX := Lib.hid (EX0.out ht)
  have NX := Lib.hid (NX.out (HDP ht))
  have NY := Lib.hid (NY.out (HDP ht))
  obtain ⟨ix, iy⟩ := PI hv
  rw [if_pos ix, decide_eq_true ix] at NX
  rw [if_pos iy, decide_eq_true iy] at NY
  rw [hv] at VP
  clear E0 HDP PI ht hv ix iy EX0
  have H0 := Lib.hid h
  have KZ := Lib.hid (Blk.of (vs := #[.int .i64 0, .int .u64 0, .int .i64 0, .int .u64 0, .int .i64 0, .int .i64 0, .int .i64 0]) (t := 51) (w := w) (b := w.heap.size) (by simp))
  have HB := Lib.hid ((Below.refl w.heap.size w).alloc (by simp; try omega) (.cells #[.int .i64 0, .int .u64 0, .int .i64 0, .int .u64 0, .int .i64 0, .int .i64 0, .int .i64 0] 51))
  go_enter Tryz.func25, Tryz.ntmps25
  clear h
  go_wp2_with fail
  generalize w.alloc (.cells #[.int .i64 0, .int .u64 0, .int .i64 0, .int .u64 0, .int .i64 0, .int .i64 0, .int .i64 0] 51) = w0 at *
  refine (EX.out _ (H0.out.below HB.out)).mono ?_
  rintro e1 w1 ⟨rfl, hb1⟩
  replace HB := Lib.hid (HB.out.trans (hb1.mono HB.out.size))
  replace KZ := Lib.hid (KZ.out.below hb1)
  clear hb1
  go_wp2_with fail
  have KS := Lib.hid (Blk.of (vs := #[.int .i64 (hiW X), .int .u64 (loW X), .int .i64 (hiW Y), .int .u64 (loW Y), .int .i64 T, .int .i64 0, .int .i64 0]) (t := 51) (w := w1) (b := w1.heap.size) rfl)
  have hb2 : Below w1.heap.size w1 (w1.alloc (.cells #[.int .i64 (hiW X), .int .u64 (loW X), .int .i64 (hiW Y), .int .u64 (loW Y), .int .i64 T, .int .i64 0, .int .i64 0] 51)) := (Below.refl _ _).alloc (Nat.le_refl _) _
  have hnS := HB.out.size
  have nzS_Z := KZ.out.lt
  replace HB := Lib.hid (HB.out.trans (hb2.mono HB.out.size))
  replace KZ := Lib.hid (KZ.out.below hb2)
  clear hb2
  generalize w1.alloc (.cells #[.int .i64 (hiW X), .int .u64 (loW X), .int .i64 (hiW Y), .int .u64 (loW Y), .int .i64 T, .int .i64 0, .int .i64 0] 51) = w2 at *
  generalize w1.heap.size = bS at *
  have neS_Z : bS ≠ w.heap.size := by omega
  clear nzS_Z
  have yZ := KZ.out
  have yZ_0 := yZ.c 0 _ rfl
  have yZ_1 := yZ.c 1 _ rfl
  have yZ_2 := yZ.c 2 _ rfl
  have yZ_3 := yZ.c 3 _ rfl
  have yZ_4 := yZ.c 4 _ rfl
  have yZ_5 := yZ.c 5 _ rfl
  have yZ_6 := yZ.c 6 _ rfl
  have yZ_z := yZ.lt
  have yZ_f0 := yZ.f 0 _ rfl
  have yZ_f1 := yZ.f 1 _ rfl
  have yZ_f2 := yZ.f 2 _ rfl
  have yZ_f3 := yZ.f 3 _ rfl
  have yZ_f4 := yZ.f 4 _ rfl
  have yZ_f5 := yZ.f 5 _ rfl
  have yZ_f6 := yZ.f 6 _ rfl
  clear yZ
  have yS := KS.out
  have yS_0 := yS.c 0 _ rfl
  have yS_1 := yS.c 1 _ rfl
  have yS_2 := yS.c 2 _ rfl
  have yS_3 := yS.c 3 _ rfl
  have yS_4 := yS.c 4 _ rfl
  have yS_5 := yS.c 5 _ rfl
  have yS_6 := yS.c 6 _ rfl
  have yS_z := yS.lt
  have yS_f0 := yS.f 0 _ rfl
  have yS_f1 := yS.f 1 _ rfl
  have yS_f2 := yS.f 2 _ rfl
  have yS_f3 := yS.f 3 _ rfl
  have yS_f4 := yS.f 4 _ rfl
  have yS_f5 := yS.f 5 _ rfl
  have yS_f6 := yS.f 6 _ rfl
  clear yS
  go_wp2_with fail
  refine (NX.out _).mono ?_
  rintro e3 w3 ⟨rfl, hb3⟩
  replace HB := Lib.hid (HB.out.trans (hb3.mono HB.out.size))
  replace KZ := Lib.hid (KZ.out.below hb3)
  replace KS := Lib.hid (KS.out.below hb3)
  clear yZ_0 yZ_1 yZ_2 yZ_3 yZ_4 yZ_5 yZ_6 yZ_z yZ_f0 yZ_f1 yZ_f2 yZ_f3 yZ_f4 yZ_f5 yZ_f6 yS_0 yS_1 yS_2 yS_3 yS_4 yS_5 yS_6 yS_z yS_f0 yS_f1 yS_f2 yS_f3 yS_f4 yS_f5 yS_f6
  clear hb3
  have yS := KS.out
  have yS_0 := yS.c 0 _ rfl
  have yS_1 := yS.c 1 _ rfl
  have yS_2 := yS.c 2 _ rfl
  have yS_3 := yS.c 3 _ rfl
  have yS_4 := yS.c 4 _ rfl
  have yS_5 := yS.c 5 _ rfl
  have yS_6 := yS.c 6 _ rfl
  have yS_z := yS.lt
  have yS_f0 := yS.f 0 _ rfl
  have yS_f1 := yS.f 1 _ rfl
  have yS_f2 := yS.f 2 _ rfl
  have yS_f3 := yS.f 3 _ rfl
  have yS_f4 := yS.f 4 _ rfl
  have yS_f5 := yS.f 5 _ rfl
  have yS_f6 := yS.f 6 _ rfl
  clear yS
  go_wp2_with fail
  refine (NY.out _).mono ?_
  rintro e4 w4 ⟨rfl, hb4⟩
  replace HB := Lib.hid (HB.out.trans (hb4.mono HB.out.size))
  replace KZ := Lib.hid (KZ.out.below hb4)
  replace KS := Lib.hid (KS.out.below hb4)
  clear yS_0 yS_1 yS_2 yS_3 yS_4 yS_5 yS_6 yS_z yS_f0 yS_f1 yS_f2 yS_f3 yS_f4 yS_f5 yS_f6
  clear hb4
  have yZ := KZ.out
  have yZ_0 := yZ.c 0 _ rfl
  have yZ_1 := yZ.c 1 _ rfl
  have yZ_2 := yZ.c 2 _ rfl
  have yZ_3 := yZ.c 3 _ rfl
  have yZ_4 := yZ.c 4 _ rfl
  have yZ_5 := yZ.c 5 _ rfl
  have yZ_6 := yZ.c 6 _ rfl
  have yZ_z := yZ.lt
  have yZ_f0 := yZ.f 0 _ rfl
  have yZ_f1 := yZ.f 1 _ rfl
  have yZ_f2 := yZ.f 2 _ rfl
  have yZ_f3 := yZ.f 3 _ rfl
  have yZ_f4 := yZ.f 4 _ rfl
  have yZ_f5 := yZ.f 5 _ rfl
  have yZ_f6 := yZ.f 6 _ rfl
  clear yZ
  have yS := KS.out
  have yS_0 := yS.c 0 _ rfl
  have yS_1 := yS.c 1 _ rfl
  have yS_2 := yS.c 2 _ rfl
  have yS_3 := yS.c 3 _ rfl
  have yS_4 := yS.c 4 _ rfl
  have yS_5 := yS.c 5 _ rfl
  have yS_6 := yS.c 6 _ rfl
  have yS_z := yS.lt
  have yS_f0 := yS.f 0 _ rfl
  have yS_f1 := yS.f 1 _ rfl
  have yS_f2 := yS.f 2 _ rfl
  have yS_f3 := yS.f 3 _ rfl
  have yS_f4 := yS.f 4 _ rfl
  have yS_f5 := yS.f 5 _ rfl
  have yS_f6 := yS.f 6 _ rfl
  clear yS
  go_wp2_with fail
  replace KZ := Lib.hid (blk_other (b := w.heap.size) (n := bS) (j := 6) (blk_other (b := w.heap.size) (n := bS) (j := 5) KZ.out (by omega) (.int .i64 cx)) (by omega) (.int .i64 cy))
  replace KS := Lib.hid (blk_set (blk_set KS.out (j := 5) (by simp) (.int .i64 cx)) (j := 6) (by simp) (.int .i64 cy))
  replace HB := Lib.hid ((HB.out.setCell (p := ⟨bS, 5, none⟩) (show w.heap.size ≤ bS by omega) (.int .i64 cx)).setCell (p := ⟨bS, 6, none⟩) (show w.heap.size ≤ bS by omega) (.int .i64 cy))
  clear yZ_0 yZ_1 yZ_2 yZ_3 yZ_4 yZ_5 yZ_6 yZ_z yZ_f0 yZ_f1 yZ_f2 yZ_f3 yZ_f4 yZ_f5 yZ_f6 yS_0 yS_1 yS_2 yS_3 yS_4 yS_5 yS_6 yS_z yS_f0 yS_f1 yS_f2 yS_f3 yS_f4 yS_f5 yS_f6
  generalize (w4.setCell ⟨bS, 5, none⟩ (.int .i64 cx)).setCell ⟨bS, 6, none⟩ (.int .i64 cy) = w5 at *
  simp only [List.set] at KS
  refine (VP.out _).mono ?_
  rintro e6 w6 ⟨rfl, hb6⟩
  replace HB := Lib.hid (HB.out.trans (hb6.mono HB.out.size))
  replace KZ := Lib.hid (KZ.out.below hb6)
  replace KS := Lib.hid (KS.out.below hb6)
  clear hb6
  have yZ := KZ.out
  have yZ_0 := yZ.c 0 _ rfl
  have yZ_1 := yZ.c 1 _ rfl
  have yZ_2 := yZ.c 2 _ rfl
  have yZ_3 := yZ.c 3 _ rfl
  have yZ_4 := yZ.c 4 _ rfl
  have yZ_5 := yZ.c 5 _ rfl
  have yZ_6 := yZ.c 6 _ rfl
  have yZ_z := yZ.lt
  have yZ_f0 := yZ.f 0 _ rfl
  have yZ_f1 := yZ.f 1 _ rfl
  have yZ_f2 := yZ.f 2 _ rfl
  have yZ_f3 := yZ.f 3 _ rfl
  have yZ_f4 := yZ.f 4 _ rfl
  have yZ_f5 := yZ.f 5 _ rfl
  have yZ_f6 := yZ.f 6 _ rfl
  clear yZ
  have yS := KS.out
  have yS_0 := yS.c 0 _ rfl
  have yS_1 := yS.c 1 _ rfl
  have yS_2 := yS.c 2 _ rfl
  have yS_3 := yS.c 3 _ rfl
  have yS_4 := yS.c 4 _ rfl
  have yS_5 := yS.c 5 _ rfl
  have yS_6 := yS.c 6 _ rfl
  have yS_z := yS.lt
  have yS_f0 := yS.f 0 _ rfl
  have yS_f1 := yS.f 1 _ rfl
  have yS_f2 := yS.f 2 _ rfl
  have yS_f3 := yS.f 3 _ rfl
  have yS_f4 := yS.f 4 _ rfl
  have yS_f5 := yS.f 5 _ rfl
  have yS_f6 := yS.f 6 _ rfl
  clear yS
  go_wp2
  replace KZ := Lib.hid (blk_set (blk_set (blk_set (blk_set (blk_set (blk_set (blk_set KZ.out (j := 0) (by simp) (.int .i64 (hiW X))) (j := 1) (by simp) (.int .u64 (loW X))) (j := 2) (by simp) (.int .i64 (hiW Y))) (j := 3) (by simp) (.int .u64 (loW Y))) (j := 4) (by simp) (.int .i64 T)) (j := 5) (by simp) (.int .i64 cx)) (j := 6) (by simp) (.int .i64 cy))
  replace KS := Lib.hid (blk_other (b := bS) (n := w.heap.size) (j := 6) (blk_other (b := bS) (n := w.heap.size) (j := 5) (blk_other (b := bS) (n := w.heap.size) (j := 4) (blk_other (b := bS) (n := w.heap.size) (j := 3) (blk_other (b := bS) (n := w.heap.size) (j := 2) (blk_other (b := bS) (n := w.heap.size) (j := 1) (blk_other (b := bS) (n := w.heap.size) (j := 0) KS.out (by omega) (.int .i64 (hiW X))) (by omega) (.int .u64 (loW X))) (by omega) (.int .i64 (hiW Y))) (by omega) (.int .u64 (loW Y))) (by omega) (.int .i64 T)) (by omega) (.int .i64 cx)) (by omega) (.int .i64 cy))
  replace HB := Lib.hid (((((((HB.out.setCell (p := ⟨w.heap.size, 0, none⟩) (show w.heap.size ≤ w.heap.size by omega) (.int .i64 (hiW X))).setCell (p := ⟨w.heap.size, 1, none⟩) (show w.heap.size ≤ w.heap.size by omega) (.int .u64 (loW X))).setCell (p := ⟨w.heap.size, 2, none⟩) (show w.heap.size ≤ w.heap.size by omega) (.int .i64 (hiW Y))).setCell (p := ⟨w.heap.size, 3, none⟩) (show w.heap.size ≤ w.heap.size by omega) (.int .u64 (loW Y))).setCell (p := ⟨w.heap.size, 4, none⟩) (show w.heap.size ≤ w.heap.size by omega) (.int .i64 T)).setCell (p := ⟨w.heap.size, 5, none⟩) (show w.heap.size ≤ w.heap.size by omega) (.int .i64 cx)).setCell (p := ⟨w.heap.size, 6, none⟩) (show w.heap.size ≤ w.heap.size by omega) (.int .i64 cy))
  clear yZ_0 yZ_1 yZ_2 yZ_3 yZ_4 yZ_5 yZ_6 yZ_z yZ_f0 yZ_f1 yZ_f2 yZ_f3 yZ_f4 yZ_f5 yZ_f6 yS_0 yS_1 yS_2 yS_3 yS_4 yS_5 yS_6 yS_z yS_f0 yS_f1 yS_f2 yS_f3 yS_f4 yS_f5 yS_f6
  generalize ((((((w6.setCell ⟨w.heap.size, 0, none⟩ (.int .i64 (hiW X))).setCell ⟨w.heap.size, 1, none⟩ (.int .u64 (loW X))).setCell ⟨w.heap.size, 2, none⟩ (.int .i64 (hiW Y))).setCell ⟨w.heap.size, 3, none⟩ (.int .u64 (loW Y))).setCell ⟨w.heap.size, 4, none⟩ (.int .i64 T)).setCell ⟨w.heap.size, 5, none⟩ (.int .i64 cx)).setCell ⟨w.heap.size, 6, none⟩ (.int .i64 cy) = w7 at *
  simp only [List.set] at KZ
  have yZ := KZ.out
  have yZ_0 := yZ.c 0 _ rfl
  have yZ_1 := yZ.c 1 _ rfl
  have yZ_2 := yZ.c 2 _ rfl
  have yZ_3 := yZ.c 3 _ rfl
  have yZ_4 := yZ.c 4 _ rfl
  have yZ_5 := yZ.c 5 _ rfl
  have yZ_6 := yZ.c 6 _ rfl
  have yZ_z := yZ.lt
  clear yZ
  refine bodyPost_ret (v := .tuple #[.agg #[.int .i64 (hiW X), .int .u64 (loW X), .int .i64 (hiW Y), .int .u64 (loW Y), .int .i64 T, .int .i64 cx, .int .i64 cy], .int .i64 0]) (by simp [results, Tryz.results25, go_sem, yZ_0, yZ_1, yZ_2, yZ_3, yZ_4, yZ_5, yZ_6]) rfl ⟨by rw [HX.out, HY.out, HT.out, HCX.out, HCY.out], HB.out⟩
set_option maxHeartbeats 8000000 in
set_option maxRecDepth 100000 in
theorem rsol_early (l : List Ms) (c : Int) (v : Value) (w : World) (h : LstAt l v w) (hc : c ≠ 0) (NO : Hid (∀ v w, LstAt l v w → Calls Tryz.prog 28 #[v] w fun e w' => e = .returned (.tuple #[.agg #[.int .i64 0, .int .u64 0, .int .i64 0, .int .u64 0, .int .i64 0, .int .i64 0, .int .i64 0], .int .i64 c]) ∧ Below w.heap.size w w')) :
    Calls Tryz.prog 25 #[v] w fun e w' => e = .returned (.tuple #[.agg #[.int .i64 0, .int .u64 0, .int .i64 0, .int .u64 0, .int .i64 0, .int .i64 0, .int .i64 0], .int .i64 c]) ∧ Below w.heap.size w w' := by
  obtain ⟨p, cap, rfl⟩ := lst_form h
  have NO := Lib.hid fun w h => NO.out (.slice p l.length cap) w h
  have g : (c != 0) = true := by simpa using hc
  have g' : (c == 0) = false := by simpa using hc
  clear hc
  have H0 := Lib.hid h
  have KZ := Lib.hid (Blk.of (vs := #[.int .i64 0, .int .u64 0, .int .i64 0, .int .u64 0, .int .i64 0, .int .i64 0, .int .i64 0]) (t := 51) (w := w) (b := w.heap.size) (by simp))
  have HB := Lib.hid ((Below.refl w.heap.size w).alloc (by simp; try omega) (.cells #[.int .i64 0, .int .u64 0, .int .i64 0, .int .u64 0, .int .i64 0, .int .i64 0, .int .i64 0] 51))
  go_enter Tryz.func25, Tryz.ntmps25
  clear h
  go_wp2_with fail
  generalize w.alloc (.cells #[.int .i64 0, .int .u64 0, .int .i64 0, .int .u64 0, .int .i64 0, .int .i64 0, .int .i64 0] 51) = w0 at *
  refine (NO.out _ (H0.out.below HB.out)).mono ?_
  rintro e1 w1 ⟨rfl, hb1⟩
  replace HB := Lib.hid (HB.out.trans (hb1.mono HB.out.size))
  replace KZ := Lib.hid (KZ.out.below hb1)
  clear hb1
  have yZ := KZ.out
  have yZ_0 := yZ.c 0 _ rfl
  have yZ_1 := yZ.c 1 _ rfl
  have yZ_2 := yZ.c 2 _ rfl
  have yZ_3 := yZ.c 3 _ rfl
  have yZ_4 := yZ.c 4 _ rfl
  have yZ_5 := yZ.c 5 _ rfl
  have yZ_6 := yZ.c 6 _ rfl
  have yZ_z := yZ.lt
  have yZ_f0 := yZ.f 0 _ rfl
  have yZ_f1 := yZ.f 1 _ rfl
  have yZ_f2 := yZ.f 2 _ rfl
  have yZ_f3 := yZ.f 3 _ rfl
  have yZ_f4 := yZ.f 4 _ rfl
  have yZ_f5 := yZ.f 5 _ rfl
  have yZ_f6 := yZ.f 6 _ rfl
  clear yZ
  go_wp2
  replace KZ := Lib.hid (blk_set (blk_set (blk_set (blk_set (blk_set (blk_set (blk_set KZ.out (j := 0) (by simp) (.int .i64 0)) (j := 1) (by simp) (.int .u64 0)) (j := 2) (by simp) (.int .i64 0)) (j := 3) (by simp) (.int .u64 0)) (j := 4) (by simp) (.int .i64 0)) (j := 5) (by simp) (.int .i64 0)) (j := 6) (by simp) (.int .i64 0))
  replace HB := Lib.hid (((((((HB.out.setCell (p := ⟨w.heap.size, 0, none⟩) (show w.heap.size ≤ w.heap.size by omega) (.int .i64 0)).setCell (p := ⟨w.heap.size, 1, none⟩) (show w.heap.size ≤ w.heap.size by omega) (.int .u64 0)).setCell (p := ⟨w.heap.size, 2, none⟩) (show w.heap.size ≤ w.heap.size by omega) (.int .i64 0)).setCell (p := ⟨w.heap.size, 3, none⟩) (show w.heap.size ≤ w.heap.size by omega) (.int .u64 0)).setCell (p := ⟨w.heap.size, 4, none⟩) (show w.heap.size ≤ w.heap.size by omega) (.int .i64 0)).setCell (p := ⟨w.heap.size, 5, none⟩) (show w.heap.size ≤ w.heap.size by omega) (.int .i64 0)).setCell (p := ⟨w.heap.size, 6, none⟩) (show w.heap.size ≤ w.heap.size by omega) (.int .i64 0))
  clear yZ_0 yZ_1 yZ_2 yZ_3 yZ_4 yZ_5 yZ_6 yZ_z yZ_f0 yZ_f1 yZ_f2 yZ_f3 yZ_f4 yZ_f5 yZ_f6
  generalize ((((((w1.setCell ⟨w.heap.size, 0, none⟩ (.int .i64 0)).setCell ⟨w.heap.size, 1, none⟩ (.int .u64 0)).setCell ⟨w.heap.size, 2, none⟩ (.int .i64 0)).setCell ⟨w.heap.size, 3, none⟩ (.int .u64 0)).setCell ⟨w.heap.size, 4, none⟩ (.int .i64 0)).setCell ⟨w.heap.size, 5, none⟩ (.int .i64 0)).setCell ⟨w.heap.size, 6, none⟩ (.int .i64 0) = w2 at *
  simp only [List.set] at KZ
  have KN := Lib.hid (Blk.of (vs := #[.int .i64 0, .int .u64 0, .int .i64 0, .int .u64 0, .int .i64 0, .int .i64 0, .int .i64 0]) (t := 51) (w := w2) (b := w2.heap.size) rfl)
  have hb3 : Below w2.heap.size w2 (w2.alloc (.cells #[.int .i64 0, .int .u64 0, .int .i64 0, .int .u64 0, .int .i64 0, .int .i64 0, .int .i64 0] 51)) := (Below.refl _ _).alloc (Nat.le_refl _) _
  have hnN := HB.out.size
  have nzN_Z := KZ.out.lt
  replace HB := Lib.hid (HB.out.trans (hb3.mono HB.out.size))
  replace KZ := Lib.hid (KZ.out.below hb3)
  clear hb3
  generalize w2.alloc (.cells #[.int .i64 0, .int .u64 0, .int .i64 0, .int .u64 0, .int .i64 0, .int .i64 0, .int .i64 0] 51) = w3 at *
  generalize w2.heap.size = bN at *
  have neN_Z : bN ≠ w.heap.size := by omega
  clear nzN_Z
  have yZ := KZ.out
  have yZ_0 := yZ.c 0 _ rfl
  have yZ_1 := yZ.c 1 _ rfl
  have yZ_2 := yZ.c 2 _ rfl
  have yZ_3 := yZ.c 3 _ rfl
  have yZ_4 := yZ.c 4 _ rfl
  have yZ_5 := yZ.c 5 _ rfl
  have yZ_6 := yZ.c 6 _ rfl
  have yZ_z := yZ.lt
  clear yZ
  refine bodyPost_ret (v := .tuple #[.agg #[.int .i64 0, .int .u64 0, .int .i64 0, .int .u64 0, .int .i64 0, .int .i64 0, .int .i64 0], .int .i64 c]) (by simp [results, Tryz.results25, go_sem, yZ_0, yZ_1, yZ_2, yZ_3, yZ_4, yZ_5, yZ_6]) rfl ⟨rfl, HB.out⟩
theorem rsol_bad (l : List Ms) (v : Value) (w : World) (h : LstAt l v w) (hs : solE l ≠ 0) :
    Calls Tryz.prog 25 #[v] w fun e w' => e = .returned (.tuple #[.agg #[.int .i64 0, .int .u64 0, .int .i64 0, .int .u64 0, .int .i64 0, .int .i64 0, .int .i64 0], .int .i64 (solE l)]) ∧ Below w.heap.size w w' := by
  by_cases hc : chkL l = 0
  · by_cases hd : detN l = 0
    · have e : solE l = 14 := by unfold solE; rw [if_pos hc, if_pos hd]
      rw [e]
      exact rsol_early l 14 v w h (by omega) (Lib.hid fun v w h => rex_rank l v w h hc hd)
    · exact rsol_bad0 l v w h hc hd hs
  · rw [chk_sol hc]
    exact rsol_early l _ v w h hc (Lib.hid fun v w h => rex_chk l v w h hc)
end Go.Proofs.YtplgdlooglnpmaaGreat
namespace Go.Proofs.YtplgdlooglnpmaaGreat
set_option linter.unusedVariables false
open Go.RowKit
set_option maxHeartbeats 8000000 in
set_option maxRecDepth 100000 in
theorem rup_any (x d : Int) (w : World) (hx0 : 0 ≤ x) (hx : x < 85070591730234615865843651857942052864) (hd : 0 < d) (hd1 : d ≤ 9223372036854775807) :
    Calls Tryz.prog 62 #[wv x, .int .i64 d] w fun e w' => e = .returned (.tuple #[.int .i64 (if I64 (ceilI x d) then ceilI x d else 0), .bool (decide (ceilI x d ≤ 8000000))]) ∧ Below w.heap.size w w' := by
  obtain ⟨b0, b1⟩ := ceil_bd hd hx0
  have OF := Lib.hid fun w => rof_any d w (by omega) hd1
  have DV := Lib.hid fun w => rdivup_any x d w hx0 hx hd (by omega)
  have IN := Lib.hid fun w => rnear_int (x := ceilI x d) w ⟨by omega, by omega⟩
  have NI : ¬ I64 (ceilI x d) → ¬ ceilI x d ≤ 8000000 := fun h q => h ⟨by omega, by omega⟩
  generalize ceilI x d = v at *
  unfold wv at *
  clear hx0 hx hd hd1 b0 b1
  by_cases k : I64 v
  · rw [if_pos k, decide_eq_true k] at IN
    rw [if_pos k]
    obtain ⟨b, g⟩ : ∃ b, decide (v ≤ 8000000) = b := ⟨_, rfl⟩
    rw [g]
    clear NI k
    have KX := Lib.hid (Blk.of (vs := #[.int .i64 (hiW x), .int .u64 (loW x)]) (t := 49) (w := w) (b := w.heap.size) (by simp))
    have HB := Lib.hid ((Below.refl w.heap.size w).alloc (by simp; try omega) (.cells #[.int .i64 (hiW x), .int .u64 (loW x)] 49))
    go_enter Tryz.func62, Tryz.ntmps62
    go_wp2_with fail
    generalize w.alloc (.cells #[.int .i64 (hiW x), .int .u64 (loW x)] 49) = w0 at *
    have BD := Lib.hid (show Below w0.heap.size w0 w0.drew from ⟨rfl, rfl, rfl, Nat.le_refl _, fun _ _ => rfl⟩)
    have BD2 := Lib.hid (below_drew_alloc w0 (.cells #[.int .i64 0, .int .u64 0] 49))
    have DOF := Lib.hid fun W (h : Below w0.heap.size w0 W) => (OF.out W).mono fun e w' ⟨h1, h2⟩ => show _ ∧ Below w0.heap.size w0 w' ∧ Below W.heap.size W w' from ⟨h1, h.trans (h2.mono h.size), h2⟩
    have DDV := Lib.hid fun W (h : Below w0.heap.size w0 W) => (DV.out W).mono fun e w' ⟨h1, h2⟩ => show _ ∧ Below w0.heap.size w0 w' ∧ Below W.heap.size W w' from ⟨h1, h.trans (h2.mono h.size), h2⟩
    have yX := KX.out
    have yX_0 := yX.c 0 _ rfl
    have yX_1 := yX.c 1 _ rfl
    have yX_z := yX.lt
    clear yX
    go_region_held3 (fun w' => w'.cell? ⟨w.heap.size, 0, none⟩ = some (.int .i64 (hiW x)) ∧ w'.cell? ⟨w.heap.size, 1, none⟩ = some (.int .u64 (loW x))) (first | (refine ⟨?_, ?_⟩ <;> first | with_reducible assumption | (rw [far2 KV.out.1 yX_z]; with_reducible assumption)) | go_keep)
      (first
        | (go_at_call 89; with_reducible refine Calls.mono (DOF.out _ (by first | with_reducible exact BD.out | with_reducible exact BD2.out | with_reducible exact HX.out | with_reducible exact HX.out.alloc HX.out.size _)) ?_; rintro e9 w9 ⟨rfl, hb9, hc9⟩; have pX := KX.out.below hb9; have qX0 := pX.c 0 _ rfl; have qX1 := pX.c 1 _ rfl; clear pX; (first | (with_reducible have KV := Lib.hid (kv_drew (vs := #[.int .i64 0, .int .u64 0]) (t := 49) hc9); have pV := KV.out.2; have v0 := pV.c 0 _ rfl; have vf0 := pV.f 0 _ rfl; have v1 := pV.c 1 _ rfl; have vf1 := pV.f 1 _ rfl; have v9 := pV.lt; clear pV) | (with_reducible have KV := Lib.hid (kv_new (vs := #[.int .i64 0, .int .u64 0]) (t := 49) HX.out hc9); have pV := KV.out.2; have v0 := pV.c 0 _ rfl; have vf0 := pV.f 0 _ rfl; have v1 := pV.c 1 _ rfl; have vf1 := pV.f 1 _ rfl; have v9 := pV.lt; clear pV) | (with_reducible have KV := Lib.hid (kv_old KV.out hc9); have pV := KV.out.2; have v0 := pV.c 0 _ rfl; have vf0 := pV.f 0 _ rfl; have v1 := pV.c 1 _ rfl; have vf1 := pV.f 1 _ rfl; have v9 := pV.lt; clear pV) | skip); have HX := Lib.hid hb9; clear hb9 hc9)
        | (go_at_call 96; with_reducible refine Calls.mono (DDV.out _ (by first | with_reducible exact BD.out | with_reducible exact BD2.out | with_reducible exact HX.out | with_reducible exact HX.out.alloc HX.out.size _)) ?_; rintro e9 w9 ⟨rfl, hb9, hc9⟩; have pX := KX.out.below hb9; have qX0 := pX.c 0 _ rfl; have qX1 := pX.c 1 _ rfl; clear pX; (first | (with_reducible have KV := Lib.hid (kv_drew (vs := #[.int .i64 0, .int .u64 0]) (t := 49) hc9); have pV := KV.out.2; have v0 := pV.c 0 _ rfl; have vf0 := pV.f 0 _ rfl; have v1 := pV.c 1 _ rfl; have vf1 := pV.f 1 _ rfl; have v9 := pV.lt; clear pV) | (with_reducible have KV := Lib.hid (kv_new (vs := #[.int .i64 0, .int .u64 0]) (t := 49) HX.out hc9); have pV := KV.out.2; have v0 := pV.c 0 _ rfl; have vf0 := pV.f 0 _ rfl; have v1 := pV.c 1 _ rfl; have vf1 := pV.f 1 _ rfl; have v9 := pV.lt; clear pV) | (with_reducible have KV := Lib.hid (kv_old KV.out hc9); have pV := KV.out.2; have v0 := pV.c 0 _ rfl; have vf0 := pV.f 0 _ rfl; have v1 := pV.c 1 _ rfl; have vf1 := pV.f 1 _ rfl; have v9 := pV.lt; clear pV) | skip); have HX := Lib.hid hb9; clear hb9 hc9))
    all_goals
      first
        | (have FN := kv_set2n (.int .i64 (hiW v)) (.int .u64 (loW v)) KV.out HX.out; have FB := Lib.hid FN.1; have KN := Lib.hid FN.2.1; have n0N := FN.2.2; clear FN; generalize World.setCell (World.setCell _ _ (.int .i64 (hiW v))) _ (.int .u64 (loW v)) = w1 at *)
        | (have FN := kv_putn (vs := #[.int .i64 (hiW v), .int .u64 (loW v)]) (t := 49) HX.out; have FB := Lib.hid FN.1; have KN := Lib.hid FN.2.1; have n0N := FN.2.2; clear FN; generalize (World.alloc _ (.cells #[.int .i64 (hiW v), .int .u64 (loW v)] 49)) = w1 at *)
      have nN := Nat.le_trans HB.out.size n0N
      have neN_X := Nat.ne_of_gt (Nat.lt_of_lt_of_le KX.out.lt n0N)
      replace HB := Lib.hid (HB.out.trans (FB.out.mono HB.out.size))
      replace KX := Lib.hid (KX.out.below FB.out)
      have yN := KN.out
      have yN_0 := yN.c 0 _ rfl
      have yN_1 := yN.c 1 _ rfl
      have yN_z := yN.lt
      clear yN
      go_wp2_with fail
      refine (IN.out _).mono ?_
      rintro e2 w2 ⟨rfl, hb2⟩
      replace HB := Lib.hid (HB.out.trans (hb2.mono HB.out.size))
      replace KX := Lib.hid (KX.out.below hb2)
      replace KN := Lib.hid (KN.out.below hb2)
      clear yN_0 yN_1 yN_z
      clear hb2
      go_wp2
      all_goals go_ret2
      all_goals exact ⟨rfl, HB.out⟩
  · rw [if_neg k, decide_eq_false k] at IN
    rw [if_neg k, decide_eq_false (NI k)]
    clear NI k
    have KX := Lib.hid (Blk.of (vs := #[.int .i64 (hiW x), .int .u64 (loW x)]) (t := 49) (w := w) (b := w.heap.size) (by simp))
    have HB := Lib.hid ((Below.refl w.heap.size w).alloc (by simp; try omega) (.cells #[.int .i64 (hiW x), .int .u64 (loW x)] 49))
    go_enter Tryz.func62, Tryz.ntmps62
    go_wp2_with fail
    generalize w.alloc (.cells #[.int .i64 (hiW x), .int .u64 (loW x)] 49) = w0 at *
    have BD := Lib.hid (show Below w0.heap.size w0 w0.drew from ⟨rfl, rfl, rfl, Nat.le_refl _, fun _ _ => rfl⟩)
    have BD2 := Lib.hid (below_drew_alloc w0 (.cells #[.int .i64 0, .int .u64 0] 49))
    have DOF := Lib.hid fun W (h : Below w0.heap.size w0 W) => (OF.out W).mono fun e w' ⟨h1, h2⟩ => show _ ∧ Below w0.heap.size w0 w' ∧ Below W.heap.size W w' from ⟨h1, h.trans (h2.mono h.size), h2⟩
    have DDV := Lib.hid fun W (h : Below w0.heap.size w0 W) => (DV.out W).mono fun e w' ⟨h1, h2⟩ => show _ ∧ Below w0.heap.size w0 w' ∧ Below W.heap.size W w' from ⟨h1, h.trans (h2.mono h.size), h2⟩
    have yX := KX.out
    have yX_0 := yX.c 0 _ rfl
    have yX_1 := yX.c 1 _ rfl
    have yX_z := yX.lt
    clear yX
    go_region_held3 (fun w' => w'.cell? ⟨w.heap.size, 0, none⟩ = some (.int .i64 (hiW x)) ∧ w'.cell? ⟨w.heap.size, 1, none⟩ = some (.int .u64 (loW x))) (first | (refine ⟨?_, ?_⟩ <;> first | with_reducible assumption | (rw [far2 KV.out.1 yX_z]; with_reducible assumption)) | go_keep)
      (first
        | (go_at_call 89; with_reducible refine Calls.mono (DOF.out _ (by first | with_reducible exact BD.out | with_reducible exact BD2.out | with_reducible exact HX.out | with_reducible exact HX.out.alloc HX.out.size _)) ?_; rintro e9 w9 ⟨rfl, hb9, hc9⟩; have pX := KX.out.below hb9; have qX0 := pX.c 0 _ rfl; have qX1 := pX.c 1 _ rfl; clear pX; (first | (with_reducible have KV := Lib.hid (kv_drew (vs := #[.int .i64 0, .int .u64 0]) (t := 49) hc9); have pV := KV.out.2; have v0 := pV.c 0 _ rfl; have vf0 := pV.f 0 _ rfl; have v1 := pV.c 1 _ rfl; have vf1 := pV.f 1 _ rfl; have v9 := pV.lt; clear pV) | (with_reducible have KV := Lib.hid (kv_new (vs := #[.int .i64 0, .int .u64 0]) (t := 49) HX.out hc9); have pV := KV.out.2; have v0 := pV.c 0 _ rfl; have vf0 := pV.f 0 _ rfl; have v1 := pV.c 1 _ rfl; have vf1 := pV.f 1 _ rfl; have v9 := pV.lt; clear pV) | (with_reducible have KV := Lib.hid (kv_old KV.out hc9); have pV := KV.out.2; have v0 := pV.c 0 _ rfl; have vf0 := pV.f 0 _ rfl; have v1 := pV.c 1 _ rfl; have vf1 := pV.f 1 _ rfl; have v9 := pV.lt; clear pV) | skip); have HX := Lib.hid hb9; clear hb9 hc9)
        | (go_at_call 96; with_reducible refine Calls.mono (DDV.out _ (by first | with_reducible exact BD.out | with_reducible exact BD2.out | with_reducible exact HX.out | with_reducible exact HX.out.alloc HX.out.size _)) ?_; rintro e9 w9 ⟨rfl, hb9, hc9⟩; have pX := KX.out.below hb9; have qX0 := pX.c 0 _ rfl; have qX1 := pX.c 1 _ rfl; clear pX; (first | (with_reducible have KV := Lib.hid (kv_drew (vs := #[.int .i64 0, .int .u64 0]) (t := 49) hc9); have pV := KV.out.2; have v0 := pV.c 0 _ rfl; have vf0 := pV.f 0 _ rfl; have v1 := pV.c 1 _ rfl; have vf1 := pV.f 1 _ rfl; have v9 := pV.lt; clear pV) | (with_reducible have KV := Lib.hid (kv_new (vs := #[.int .i64 0, .int .u64 0]) (t := 49) HX.out hc9); have pV := KV.out.2; have v0 := pV.c 0 _ rfl; have vf0 := pV.f 0 _ rfl; have v1 := pV.c 1 _ rfl; have vf1 := pV.f 1 _ rfl; have v9 := pV.lt; clear pV) | (with_reducible have KV := Lib.hid (kv_old KV.out hc9); have pV := KV.out.2; have v0 := pV.c 0 _ rfl; have vf0 := pV.f 0 _ rfl; have v1 := pV.c 1 _ rfl; have vf1 := pV.f 1 _ rfl; have v9 := pV.lt; clear pV) | skip); have HX := Lib.hid hb9; clear hb9 hc9))
    all_goals
      first
        | (have FN := kv_set2n (.int .i64 (hiW v)) (.int .u64 (loW v)) KV.out HX.out; have FB := Lib.hid FN.1; have KN := Lib.hid FN.2.1; have n0N := FN.2.2; clear FN; generalize World.setCell (World.setCell _ _ (.int .i64 (hiW v))) _ (.int .u64 (loW v)) = w1 at *)
        | (have FN := kv_putn (vs := #[.int .i64 (hiW v), .int .u64 (loW v)]) (t := 49) HX.out; have FB := Lib.hid FN.1; have KN := Lib.hid FN.2.1; have n0N := FN.2.2; clear FN; generalize (World.alloc _ (.cells #[.int .i64 (hiW v), .int .u64 (loW v)] 49)) = w1 at *)
      have nN := Nat.le_trans HB.out.size n0N
      have neN_X := Nat.ne_of_gt (Nat.lt_of_lt_of_le KX.out.lt n0N)
      replace HB := Lib.hid (HB.out.trans (FB.out.mono HB.out.size))
      replace KX := Lib.hid (KX.out.below FB.out)
      have yN := KN.out
      have yN_0 := yN.c 0 _ rfl
      have yN_1 := yN.c 1 _ rfl
      have yN_z := yN.lt
      clear yN
      go_wp2_with fail
      refine (IN.out _).mono ?_
      rintro e2 w2 ⟨rfl, hb2⟩
      replace HB := Lib.hid (HB.out.trans (hb2.mono HB.out.size))
      replace KX := Lib.hid (KX.out.below hb2)
      replace KN := Lib.hid (KN.out.below hb2)
      clear yN_0 yN_1 yN_z
      clear hb2
      go_wp2
      all_goals go_ret2
      all_goals exact ⟨rfl, HB.out⟩
set_option maxHeartbeats 8000000 in
set_option maxRecDepth 100000 in
theorem rpair_any (x y d : Int) (w : World) (hx0 : 0 ≤ x) (hx : x < 85070591730234615865843651857942052864) (hy0 : 0 ≤ y) (hy : y < 85070591730234615865843651857942052864) (hd : 0 < d) (hd1 : d ≤ 9223372036854775807) :
    Calls Tryz.prog 30 #[wv x, wv y, .int .i64 d] w fun e w' => e = .returned (.tuple #[.int .i64 (pairF x y d).1.1, .int .i64 (pairF x y d).1.2, .int .i64 (pairF x y d).2]) ∧ Below w.heap.size w w' := by
  have SX := Lib.hid fun w => rup_any x d w hx0 hx hd hd1
  have SY := Lib.hid fun w => rup_any y d w hy0 hy hd hd1
  have E0 : pairF x y d = if ceilI x d ≤ 8000000 ∧ ceilI y d ≤ 8000000 then ((ceilI x d, ceilI y d), 0) else ((0, 0), 2) := rfl
  have IX : ceilI x d ≤ 8000000 → I64 (ceilI x d) := fun h => by have := ceil_bd hd hx0; exact ⟨by omega, by omega⟩
  have IY : ceilI y d ≤ 8000000 → I64 (ceilI y d) := fun h => by have := ceil_bd hd hy0; exact ⟨by omega, by omega⟩
  clear hx0 hx hy0 hy hd hd1
  generalize pairF x y d = P at *
  generalize ceilI x d = u at *
  generalize ceilI y d = v at *
  unfold wv at *
  by_cases h : u ≤ 8000000
  · rw [if_pos (IX h), decide_eq_true h] at SX
    by_cases k : v ≤ 8000000
    · rw [if_pos (IY k), decide_eq_true k] at SY
      have E := Lib.hid (E0.trans (if_pos ⟨h, k⟩))
      clear E0 h k IX IY
      have KX := Lib.hid ((Blk.of (vs := #[.int .i64 (hiW x), .int .u64 (loW x)]) (t := 49) (w := w) (b := w.heap.size) (by simp)).alloc (.cells #[.int .i64 (hiW y), .int .u64 (loW y)] 49))
      have KY := Lib.hid (Blk.of (vs := #[.int .i64 (hiW y), .int .u64 (loW y)]) (t := 49) (w := (w.alloc (.cells #[.int .i64 (hiW x), .int .u64 (loW x)] 49))) (b := w.heap.size + 1) (by simp))
      have HB := Lib.hid (((Below.refl w.heap.size w).alloc (by simp; try omega) (.cells #[.int .i64 (hiW x), .int .u64 (loW x)] 49)).alloc (by simp; try omega) (.cells #[.int .i64 (hiW y), .int .u64 (loW y)] 49))
      go_enter Tryz.func30, Tryz.ntmps30
      go_wp2_with fail
      generalize (w.alloc (.cells #[.int .i64 (hiW x), .int .u64 (loW x)] 49)).alloc (.cells #[.int .i64 (hiW y), .int .u64 (loW y)] 49) = w0 at *
      refine (SX.out _).mono ?_
      rintro e1 w1 ⟨rfl, hb1⟩
      replace HB := Lib.hid (HB.out.trans (hb1.mono HB.out.size))
      replace KX := Lib.hid (KX.out.below hb1)
      replace KY := Lib.hid (KY.out.below hb1)
      clear hb1
      have yY := KY.out
      have yY_0 := yY.c 0 _ rfl
      have yY_1 := yY.c 1 _ rfl
      have yY_z := yY.lt
      clear yY
      go_wp2_with fail
      refine (SY.out _).mono ?_
      rintro e2 w2 ⟨rfl, hb2⟩
      replace HB := Lib.hid (HB.out.trans (hb2.mono HB.out.size))
      replace KX := Lib.hid (KX.out.below hb2)
      replace KY := Lib.hid (KY.out.below hb2)
      clear yY_0 yY_1 yY_z
      clear hb2
      go_wp2
      refine bodyPost_ret (v := .tuple #[.int .i64 u, .int .i64 v, .int .i64 0]) (by simp [results, Tryz.results30, go_sem]) rfl ⟨by rw [E.out], HB.out⟩
    · rw [decide_eq_false k] at SY
      have E := Lib.hid (E0.trans (if_neg fun q => k q.2))
      generalize (if I64 v then v else 0) = v' at *
      clear E0 h k IX IY
      have KX := Lib.hid ((Blk.of (vs := #[.int .i64 (hiW x), .int .u64 (loW x)]) (t := 49) (w := w) (b := w.heap.size) (by simp)).alloc (.cells #[.int .i64 (hiW y), .int .u64 (loW y)] 49))
      have KY := Lib.hid (Blk.of (vs := #[.int .i64 (hiW y), .int .u64 (loW y)]) (t := 49) (w := (w.alloc (.cells #[.int .i64 (hiW x), .int .u64 (loW x)] 49))) (b := w.heap.size + 1) (by simp))
      have HB := Lib.hid (((Below.refl w.heap.size w).alloc (by simp; try omega) (.cells #[.int .i64 (hiW x), .int .u64 (loW x)] 49)).alloc (by simp; try omega) (.cells #[.int .i64 (hiW y), .int .u64 (loW y)] 49))
      go_enter Tryz.func30, Tryz.ntmps30
      go_wp2_with fail
      generalize (w.alloc (.cells #[.int .i64 (hiW x), .int .u64 (loW x)] 49)).alloc (.cells #[.int .i64 (hiW y), .int .u64 (loW y)] 49) = w0 at *
      refine (SX.out _).mono ?_
      rintro e1 w1 ⟨rfl, hb1⟩
      replace HB := Lib.hid (HB.out.trans (hb1.mono HB.out.size))
      replace KX := Lib.hid (KX.out.below hb1)
      replace KY := Lib.hid (KY.out.below hb1)
      clear hb1
      have yY := KY.out
      have yY_0 := yY.c 0 _ rfl
      have yY_1 := yY.c 1 _ rfl
      have yY_z := yY.lt
      clear yY
      go_wp2_with fail
      refine (SY.out _).mono ?_
      rintro e2 w2 ⟨rfl, hb2⟩
      replace HB := Lib.hid (HB.out.trans (hb2.mono HB.out.size))
      replace KX := Lib.hid (KX.out.below hb2)
      replace KY := Lib.hid (KY.out.below hb2)
      clear yY_0 yY_1 yY_z
      clear hb2
      go_wp2
      refine bodyPost_ret (v := .tuple #[.int .i64 0, .int .i64 0, .int .i64 2]) (by simp [results, Tryz.results30, go_sem]) rfl ⟨by rw [E.out], HB.out⟩
  · rw [decide_eq_false h] at SX
    have E := Lib.hid (E0.trans (if_neg fun q => h q.1))
    obtain ⟨bk, hbk⟩ : ∃ b, decide (v ≤ 8000000) = b := ⟨_, rfl⟩
    rw [hbk] at SY
    generalize (if I64 u then u else 0) = u' at *
    generalize (if I64 v then v else 0) = v' at *
    clear E0 h IX IY hbk
    have KX := Lib.hid ((Blk.of (vs := #[.int .i64 (hiW x), .int .u64 (loW x)]) (t := 49) (w := w) (b := w.heap.size) (by simp)).alloc (.cells #[.int .i64 (hiW y), .int .u64 (loW y)] 49))
    have KY := Lib.hid (Blk.of (vs := #[.int .i64 (hiW y), .int .u64 (loW y)]) (t := 49) (w := (w.alloc (.cells #[.int .i64 (hiW x), .int .u64 (loW x)] 49))) (b := w.heap.size + 1) (by simp))
    have HB := Lib.hid (((Below.refl w.heap.size w).alloc (by simp; try omega) (.cells #[.int .i64 (hiW x), .int .u64 (loW x)] 49)).alloc (by simp; try omega) (.cells #[.int .i64 (hiW y), .int .u64 (loW y)] 49))
    go_enter Tryz.func30, Tryz.ntmps30
    go_wp2_with fail
    generalize (w.alloc (.cells #[.int .i64 (hiW x), .int .u64 (loW x)] 49)).alloc (.cells #[.int .i64 (hiW y), .int .u64 (loW y)] 49) = w0 at *
    refine (SX.out _).mono ?_
    rintro e1 w1 ⟨rfl, hb1⟩
    replace HB := Lib.hid (HB.out.trans (hb1.mono HB.out.size))
    replace KX := Lib.hid (KX.out.below hb1)
    replace KY := Lib.hid (KY.out.below hb1)
    clear hb1
    have yY := KY.out
    have yY_0 := yY.c 0 _ rfl
    have yY_1 := yY.c 1 _ rfl
    have yY_z := yY.lt
    clear yY
    go_wp2_with fail
    refine (SY.out _).mono ?_
    rintro e2 w2 ⟨rfl, hb2⟩
    replace HB := Lib.hid (HB.out.trans (hb2.mono HB.out.size))
    replace KX := Lib.hid (KX.out.below hb2)
    replace KY := Lib.hid (KY.out.below hb2)
    clear yY_0 yY_1 yY_z
    clear hb2
    go_wp2
    refine bodyPost_ret (v := .tuple #[.int .i64 0, .int .i64 0, .int .i64 2]) (by simp [results, Tryz.results30, go_sem]) rfl ⟨by rw [E.out], HB.out⟩
end Go.Proofs.YtplgdlooglnpmaaGreat
