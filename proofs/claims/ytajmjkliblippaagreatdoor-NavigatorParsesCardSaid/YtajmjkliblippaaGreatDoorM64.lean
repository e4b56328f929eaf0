/-
  Walks and laws of the layers below, gathered from several texts.
-/
import Derived.Lib.Hide
import Derived.Test.YtajmjkliblippaaGreatDoorN6SnSensorThree
import Derived.IntWalk
import Derived.Sort.OwnSortedInts
import Derived.Test.YtajmjkliblippaaGreatDoorRows
import Derived.WalkKit
import Derived.ProofKit
import Derived.OpenShut
import Derived.Deep.Slices
import Derived.Lib.SmallJoins
import Derived.Test.YtajmjkliblippaaGreatDoorM63
namespace Go.Proofs.YtajmjkliblippaaGreatDoor
set_option linter.unusedVariables false
open Go.RowKit
theorem far7 {m b c : Nat} {W : World} (h : m ≤ c) (hb : b < m) {v0 v1 v2 v3 v4 v5 v6 : Value} (i : Nat) : (((((((W.setCell ⟨c, 0, none⟩ v0).setCell ⟨c, 1, none⟩ v1).setCell ⟨c, 2, none⟩ v2).setCell ⟨c, 3, none⟩ v3).setCell ⟨c, 4, none⟩ v4).setCell ⟨c, 5, none⟩ v5).setCell ⟨c, 6, none⟩ v6).cell? ⟨b, i, none⟩ = W.cell? ⟨b, i, none⟩ :=
  have hne : c ≠ b := by omega
  (((((((World.cell?_setCell_far _ _ _ _ hne).trans (World.cell?_setCell_far _ _ _ _ hne)).trans (World.cell?_setCell_far _ _ _ _ hne)).trans (World.cell?_setCell_far _ _ _ _ hne)).trans (World.cell?_setCell_far _ _ _ _ hne)).trans (World.cell?_setCell_far _ _ _ _ hne)).trans (World.cell?_setCell_far _ _ _ _ hne))
theorem chk_sol {l : List Ms} (h : chkL l ≠ 0) : solE l = chkL l := by unfold solE; rw [if_neg h]
set_option maxHeartbeats 40000000 in
set_option maxRecDepth 100000 in
theorem sol_bad0 (l : List Ms) (v : Value) (w : World) (h : LstAt l v w) (hc : chkL l = 0) (hs : solE l ≠ 0) :
    Calls Tryz.prog 96 #[v] w fun e w' => e = .returned (.tuple #[.agg #[.int .i64 0, .int .u64 0, .int .i64 0, .int .u64 0, .int .i64 0, .int .i64 0, .int .i64 0], .int .i64 (solE l)]) ∧ Below w.heap.size w w' := by
  obtain ⟨p, cap, rfl⟩ := lst_form h
  have OL := Lib.hid (okL_of hc)
  obtain ⟨⟨a0, a1⟩, ⟨b0, b1⟩, ⟨c0, c1⟩, ⟨d0, d1⟩, ⟨e0, e1⟩⟩ := nrm_bd OL.out
  obtain ⟨⟨dt0, dt1⟩, ⟨sx0, sx1⟩, ⟨sy0, sy1⟩⟩ := sol_bd (nrm_bd OL.out)
  have NO := Lib.hid fun w h => normal_any l (.slice p l.length cap) w h hc
  have P1 := mulb (X := 16777216) (Y := 16777216) (by omega) a0 a1 c0 c1
  have P2 := mulb (X := 16777216) (Y := 16777216) (by omega) b0 b1 b0 b1
  have LX := Lib.hid fun w => lsq_less (nYY l) (nXZ l) (nXY l) (nYZ l) w ⟨by omega, by omega⟩ ⟨by omega, by omega⟩ ⟨by omega, by omega⟩ ⟨by omega, by omega⟩ (show FitW (solX l) from ⟨by omega, by omega⟩)
  have LY := Lib.hid fun w => lsq_less (nXX l) (nYZ l) (nXY l) (nXZ l) w ⟨by omega, by omega⟩ ⟨by omega, by omega⟩ ⟨by omega, by omega⟩ ⟨by omega, by omega⟩ (show FitW (solY l) from ⟨by omega, by omega⟩)
  have q1 : IntKind.i64.wrap (nXX l * nYY l) = nXX l * nYY l := IntWalk.i64_in _ (by omega)
  have q2 : IntKind.i64.wrap (nXY l * nXY l) = nXY l * nXY l := IntWalk.i64_in _ (by omega)
  have q3 : IntKind.i64.wrap (nXX l * nYY l - nXY l * nXY l) = detN l := IntWalk.i64_in _ (by unfold detN at dt0 dt1; omega)
  have HX : Hid (solX l = nYY l * nXZ l - nXY l * nYZ l) := Lib.hid rfl
  have HY : Hid (solY l = nXX l * nYZ l - nXY l * nXZ l) := Lib.hid rfl
  rw [← HX.out] at LX
  rw [← HY.out] at LY
  have NX := Lib.hid fun (hd : 0 < detN l) w => nearest_any (solX l) (detN l) w (by omega) (by omega) hd (by omega)
  have NY := Lib.hid fun (hd : 0 < detN l) w => nearest_any (solY l) (detN l) w (by omega) (by omega) hd (by omega)
  have VP := Lib.hid fun w => vldP_any (cenX l) (cenY l) w
  have E0 : solE l = if detN l = 0 then 14 else if (pOk (cenX l) && pOk (cenY l)) = true then 0 else 2 := by unfold solE; rw [if_pos hc]
  have HDP : detN l ≠ 0 → 0 < detN l := fun q => by have := det_nonneg l (chk_w hc); omega
  rw [show nearI2 (solX l) (detN l) = cenX l from rfl] at NX
  rw [show nearI2 (solY l) (detN l) = cenY l from rfl] at NY
  clear hc a0 a1 b0 b1 c0 c1 d0 d1 e0 e1 dt0 dt1 sx0 sx1 sy0 sy1 P1 P2 HX HY
  obtain ⟨A, EA⟩ : ∃ x, nXX l = x := ⟨_, rfl⟩
  obtain ⟨B, EB⟩ : ∃ x, nXY l = x := ⟨_, rfl⟩
  obtain ⟨C, EC⟩ : ∃ x, nYY l = x := ⟨_, rfl⟩
  obtain ⟨D, ED⟩ : ∃ x, nXZ l = x := ⟨_, rfl⟩
  obtain ⟨E, EE⟩ : ∃ x, nYZ l = x := ⟨_, rfl⟩
  obtain ⟨X, EX⟩ : ∃ x, solX l = x := ⟨_, rfl⟩
  obtain ⟨Y, EY⟩ : ∃ x, solY l = x := ⟨_, rfl⟩
  obtain ⟨T, ET⟩ : ∃ x, detN l = x := ⟨_, rfl⟩
  rw [EA, EB, EC, ED, EE] at NO
  rw [EC, ED, EB, EE, EX] at LX
  rw [EA, EE, EB, ED, EY] at LY
  rw [EA, EC] at q1
  rw [EB] at q2
  rw [EA, EB, EC, ET] at q3
  rw [ET, EX] at NX
  rw [ET, EY] at NY
  rw [ET] at E0 HDP
  have HX := Lib.hid EX
  have HY := Lib.hid EY
  have HT := Lib.hid ET
  clear EA EB EC ED EE EX EY ET
  obtain ⟨cx, hcx⟩ : ∃ x, cenX l = x := ⟨_, rfl⟩
  obtain ⟨cy, hcy⟩ : ∃ x, cenY l = x := ⟨_, rfl⟩
  rw [hcx] at NX
  rw [hcy] at NY
  rw [hcx, hcy] at VP E0
  have HCX := Lib.hid hcx
  have HCY := Lib.hid hcy
  clear hcx hcy
  have PV : (pOk cx && pOk cy) = vldP cx cy := by unfold pOk vldP; rw [Bool.eq_iff_iff]; simp only [Bool.and_eq_true, decide_eq_true_eq]; omega
  have PI : vldP cx cy = true → I64 cx ∧ I64 cy := fun h => by have := vldP_iff.1 h; exact ⟨⟨by omega, by omega⟩, by omega, by omega⟩
  rw [PV] at E0
  clear PV
  unfold wv at LX LY NX NY
  obtain ⟨ee, hee⟩ : ∃ x, solE l = x := ⟨_, rfl⟩
  have HS := Lib.hid hee
  rw [hee] at E0 hs
  clear hee HCX HCY HX HY HT
  rw [HS.out]
  clear HS
  have H0 := Lib.hid h
  obtain ⟨KZ, HB⟩ := ent1 w #[.int .i64 0, .int .u64 0, .int .i64 0, .int .u64 0, .int .i64 0, .int .i64 0, .int .i64 0] 114
  go_enter Tryz.func96, Tryz.ntmps96
  clear h
  go_wp2_with fail
  generalize w.alloc (.cells #[.int .i64 0, .int .u64 0, .int .i64 0, .int .u64 0, .int .i64 0, .int .i64 0, .int .i64 0] 114) = w0 at *
  refine (NO.out _ (H0.out.below HB.out)).mono ?_
  rintro e1 w1 ⟨rfl, hb1⟩
  replace HB := hT HB hb1
  replace KZ := hK KZ hb1
  clear hb1
  go_wp2_with fail
  obtain ⟨KN, hb2⟩ := alB w1 #[.int .i64 A, .int .i64 B, .int .i64 C, .int .i64 D, .int .i64 E] 160
  have hnN := HB.out.size
  have nzN_Z := KZ.out.lt
  replace HB := hT HB hb2
  replace KZ := hK KZ hb2
  clear hb2
  generalize w1.alloc (.cells #[.int .i64 A, .int .i64 B, .int .i64 C, .int .i64 D, .int .i64 E] 160) = w2 at *
  generalize w1.heap.size = bN at *
  have neN_Z : bN ≠ w.heap.size := by omega
  clear nzN_Z
  have BD := Lib.hid (show Below w2.heap.size w2 w2.drew from ⟨rfl, rfl, rfl, Nat.le_refl _, fun _ _ => rfl⟩)
  have BD2 := Lib.hid (below_drew_alloc w2 (.cells #[.int .i64 0, .int .u64 0, .int .i64 0, .int .u64 0, .int .i64 0, .int .i64 0, .int .i64 0] 114))
  have DLX := Lib.hid fun W (h : Below w2.heap.size w2 W) => (LX.out W).mono fun e w' ⟨h1, h2⟩ => show _ ∧ Below w2.heap.size w2 w' ∧ Below W.heap.size W w' from ⟨h1, h.trans (h2.mono h.size), h2⟩
  have DLY := Lib.hid fun W (h : Below w2.heap.size w2 W) => (LY.out W).mono fun e w' ⟨h1, h2⟩ => show _ ∧ Below w2.heap.size w2 w' ∧ Below W.heap.size W w' from ⟨h1, h.trans (h2.mono h.size), h2⟩
  obtain ⟨yN_0, yN_1, yN_2, yN_3, yN_4, yN_z⟩ := blk5 KN
  apply wp_join (R := fun b w' => w.heap.size ≤ b ∧ b ≠ w.heap.size ∧ b ≠ bN ∧ Hid (Below w.heap.size w w') ∧ Hid (Blk [.int .i64 (hiW X), .int .u64 (loW X), .int .i64 (hiW Y), .int .u64 (loW Y), .int .i64 T, .int .i64 0, .int .i64 0] b w') ∧ Hid (Blk [.int .i64 0, .int .u64 0, .int .i64 0, .int .u64 0, .int .i64 0, .int .i64 0, .int .i64 0] w.heap.size w') ∧ Hid (Blk [.int .i64 A, .int .i64 B, .int .i64 C, .int .i64 D, .int .i64 E] bN w'))
  · go_region_held3 (fun w' => w'.cell? ⟨bN, 0, none⟩ = some (.int .i64 A) ∧ w'.cell? ⟨bN, 1, none⟩ = some (.int .i64 B) ∧ w'.cell? ⟨bN, 2, none⟩ = some (.int .i64 C) ∧ w'.cell? ⟨bN, 3, none⟩ = some (.int .i64 D) ∧ w'.cell? ⟨bN, 4, none⟩ = some (.int .i64 E)) (first | (refine ⟨?_, ?_, ?_, ?_, ?_⟩ <;> first | with_reducible assumption | (rw [far7 KV.out.1 yN_z]; with_reducible assumption)) | go_keep)
      (first
        | (go_at_call 141; with_reducible refine Calls.mono (DLX.out _ (by first | with_reducible exact BD.out | with_reducible exact BD2.out | with_reducible exact HX.out | with_reducible exact HX.out.alloc HX.out.size _)) ?_; rintro e9 w9 ⟨rfl, hb9, hc9⟩; have pN := KN.out.below hb9; have qN0 := pN.c 0 _ rfl; have qN1 := pN.c 1 _ rfl; have qN2 := pN.c 2 _ rfl; have qN3 := pN.c 3 _ rfl; have qN4 := pN.c 4 _ rfl; clear pN; (first | (with_reducible have KV := Lib.hid (kv_drew (vs := #[.int .i64 0, .int .u64 0, .int .i64 0, .int .u64 0, .int .i64 0, .int .i64 0, .int .i64 0]) (t := 114) hc9); have pV := KV.out.2; have v0 := pV.c 0 _ rfl; have vf0 := pV.f 0 _ rfl; have v1 := pV.c 1 _ rfl; have vf1 := pV.f 1 _ rfl; have v2 := pV.c 2 _ rfl; have vf2 := pV.f 2 _ rfl; have v3 := pV.c 3 _ rfl; have vf3 := pV.f 3 _ rfl; have v4 := pV.c 4 _ rfl; have vf4 := pV.f 4 _ rfl; have v5 := pV.c 5 _ rfl; have vf5 := pV.f 5 _ rfl; have v6 := pV.c 6 _ rfl; have vf6 := pV.f 6 _ rfl; have v9 := pV.lt; clear pV) | (with_reducible have KV := Lib.hid (kv_new (vs := #[.int .i64 0, .int .u64 0, .int .i64 0, .int .u64 0, .int .i64 0, .int .i64 0, .int .i64 0]) (t := 114) HX.out hc9); have pV := KV.out.2; have v0 := pV.c 0 _ rfl; have vf0 := pV.f 0 _ rfl; have v1 := pV.c 1 _ rfl; have vf1 := pV.f 1 _ rfl; have v2 := pV.c 2 _ rfl; have vf2 := pV.f 2 _ rfl; have v3 := pV.c 3 _ rfl; have vf3 := pV.f 3 _ rfl; have v4 := pV.c 4 _ rfl; have vf4 := pV.f 4 _ rfl; have v5 := pV.c 5 _ rfl; have vf5 := pV.f 5 _ rfl; have v6 := pV.c 6 _ rfl; have vf6 := pV.f 6 _ rfl; have v9 := pV.lt; clear pV) | (with_reducible have KV := Lib.hid (kv_old KV.out hc9); have pV := KV.out.2; have v0 := pV.c 0 _ rfl; have vf0 := pV.f 0 _ rfl; have v1 := pV.c 1 _ rfl; have vf1 := pV.f 1 _ rfl; have v2 := pV.c 2 _ rfl; have vf2 := pV.f 2 _ rfl; have v3 := pV.c 3 _ rfl; have vf3 := pV.f 3 _ rfl; have v4 := pV.c 4 _ rfl; have vf4 := pV.f 4 _ rfl; have v5 := pV.c 5 _ rfl; have vf5 := pV.f 5 _ rfl; have v6 := pV.c 6 _ rfl; have vf6 := pV.f 6 _ rfl; have v9 := pV.lt; clear pV) | skip); have HX := Lib.hid hb9; clear hb9 hc9)
        | (go_at_call 141; with_reducible refine Calls.mono (DLY.out _ (by first | with_reducible exact BD.out | with_reducible exact BD2.out | with_reducible exact HX.out | with_reducible exact HX.out.alloc HX.out.size _)) ?_; rintro e9 w9 ⟨rfl, hb9, hc9⟩; have pN := KN.out.below hb9; have qN0 := pN.c 0 _ rfl; have qN1 := pN.c 1 _ rfl; have qN2 := pN.c 2 _ rfl; have qN3 := pN.c 3 _ rfl; have qN4 := pN.c 4 _ rfl; clear pN; (first | (with_reducible have KV := Lib.hid (kv_drew (vs := #[.int .i64 0, .int .u64 0, .int .i64 0, .int .u64 0, .int .i64 0, .int .i64 0, .int .i64 0]) (t := 114) hc9); have pV := KV.out.2; have v0 := pV.c 0 _ rfl; have vf0 := pV.f 0 _ rfl; have v1 := pV.c 1 _ rfl; have vf1 := pV.f 1 _ rfl; have v2 := pV.c 2 _ rfl; have vf2 := pV.f 2 _ rfl; have v3 := pV.c 3 _ rfl; have vf3 := pV.f 3 _ rfl; have v4 := pV.c 4 _ rfl; have vf4 := pV.f 4 _ rfl; have v5 := pV.c 5 _ rfl; have vf5 := pV.f 5 _ rfl; have v6 := pV.c 6 _ rfl; have vf6 := pV.f 6 _ rfl; have v9 := pV.lt; clear pV) | (with_reducible have KV := Lib.hid (kv_new (vs := #[.int .i64 0, .int .u64 0, .int .i64 0, .int .u64 0, .int .i64 0, .int .i64 0, .int .i64 0]) (t := 114) HX.out hc9); have pV := KV.out.2; have v0 := pV.c 0 _ rfl; have vf0 := pV.f 0 _ rfl; have v1 := pV.c 1 _ rfl; have vf1 := pV.f 1 _ rfl; have v2 := pV.c 2 _ rfl; have vf2 := pV.f 2 _ rfl; have v3 := pV.c 3 _ rfl; have vf3 := pV.f 3 _ rfl; have v4 := pV.c 4 _ rfl; have vf4 := pV.f 4 _ rfl; have v5 := pV.c 5 _ rfl; have vf5 := pV.f 5 _ rfl; have v6 := pV.c 6 _ rfl; have vf6 := pV.f 6 _ rfl; have v9 := pV.lt; clear pV) | (with_reducible have KV := Lib.hid (kv_old KV.out hc9); have pV := KV.out.2; have v0 := pV.c 0 _ rfl; have vf0 := pV.f 0 _ rfl; have v1 := pV.c 1 _ rfl; have vf1 := pV.f 1 _ rfl; have v2 := pV.c 2 _ rfl; have vf2 := pV.f 2 _ rfl; have v3 := pV.c 3 _ rfl; have vf3 := pV.f 3 _ rfl; have v4 := pV.c 4 _ rfl; have vf4 := pV.f 4 _ rfl; have v5 := pV.c 5 _ rfl; have vf5 := pV.f 5 _ rfl; have v6 := pV.c 6 _ rfl; have vf6 := pV.f 6 _ rfl; have v9 := pV.lt; clear pV) | skip); have HX := Lib.hid hb9; clear hb9 hc9))
    all_goals
      first
        | (have FN := kv_set7 (.int .i64 (hiW X)) (.int .u64 (loW X)) (.int .i64 (hiW Y)) (.int .u64 (loW Y)) (.int .i64 T) (.int .i64 0) (.int .i64 0) KV.out HX.out; have FB := Lib.hid FN.1; have KS := Lib.hid FN.2.1; have n0S := FN.2.2; clear FN; generalize World.setCell (World.setCell (World.setCell (World.setCell (World.setCell (World.setCell (World.setCell _ _ (.int .i64 (hiW X))) _ (.int .u64 (loW X))) _ (.int .i64 (hiW Y))) _ (.int .u64 (loW Y))) _ (.int .i64 T)) _ (.int .i64 0)) _ (.int .i64 0) = w3 at *)
        | (have FN := kv_putn (vs := #[.int .i64 (hiW X), .int .u64 (loW X), .int .i64 (hiW Y), .int .u64 (loW Y), .int .i64 T, .int .i64 0, .int .i64 0]) (t := 114) HX.out; have FB := Lib.hid FN.1; have KS := Lib.hid FN.2.1; have n0S := FN.2.2; clear FN; generalize (World.alloc _ (.cells #[.int .i64 (hiW X), .int .u64 (loW X), .int .i64 (hiW Y), .int .u64 (loW Y), .int .i64 T, .int .i64 0, .int .i64 0] 114)) = w3 at *)
      have nS := Nat.le_trans HB.out.size n0S
      have neS_Z := Nat.ne_of_gt (Nat.lt_of_lt_of_le KZ.out.lt n0S)
      have neS_N := Nat.ne_of_gt (Nat.lt_of_lt_of_le KN.out.lt n0S)
      replace HB := Lib.hid (HB.out.trans (FB.out.mono HB.out.size))
      replace KZ := Lib.hid (KZ.out.below FB.out)
      replace KN := Lib.hid (KN.out.below FB.out)
      obtain ⟨bS, hbS⟩ := ex_blk KS
      rw [← hbS] at KS nS neS_Z neS_N ⊢
      refine OnlyN.mk ⟨bS, rfl, ?_⟩
      with_reducible exact ⟨nS, neS_Z, neS_N, HB, KS, KZ, KN⟩
  clear BD BD2 DLX DLY yN_0 yN_1 yN_2 yN_3 yN_4 yN_z
  rintro bS w3 ⟨nS, neS_Z, neS_N, HB2, KS, KZ2, KN2⟩
  replace HB := HB2
  clear HB2
  replace KZ := KZ2
  clear KZ2
  replace KN := KN2
  clear KN2
  clear LX LY NO q1 q2 q3
  by_cases ht : T = 0
  · have g : (T == 0) = true := by simpa using ht
    have HE := Lib.hid (E0.trans (if_pos ht))
    clear E0 HDP NX NY VP PI ht hs
    obtain ⟨yZ_0, yZ_1, yZ_2, yZ_3, yZ_4, yZ_5, yZ_6, yZ_z, yZ_f0, yZ_f1, yZ_f2, yZ_f3, yZ_f4, yZ_f5, yZ_f6⟩ := blf7 KZ
    obtain ⟨yS_0, yS_1, yS_2, yS_3, yS_4, yS_5, yS_6, yS_z, yS_f0, yS_f1, yS_f2, yS_f3, yS_f4, yS_f5, yS_f6⟩ := blf7 KS
    go_wp2
    have hs := st7 w3 w.heap.size 0 (.int .i64 0) 1 (.int .u64 0) 2 (.int .i64 0) 3 (.int .u64 0) 4 (.int .i64 0) 5 (.int .i64 0) 6 (.int .i64 0)
    replace KZ := Lib.hid (blk_set (blk_set (blk_set (blk_set (blk_set (blk_set (blk_set KZ.out (j := 0) (by simp) (.int .i64 0)) (j := 1) (by simp) (.int .u64 0)) (j := 2) (by simp) (.int .i64 0)) (j := 3) (by simp) (.int .u64 0)) (j := 4) (by simp) (.int .i64 0)) (j := 5) (by simp) (.int .i64 0)) (j := 6) (by simp) (.int .i64 0))
    replace KN := oB hs KN (by omega)
    replace KS := oB hs KS (by omega)
    replace HB := oH hs HB (by omega)
    clear hs
    clear yZ_0 yZ_1 yZ_2 yZ_3 yZ_4 yZ_5 yZ_6 yZ_z yZ_f0 yZ_f1 yZ_f2 yZ_f3 yZ_f4 yZ_f5 yZ_f6 yS_0 yS_1 yS_2 yS_3 yS_4 yS_5 yS_6 yS_z yS_f0 yS_f1 yS_f2 yS_f3 yS_f4 yS_f5 yS_f6
    generalize ((((((w3.setCell ⟨w.heap.size, 0, none⟩ (.int .i64 0)).setCell ⟨w.heap.size, 1, none⟩ (.int .u64 0)).setCell ⟨w.heap.size, 2, none⟩ (.int .i64 0)).setCell ⟨w.heap.size, 3, none⟩ (.int .u64 0)).setCell ⟨w.heap.size, 4, none⟩ (.int .i64 0)).setCell ⟨w.heap.size, 5, none⟩ (.int .i64 0)).setCell ⟨w.heap.size, 6, none⟩ (.int .i64 0) = w4 at *
    simp only [List.set] at KZ
    obtain ⟨yZ_0, yZ_1, yZ_2, yZ_3, yZ_4, yZ_5, yZ_6, yZ_z⟩ := blk7 KZ
    refine bodyPost_ret (v := .tuple #[.agg #[.int .i64 0, .int .u64 0, .int .i64 0, .int .u64 0, .int .i64 0, .int .i64 0, .int .i64 0], .int .i64 14]) (by simp [results, Tryz.results96, go_sem, yZ_0, yZ_1, yZ_2, yZ_3, yZ_4, yZ_5, yZ_6]) rfl ⟨by rw [HE.out], HB.out⟩
  · have g : (T == 0) = false := by simpa using ht
    have NX := Lib.hid (NX.out (HDP ht))
    have NY := Lib.hid (NY.out (HDP ht))
    have E1 := E0.trans (if_neg ht)
    have hv : vldP cx cy = false := by
      cases hv : vldP cx cy with
      | false => rfl
      | true => rw [hv, if_pos rfl] at E1; exact absurd E1 hs
    rw [hv] at E1 VP
    have HE : Hid (ee = 2) := Lib.hid E1
    clear E0 E1 HDP ht hs PI hv
    by_cases ix : I64 cx
    · rw [if_pos ix, decide_eq_true ix] at NX
      by_cases iy : I64 cy
      · rw [if_pos iy, decide_eq_true iy] at NY
        clear ix iy
        obtain ⟨yZ_0, yZ_1, yZ_2, yZ_3, yZ_4, yZ_5, yZ_6, yZ_z, yZ_f0, yZ_f1, yZ_f2, yZ_f3, yZ_f4, yZ_f5, yZ_f6⟩ := blf7 KZ
        obtain ⟨yS_0, yS_1, yS_2, yS_3, yS_4, yS_5, yS_6, yS_z, yS_f0, yS_f1, yS_f2, yS_f3, yS_f4, yS_f5, yS_f6⟩ := blf7 KS
        go_wp2_with fail
        refine (NX.out _).mono ?_
        rintro e4 w4 ⟨rfl, hb4⟩
        replace HB := hT HB hb4
        replace KZ := hK KZ hb4
        replace KN := hK KN hb4
        replace KS := hK KS hb4
        clear yZ_0 yZ_1 yZ_2 yZ_3 yZ_4 yZ_5 yZ_6 yZ_z yZ_f0 yZ_f1 yZ_f2 yZ_f3 yZ_f4 yZ_f5 yZ_f6 yS_0 yS_1 yS_2 yS_3 yS_4 yS_5 yS_6 yS_z yS_f0 yS_f1 yS_f2 yS_f3 yS_f4 yS_f5 yS_f6
        clear hb4
        obtain ⟨yS_0, yS_1, yS_2, yS_3, yS_4, yS_5, yS_6, yS_z, yS_f0, yS_f1, yS_f2, yS_f3, yS_f4, yS_f5, yS_f6⟩ := blf7 KS
        go_wp2_with fail
        refine (NY.out _).mono ?_
        rintro e5 w5 ⟨rfl, hb5⟩
        replace HB := hT HB hb5
        replace KZ := hK KZ hb5
        replace KN := hK KN hb5
        replace KS := hK KS hb5
        clear yS_0 yS_1 yS_2 yS_3 yS_4 yS_5 yS_6 yS_z yS_f0 yS_f1 yS_f2 yS_f3 yS_f4 yS_f5 yS_f6
        clear hb5
        obtain ⟨yZ_0, yZ_1, yZ_2, yZ_3, yZ_4, yZ_5, yZ_6, yZ_z, yZ_f0, yZ_f1, yZ_f2, yZ_f3, yZ_f4, yZ_f5, yZ_f6⟩ := blf7 KZ
        obtain ⟨yS_0, yS_1, yS_2, yS_3, yS_4, yS_5, yS_6, yS_z, yS_f0, yS_f1, yS_f2, yS_f3, yS_f4, yS_f5, yS_f6⟩ := blf7 KS
        go_wp2_with fail
        have hs := st2 w5 bS 5 (.int .i64 cx) 6 (.int .i64 cy)
        replace KZ := oB hs KZ (by omega)
        replace KN := oB hs KN (by omega)
        replace KS := Lib.hid (blk_set (blk_set KS.out (j := 5) (by simp) (.int .i64 cx)) (j := 6) (by simp) (.int .i64 cy))
        replace HB := oH hs HB (by omega)
        clear hs
        clear yZ_0 yZ_1 yZ_2 yZ_3 yZ_4 yZ_5 yZ_6 yZ_z yZ_f0 yZ_f1 yZ_f2 yZ_f3 yZ_f4 yZ_f5 yZ_f6 yS_0 yS_1 yS_2 yS_3 yS_4 yS_5 yS_6 yS_z yS_f0 yS_f1 yS_f2 yS_f3 yS_f4 yS_f5 yS_f6
        generalize (w5.setCell ⟨bS, 5, none⟩ (.int .i64 cx)).setCell ⟨bS, 6, none⟩ (.int .i64 cy) = w6 at *
        simp only [List.set] at KS
        refine (VP.out _).mono ?_
        rintro e7 w7 ⟨rfl, hb7⟩
        replace HB := hT HB hb7
        replace KZ := hK KZ hb7
        replace KN := hK KN hb7
        replace KS := hK KS hb7
        clear hb7
        obtain ⟨yZ_0, yZ_1, yZ_2, yZ_3, yZ_4, yZ_5, yZ_6, yZ_z, yZ_f0, yZ_f1, yZ_f2, yZ_f3, yZ_f4, yZ_f5, yZ_f6⟩ := blf7 KZ
        obtain ⟨yS_0, yS_1, yS_2, yS_3, yS_4, yS_5, yS_6, yS_z, yS_f0, yS_f1, yS_f2, yS_f3, yS_f4, yS_f5, yS_f6⟩ := blf7 KS
        go_wp2
        have hs := st7 w7 w.heap.size 0 (.int .i64 0) 1 (.int .u64 0) 2 (.int .i64 0) 3 (.int .u64 0) 4 (.int .i64 0) 5 (.int .i64 0) 6 (.int .i64 0)
        replace KZ := Lib.hid (blk_set (blk_set (blk_set (blk_set (blk_set (blk_set (blk_set KZ.out (j := 0) (by simp) (.int .i64 0)) (j := 1) (by simp) (.int .u64 0)) (j := 2) (by simp) (.int .i64 0)) (j := 3) (by simp) (.int .u64 0)) (j := 4) (by simp) (.int .i64 0)) (j := 5) (by simp) (.int .i64 0)) (j := 6) (by simp) (.int .i64 0))
        replace KN := oB hs KN (by omega)
        replace KS := oB hs KS (by omega)
        replace HB := oH hs HB (by omega)
        clear hs
        clear yZ_0 yZ_1 yZ_2 yZ_3 yZ_4 yZ_5 yZ_6 yZ_z yZ_f0 yZ_f1 yZ_f2 yZ_f3 yZ_f4 yZ_f5 yZ_f6 yS_0 yS_1 yS_2 yS_3 yS_4 yS_5 yS_6 yS_z yS_f0 yS_f1 yS_f2 yS_f3 yS_f4 yS_f5 yS_f6
        generalize ((((((w7.setCell ⟨w.heap.size, 0, none⟩ (.int .i64 0)).setCell ⟨w.heap.size, 1, none⟩ (.int .u64 0)).setCell ⟨w.heap.size, 2, none⟩ (.int .i64 0)).setCell ⟨w.heap.size, 3, none⟩ (.int .u64 0)).setCell ⟨w.heap.size, 4, none⟩ (.int .i64 0)).setCell ⟨w.heap.size, 5, none⟩ (.int .i64 0)).setCell ⟨w.heap.size, 6, none⟩ (.int .i64 0) = w8 at *
        simp only [List.set] at KZ
        obtain ⟨yZ_0, yZ_1, yZ_2, yZ_3, yZ_4, yZ_5, yZ_6, yZ_z⟩ := blk7 KZ
        refine bodyPost_ret (v := .tuple #[.agg #[.int .i64 0, .int .u64 0, .int .i64 0, .int .u64 0, .int .i64 0, .int .i64 0, .int .i64 0], .int .i64 2]) (by simp [results, Tryz.results96, go_sem, yZ_0, yZ_1, yZ_2, yZ_3, yZ_4, yZ_5, yZ_6]) rfl ⟨by rw [HE.out], HB.out⟩
      · rw [if_neg iy, decide_eq_false iy] at NY
        clear ix iy
        obtain ⟨yZ_0, yZ_1, yZ_2, yZ_3, yZ_4, yZ_5, yZ_6, yZ_z, yZ_f0, yZ_f1, yZ_f2, yZ_f3, yZ_f4, yZ_f5, yZ_f6⟩ := blf7 KZ
        obtain ⟨yS_0, yS_1, yS_2, yS_3, yS_4, yS_5, yS_6, yS_z, yS_f0, yS_f1, yS_f2, yS_f3, yS_f4, yS_f5, yS_f6⟩ := blf7 KS
        go_wp2_with fail
        refine (NX.out _).mono ?_
        rintro e4 w4 ⟨rfl, hb4⟩
        replace HB := hT HB hb4
        replace KZ := hK KZ hb4
        replace KN := hK KN hb4
        replace KS := hK KS hb4
        clear yZ_0 yZ_1 yZ_2 yZ_3 yZ_4 yZ_5 yZ_6 yZ_z yZ_f0 yZ_f1 yZ_f2 yZ_f3 yZ_f4 yZ_f5 yZ_f6 yS_0 yS_1 yS_2 yS_3 yS_4 yS_5 yS_6 yS_z yS_f0 yS_f1 yS_f2 yS_f3 yS_f4 yS_f5 yS_f6
        clear hb4
        obtain ⟨yS_0, yS_1, yS_2, yS_3, yS_4, yS_5, yS_6, yS_z, yS_f0, yS_f1, yS_f2, yS_f3, yS_f4, yS_f5, yS_f6⟩ := blf7 KS
        go_wp2_with fail
        refine (NY.out _).mono ?_
        rintro e5 w5 ⟨rfl, hb5⟩
        replace HB := hT HB hb5
        replace KZ := hK KZ hb5
        replace KN := hK KN hb5
        replace KS := hK KS hb5
        clear yS_0 yS_1 yS_2 yS_3 yS_4 yS_5 yS_6 yS_z yS_f0 yS_f1 yS_f2 yS_f3 yS_f4 yS_f5 yS_f6
        clear hb5
        obtain ⟨yZ_0, yZ_1, yZ_2, yZ_3, yZ_4, yZ_5, yZ_6, yZ_z, yZ_f0, yZ_f1, yZ_f2, yZ_f3, yZ_f4, yZ_f5, yZ_f6⟩ := blf7 KZ
        obtain ⟨yS_0, yS_1, yS_2, yS_3, yS_4, yS_5, yS_6, yS_z, yS_f0, yS_f1, yS_f2, yS_f3, yS_f4, yS_f5, yS_f6⟩ := blf7 KS
        go_wp2
        have hs := st2 w5 bS 5 (.int .i64 cx) 6 (.int .i64 0)
        replace KZ := oB hs KZ (by omega)
        replace KN := oB hs KN (by omega)
        replace KS := Lib.hid (blk_set (blk_set KS.out (j := 5) (by simp) (.int .i64 cx)) (j := 6) (by simp) (.int .i64 0))
        replace HB := oH hs HB (by omega)
        clear hs
        clear yZ_0 yZ_1 yZ_2 yZ_3 yZ_4 yZ_5 yZ_6 yZ_z yZ_f0 yZ_f1 yZ_f2 yZ_f3 yZ_f4 yZ_f5 yZ_f6 yS_0 yS_1 yS_2 yS_3 yS_4 yS_5 yS_6 yS_z yS_f0 yS_f1 yS_f2 yS_f3 yS_f4 yS_f5 yS_f6
        generalize (w5.setCell ⟨bS, 5, none⟩ (.int .i64 cx)).setCell ⟨bS, 6, none⟩ (.int .i64 0) = w6 at *
        simp only [List.set] at KS
        have hs := st7 w6 w.heap.size 0 (.int .i64 0) 1 (.int .u64 0) 2 (.int .i64 0) 3 (.int .u64 0) 4 (.int .i64 0) 5 (.int .i64 0) 6 (.int .i64 0)
        replace KZ := Lib.hid (blk_set (blk_set (blk_set (blk_set (blk_set (blk_set (blk_set KZ.out (j := 0) (by simp) (.int .i64 0)) (j := 1) (by simp) (.int .u64 0)) (j := 2) (by simp) (.int .i64 0)) (j := 3) (by simp) (.int .u64 0)) (j := 4) (by simp) (.int .i64 0)) (j := 5) (by simp) (.int .i64 0)) (j := 6) (by simp) (.int .i64 0))
        replace KN := oB hs KN (by omega)
        replace KS := oB hs KS (by omega)
        replace HB := oH hs HB (by omega)
        clear hs
        generalize ((((((w6.setCell ⟨w.heap.size, 0, none⟩ (.int .i64 0)).setCell ⟨w.heap.size, 1, none⟩ (.int .u64 0)).setCell ⟨w.heap.size, 2, none⟩ (.int .i64 0)).setCell ⟨w.heap.size, 3, none⟩ (.int .u64 0)).setCell ⟨w.heap.size, 4, none⟩ (.int .i64 0)).setCell ⟨w.heap.size, 5, none⟩ (.int .i64 0)).setCell ⟨w.heap.size, 6, none⟩ (.int .i64 0) = w7 at *
        simp only [List.set] at KZ
        obtain ⟨yZ_0, yZ_1, yZ_2, yZ_3, yZ_4, yZ_5, yZ_6, yZ_z⟩ := blk7 KZ
        refine bodyPost_ret (v := .tuple #[.agg #[.int .i64 0, .int .u64 0, .int .i64 0, .int .u64 0, .int .i64 0, .int .i64 0, .int .i64 0], .int .i64 2]) (by simp [results, Tryz.results96, go_sem, yZ_0, yZ_1, yZ_2, yZ_3, yZ_4, yZ_5, yZ_6]) rfl ⟨by rw [HE.out], HB.out⟩
    · rw [if_neg ix, decide_eq_false ix] at NX
      obtain ⟨oy, hoy⟩ : ∃ b, decide (I64 cy) = b := ⟨_, rfl⟩
      obtain ⟨uy, huy⟩ : ∃ b, (if I64 cy then cy else 0) = b := ⟨_, rfl⟩
      rw [hoy, huy] at NY
      clear ix hoy huy
      obtain ⟨yZ_0, yZ_1, yZ_2, yZ_3, yZ_4, yZ_5, yZ_6, yZ_z, yZ_f0, yZ_f1, yZ_f2, yZ_f3, yZ_f4, yZ_f5, yZ_f6⟩ := blf7 KZ
      obtain ⟨yS_0, yS_1, yS_2, yS_3, yS_4, yS_5, yS_6, yS_z, yS_f0, yS_f1, yS_f2, yS_f3, yS_f4, yS_f5, yS_f6⟩ := blf7 KS
      go_wp2_with fail
      refine (NX.out _).mono ?_
      rintro e4 w4 ⟨rfl, hb4⟩
      replace HB := hT HB hb4
      replace KZ := hK KZ hb4
      replace KN := hK KN hb4
      replace KS := hK KS hb4
      clear yZ_0 yZ_1 yZ_2 yZ_3 yZ_4 yZ_5 yZ_6 yZ_z yZ_f0 yZ_f1 yZ_f2 yZ_f3 yZ_f4 yZ_f5 yZ_f6 yS_0 yS_1 yS_2 yS_3 yS_4 yS_5 yS_6 yS_z yS_f0 yS_f1 yS_f2 yS_f3 yS_f4 yS_f5 yS_f6
      clear hb4
      obtain ⟨yS_0, yS_1, yS_2, yS_3, yS_4, yS_5, yS_6, yS_z, yS_f0, yS_f1, yS_f2, yS_f3, yS_f4, yS_f5, yS_f6⟩ := blf7 KS
      go_wp2_with fail
      refine (NY.out _).mono ?_
      rintro e5 w5 ⟨rfl, hb5⟩
      replace HB := hT HB hb5
      replace KZ := hK KZ hb5
      replace KN := hK KN hb5
      replace KS := hK KS hb5
      clear yS_0 yS_1 yS_2 yS_3 yS_4 yS_5 yS_6 yS_z yS_f0 yS_f1 yS_f2 yS_f3 yS_f4 yS_f5 yS_f6
      clear hb5
      obtain ⟨yZ_0, yZ_1, yZ_2, yZ_3, yZ_4, yZ_5, yZ_6, yZ_z, yZ_f0, yZ_f1, yZ_f2, yZ_f3, yZ_f4, yZ_f5, yZ_f6⟩ := blf7 KZ
      obtain ⟨yS_0, yS_1, yS_2, yS_3, yS_4, yS_5, yS_6, yS_z, yS_f0, yS_f1, yS_f2, yS_f3, yS_f4, yS_f5, yS_f6⟩ := blf7 KS
      go_wp2
      have hs := st2 w5 bS 5 (.int .i64 0) 6 (.int .i64 uy)
      replace KZ := oB hs KZ (by omega)
      replace KN := oB hs KN (by omega)
      replace KS := Lib.hid (blk_set (blk_set KS.out (j := 5) (by simp) (.int .i64 0)) (j := 6) (by simp) (.int .i64 uy))
      replace HB := oH hs HB (by omega)
      clear hs
      clear yZ_0 yZ_1 yZ_2 yZ_3 yZ_4 yZ_5 yZ_6 yZ_z yZ_f0 yZ_f1 yZ_f2 yZ_f3 yZ_f4 yZ_f5 yZ_f6 yS_0 yS_1 yS_2 yS_3 yS_4 yS_5 yS_6 yS_z yS_f0 yS_f1 yS_f2 yS_f3 yS_f4 yS_f5 yS_f6
      generalize (w5.setCell ⟨bS, 5, none⟩ (.int .i64 0)).setCell ⟨bS, 6, none⟩ (.int .i64 uy) = w6 at *
      simp only [List.set] at KS
      have hs := st7 w6 w.heap.size 0 (.int .i64 0) 1 (.int .u64 0) 2 (.int .i64 0) 3 (.int .u64 0) 4 (.int .i64 0) 5 (.int .i64 0) 6 (.int .i64 0)
      replace KZ := Lib.hid (blk_set (blk_set (blk_set (blk_set (blk_set (blk_set (blk_set KZ.out (j := 0) (by simp) (.int .i64 0)) (j := 1) (by simp) (.int .u64 0)) (j := 2) (by simp) (.int .i64 0)) (j := 3) (by simp) (.int .u64 0)) (j := 4) (by simp) (.int .i64 0)) (j := 5) (by simp) (.int .i64 0)) (j := 6) (by simp) (.int .i64 0))
      replace KN := oB hs KN (by omega)
      replace KS := oB hs KS (by omega)
      replace HB := oH hs HB (by omega)
      clear hs
      generalize ((((((w6.setCell ⟨w.heap.size, 0, none⟩ (.int .i64 0)).setCell ⟨w.heap.size, 1, none⟩ (.int .u64 0)).setCell ⟨w.heap.size, 2, none⟩ (.int .i64 0)).setCell ⟨w.heap.size, 3, none⟩ (.int .u64 0)).setCell ⟨w.heap.size, 4, none⟩ (.int .i64 0)).setCell ⟨w.heap.size, 5, none⟩ (.int .i64 0)).setCell ⟨w.heap.size, 6, none⟩ (.int .i64 0) = w7 at *
      simp only [List.set] at KZ
      obtain ⟨yZ_0, yZ_1, yZ_2, yZ_3, yZ_4, yZ_5, yZ_6, yZ_z⟩ := blk7 KZ
      refine bodyPost_ret (v := .tuple #[.agg #[.int .i64 0, .int .u64 0, .int .i64 0, .int .u64 0, .int .i64 0, .int .i64 0, .int .i64 0], .int .i64 2]) (by simp [results, Tryz.results96, go_sem, yZ_0, yZ_1, yZ_2, yZ_3, yZ_4, yZ_5, yZ_6]) rfl ⟨by rw [HE.out], HB.out⟩
set_option maxHeartbeats 40000000 in
set_option maxRecDepth 100000 in
theorem sol_ok (l : List Ms) (v : Value) (w : World) (h : LstAt l v w) (hs : solE l = 0) :
    Calls Tryz.prog 96 #[v] w fun e w' => e = .returned (.tuple #[.agg #[.int .i64 (hiW (solX l)), .int .u64 (loW (solX l)), .int .i64 (hiW (solY l)), .int .u64 (loW (solY l)), .int .i64 (detN l), .int .i64 (cenX l), .int .i64 (cenY l)], .int .i64 0]) ∧ Below w.heap.size w w' := by
  have hc := (sol_chk hs).1
  obtain ⟨p, cap, rfl⟩ := lst_form h
  have OL := Lib.hid (okL_of hc)
  obtain ⟨⟨a0, a1⟩, ⟨b0, b1⟩, ⟨c0, c1⟩, ⟨d0, d1⟩, ⟨e0, e1⟩⟩ := nrm_bd OL.out
  obtain ⟨⟨dt0, dt1⟩, ⟨sx0, sx1⟩, ⟨sy0, sy1⟩⟩ := sol_bd (nrm_bd OL.out)
  have NO := Lib.hid fun w h => normal_any l (.slice p l.length cap) w h hc
  have P1 := mulb (X := 16777216) (Y := 16777216) (by omega) a0 a1 c0 c1
  have P2 := mulb (X := 16777216) (Y := 16777216) (by omega) b0 b1 b0 b1
  have LX := Lib.hid fun w => lsq_less (nYY l) (nXZ l) (nXY l) (nYZ l) w ⟨by omega, by omega⟩ ⟨by omega, by omega⟩ ⟨by omega, by omega⟩ ⟨by omega, by omega⟩ (show FitW (solX l) from ⟨by omega, by omega⟩)
  have LY := Lib.hid fun w => lsq_less (nXX l) (nYZ l) (nXY l) (nXZ l) w ⟨by omega, by omega⟩ ⟨by omega, by omega⟩ ⟨by omega, by omega⟩ ⟨by omega, by omega⟩ (show FitW (solY l) from ⟨by omega, by omega⟩)
  have q1 : IntKind.i64.wrap (nXX l * nYY l) = nXX l * nYY l := IntWalk.i64_in _ (by omega)
  have q2 : IntKind.i64.wrap (nXY l * nXY l) = nXY l * nXY l := IntWalk.i64_in _ (by omega)
  have q3 : IntKind.i64.wrap (nXX l * nYY l - nXY l * nXY l) = detN l := IntWalk.i64_in _ (by unfold detN at dt0 dt1; omega)
  have HX : Hid (solX l = nYY l * nXZ l - nXY l * nYZ l) := Lib.hid rfl
  have HY : Hid (solY l = nXX l * nYZ l - nXY l * nXZ l) := Lib.hid rfl
  rw [← HX.out] at LX
  rw [← HY.out] at LY
  have NX := Lib.hid fun (hd : 0 < detN l) w => nearest_any (solX l) (detN l) w (by omega) (by omega) hd (by omega)
  have NY := Lib.hid fun (hd : 0 < detN l) w => nearest_any (solY l) (detN l) w (by omega) (by omega) hd (by omega)
  have VP := Lib.hid fun w => vldP_any (cenX l) (cenY l) w
  have E0 : solE l = if detN l = 0 then 14 else if (pOk (cenX l) && pOk (cenY l)) = true then 0 else 2 := by unfold solE; rw [if_pos hc]
  have HDP : detN l ≠ 0 → 0 < detN l := fun q => by have := det_nonneg l (chk_w hc); omega
  rw [show nearI2 (solX l) (detN l) = cenX l from rfl] at NX
  rw [show nearI2 (solY l) (detN l) = cenY l from rfl] at NY
  clear hc a0 a1 b0 b1 c0 c1 d0 d1 e0 e1 dt0 dt1 sx0 sx1 sy0 sy1 P1 P2 HX HY
  obtain ⟨A, EA⟩ : ∃ x, nXX l = x := ⟨_, rfl⟩
  obtain ⟨B, EB⟩ : ∃ x, nXY l = x := ⟨_, rfl⟩
  obtain ⟨C, EC⟩ : ∃ x, nYY l = x := ⟨_, rfl⟩
  obtain ⟨D, ED⟩ : ∃ x, nXZ l = x := ⟨_, rfl⟩
  obtain ⟨E, EE⟩ : ∃ x, nYZ l = x := ⟨_, rfl⟩
  obtain ⟨X, EX⟩ : ∃ x, solX l = x := ⟨_, rfl⟩
  obtain ⟨Y, EY⟩ : ∃ x, solY l = x := ⟨_, rfl⟩
  obtain ⟨T, ET⟩ : ∃ x, detN l = x := ⟨_, rfl⟩
  rw [EA, EB, EC, ED, EE] at NO
  rw [EC, ED, EB, EE, EX] at LX
  rw [EA, EE, EB, ED, EY] at LY
  rw [EA, EC] at q1
  rw [EB] at q2
  rw [EA, EB, EC, ET] at q3
  rw [ET, EX] at NX
  rw [ET, EY] at NY
  rw [ET] at E0 HDP
  have HX := Lib.hid EX
  have HY := Lib.hid EY
  have HT := Lib.hid ET
  clear EA EB EC ED EE EX EY ET
  obtain ⟨cx, hcx⟩ : ∃ x, cenX l = x := ⟨_, rfl⟩
  obtain ⟨cy, hcy⟩ : ∃ x, cenY l = x := ⟨_, rfl⟩
  rw [hcx] at NX
  rw [hcy] at NY
  rw [hcx, hcy] at VP E0
  have HCX := Lib.hid hcx
  have HCY := Lib.hid hcy
  clear hcx hcy
  have PV : (pOk cx && pOk cy) = vldP cx cy := by unfold pOk vldP; rw [Bool.eq_iff_iff]; simp only [Bool.and_eq_true, decide_eq_true_eq]; omega
  have PI : vldP cx cy = true → I64 cx ∧ I64 cy := fun h => by have := vldP_iff.1 h; exact ⟨⟨by omega, by omega⟩, by omega, by omega⟩
  rw [PV] at E0
  clear PV
  unfold wv at LX LY NX NY
  rw [hs] at E0
  clear hs
  have ht : T ≠ 0 := fun q => by rw [if_pos q] at E0; cases E0
  have hv : vldP cx cy = true := by
    rw [if_neg ht] at E0
    cases hv : vldP cx cy with
    | true => rfl
    | false => rw [hv, if_neg (by simp)] at E0; cases E0
  have g : (T == 0) = false := by simpa using ht
  have NX := Lib.hid (NX.out (HDP ht))
  have NY := Lib.hid (NY.out (HDP ht))
  obtain ⟨ix, iy⟩ := PI hv
  rw [if_pos ix, decide_eq_true ix] at NX
  rw [if_pos iy, decide_eq_true iy] at NY
  rw [hv] at VP
  clear E0 HDP PI ht hv ix iy
  have H0 := Lib.hid h
  obtain ⟨KZ, HB⟩ := ent1 w #[.int .i64 0, .int .u64 0, .int .i64 0, .int .u64 0, .int .i64 0, .int .i64 0, .int .i64 0] 114
  go_enter Tryz.func96, Tryz.ntmps96
  clear h
  go_wp2_with fail
  generalize w.alloc (.cells #[.int .i64 0, .int .u64 0, .int .i64 0, .int .u64 0, .int .i64 0, .int .i64 0, .int .i64 0] 114) = w0 at *
  refine (NO.out _ (H0.out.below HB.out)).mono ?_
  rintro e1 w1 ⟨rfl, hb1⟩
  replace HB := hT HB hb1
  replace KZ := hK KZ hb1
  clear hb1
  go_wp2_with fail
  obtain ⟨KN, hb2⟩ := alB w1 #[.int .i64 A, .int .i64 B, .int .i64 C, .int .i64 D, .int .i64 E] 160
  have hnN := HB.out.size
  have nzN_Z := KZ.out.lt
  replace HB := hT HB hb2
  replace KZ := hK KZ hb2
  clear hb2
  generalize w1.alloc (.cells #[.int .i64 A, .int .i64 B, .int .i64 C, .int .i64 D, .int .i64 E] 160) = w2 at *
  generalize w1.heap.size = bN at *
  have neN_Z : bN ≠ w.heap.size := by omega
  clear nzN_Z
  have BD := Lib.hid (show Below w2.heap.size w2 w2.drew from ⟨rfl, rfl, rfl, Nat.le_refl _, fun _ _ => rfl⟩)
  have BD2 := Lib.hid (below_drew_alloc w2 (.cells #[.int .i64 0, .int .u64 0, .int .i64 0, .int .u64 0, .int .i64 0, .int .i64 0, .int .i64 0] 114))
  have DLX := Lib.hid fun W (h : Below w2.heap.size w2 W) => (LX.out W).mono fun e w' ⟨h1, h2⟩ => show _ ∧ Below w2.heap.size w2 w' ∧ Below W.heap.size W w' from ⟨h1, h.trans (h2.mono h.size), h2⟩
  have DLY := Lib.hid fun W (h : Below w2.heap.size w2 W) => (LY.out W).mono fun e w' ⟨h1, h2⟩ => show _ ∧ Below w2.heap.size w2 w' ∧ Below W.heap.size W w' from ⟨h1, h.trans (h2.mono h.size), h2⟩
  obtain ⟨yN_0, yN_1, yN_2, yN_3, yN_4, yN_z⟩ := blk5 KN
  apply wp_join (R := fun b w' => w.heap.size ≤ b ∧ b ≠ w.heap.size ∧ b ≠ bN ∧ Hid (Below w.heap.size w w') ∧ Hid (Blk [.int .i64 (hiW X), .int .u64 (loW X), .int .i64 (hiW Y), .int .u64 (loW Y), .int .i64 T, .int .i64 0, .int .i64 0] b w') ∧ Hid (Blk [.int .i64 0, .int .u64 0, .int .i64 0, .int .u64 0, .int .i64 0, .int .i64 0, .int .i64 0] w.heap.size w') ∧ Hid (Blk [.int .i64 A, .int .i64 B, .int .i64 C, .int .i64 D, .int .i64 E] bN w'))
  · go_region_held3 (fun w' => w'.cell? ⟨bN, 0, none⟩ = some (.int .i64 A) ∧ w'.cell? ⟨bN, 1, none⟩ = some (.int .i64 B) ∧ w'.cell? ⟨bN, 2, none⟩ = some (.int .i64 C) ∧ w'.cell? ⟨bN, 3, none⟩ = some (.int .i64 D) ∧ w'.cell? ⟨bN, 4, none⟩ = some (.int .i64 E)) (first | (refine ⟨?_, ?_, ?_, ?_, ?_⟩ <;> first | with_reducible assumption | (rw [far7 KV.out.1 yN_z]; with_reducible assumption)) | go_keep)
      (first
        | (go_at_call 141; with_reducible refine Calls.mono (DLX.out _ (by first | with_reducible exact BD.out | with_reducible exact BD2.out | with_reducible exact HX.out | with_reducible exact HX.out.alloc HX.out.size _)) ?_; rintro e9 w9 ⟨rfl, hb9, hc9⟩; have pN := KN.out.below hb9; have qN0 := pN.c 0 _ rfl; have qN1 := pN.c 1 _ rfl; have qN2 := pN.c 2 _ rfl; have qN3 := pN.c 3 _ rfl; have qN4 := pN.c 4 _ rfl; clear pN; (first | (with_reducible have KV := Lib.hid (kv_drew (vs := #[.int .i64 0, .int .u64 0, .int .i64 0, .int .u64 0, .int .i64 0, .int .i64 0, .int .i64 0]) (t := 114) hc9); have pV := KV.out.2; have v0 := pV.c 0 _ rfl; have vf0 := pV.f 0 _ rfl; have v1 := pV.c 1 _ rfl; have vf1 := pV.f 1 _ rfl; have v2 := pV.c 2 _ rfl; have vf2 := pV.f 2 _ rfl; have v3 := pV.c 3 _ rfl; have vf3 := pV.f 3 _ rfl; have v4 := pV.c 4 _ rfl; have vf4 := pV.f 4 _ rfl; have v5 := pV.c 5 _ rfl; have vf5 := pV.f 5 _ rfl; have v6 := pV.c 6 _ rfl; have vf6 := pV.f 6 _ rfl; have v9 := pV.lt; clear pV) | (with_reducible have KV := Lib.hid (kv_new (vs := #[.int .i64 0, .int .u64 0, .int .i64 0, .int .u64 0, .int .i64 0, .int .i64 0, .int .i64 0]) (t := 114) HX.out hc9); have pV := KV.out.2; have v0 := pV.c 0 _ rfl; have vf0 := pV.f 0 _ rfl; have v1 := pV.c 1 _ rfl; have vf1 := pV.f 1 _ rfl; have v2 := pV.c 2 _ rfl; have vf2 := pV.f 2 _ rfl; have v3 := pV.c 3 _ rfl; have vf3 := pV.f 3 _ rfl; have v4 := pV.c 4 _ rfl; have vf4 := pV.f 4 _ rfl; have v5 := pV.c 5 _ rfl; have vf5 := pV.f 5 _ rfl; have v6 := pV.c 6 _ rfl; have vf6 := pV.f 6 _ rfl; have v9 := pV.lt; clear pV) | (with_reducible have KV := Lib.hid (kv_old KV.out hc9); have pV := KV.out.2; have v0 := pV.c 0 _ rfl; have vf0 := pV.f 0 _ rfl; have v1 := pV.c 1 _ rfl; have vf1 := pV.f 1 _ rfl; have v2 := pV.c 2 _ rfl; have vf2 := pV.f 2 _ rfl; have v3 := pV.c 3 _ rfl; have vf3 := pV.f 3 _ rfl; have v4 := pV.c 4 _ rfl; have vf4 := pV.f 4 _ rfl; have v5 := pV.c 5 _ rfl; have vf5 := pV.f 5 _ rfl; have v6 := pV.c 6 _ rfl; have vf6 := pV.f 6 _ rfl; have v9 := pV.lt; clear pV) | skip); have HX := Lib.hid hb9; clear hb9 hc9)
        | (go_at_call 141; with_reducible refine Calls.mono (DLY.out _ (by first | with_reducible exact BD.out | with_reducible exact BD2.out | with_reducible exact HX.out | with_reducible exact HX.out.alloc HX.out.size _)) ?_; rintro e9 w9 ⟨rfl, hb9, hc9⟩; have pN := KN.out.below hb9; have qN0 := pN.c 0 _ rfl; have qN1 := pN.c 1 _ rfl; have qN2 := pN.c 2 _ rfl; have qN3 := pN.c 3 _ rfl; have qN4 := pN.c 4 _ rfl; clear pN; (first | (with_reducible have KV := Lib.hid (kv_drew (vs := #[.int .i64 0, .int .u64 0, .int .i64 0, .int .u64 0, .int .i64 0, .int .i64 0, .int .i64 0]) (t := 114) hc9); have pV := KV.out.2; have v0 := pV.c 0 _ rfl; have vf0 := pV.f 0 _ rfl; have v1 := pV.c 1 _ rfl; have vf1 := pV.f 1 _ rfl; have v2 := pV.c 2 _ rfl; have vf2 := pV.f 2 _ rfl; have v3 := pV.c 3 _ rfl; have vf3 := pV.f 3 _ rfl; have v4 := pV.c 4 _ rfl; have vf4 := pV.f 4 _ rfl; have v5 := pV.c 5 _ rfl; have vf5 := pV.f 5 _ rfl; have v6 := pV.c 6 _ rfl; have vf6 := pV.f 6 _ rfl; have v9 := pV.lt; clear pV) | (with_reducible have KV := Lib.hid (kv_new (vs := #[.int .i64 0, .int .u64 0, .int .i64 0, .int .u64 0, .int .i64 0, .int .i64 0, .int .i64 0]) (t := 114) HX.out hc9); have pV := KV.out.2; have v0 := pV.c 0 _ rfl; have vf0 := pV.f 0 _ rfl; have v1 := pV.c 1 _ rfl; have vf1 := pV.f 1 _ rfl; have v2 := pV.c 2 _ rfl; have vf2 := pV.f 2 _ rfl; have v3 := pV.c 3 _ rfl; have vf3 := pV.f 3 _ rfl; have v4 := pV.c 4 _ rfl; have vf4 := pV.f 4 _ rfl; have v5 := pV.c 5 _ rfl; have vf5 := pV.f 5 _ rfl; have v6 := pV.c 6 _ rfl; have vf6 := pV.f 6 _ rfl; have v9 := pV.lt; clear pV) | (with_reducible have KV := Lib.hid (kv_old KV.out hc9); have pV := KV.out.2; have v0 := pV.c 0 _ rfl; have vf0 := pV.f 0 _ rfl; have v1 := pV.c 1 _ rfl; have vf1 := pV.f 1 _ rfl; have v2 := pV.c 2 _ rfl; have vf2 := pV.f 2 _ rfl; have v3 := pV.c 3 _ rfl; have vf3 := pV.f 3 _ rfl; have v4 := pV.c 4 _ rfl; have vf4 := pV.f 4 _ rfl; have v5 := pV.c 5 _ rfl; have vf5 := pV.f 5 _ rfl; have v6 := pV.c 6 _ rfl; have vf6 := pV.f 6 _ rfl; have v9 := pV.lt; clear pV) | skip); have HX := Lib.hid hb9; clear hb9 hc9))
    all_goals
      first
        | (have FN := kv_set7 (.int .i64 (hiW X)) (.int .u64 (loW X)) (.int .i64 (hiW Y)) (.int .u64 (loW Y)) (.int .i64 T) (.int .i64 0) (.int .i64 0) KV.out HX.out; have FB := Lib.hid FN.1; have KS := Lib.hid FN.2.1; have n0S := FN.2.2; clear FN; generalize World.setCell (World.setCell (World.setCell (World.setCell (World.setCell (World.setCell (World.setCell _ _ (.int .i64 (hiW X))) _ (.int .u64 (loW X))) _ (.int .i64 (hiW Y))) _ (.int .u64 (loW Y))) _ (.int .i64 T)) _ (.int .i64 0)) _ (.int .i64 0) = w3 at *)
        | (have FN := kv_putn (vs := #[.int .i64 (hiW X), .int .u64 (loW X), .int .i64 (hiW Y), .int .u64 (loW Y), .int .i64 T, .int .i64 0, .int .i64 0]) (t := 114) HX.out; have FB := Lib.hid FN.1; have KS := Lib.hid FN.2.1; have n0S := FN.2.2; clear FN; generalize (World.alloc _ (.cells #[.int .i64 (hiW X), .int .u64 (loW X), .int .i64 (hiW Y), .int .u64 (loW Y), .int .i64 T, .int .i64 0, .int .i64 0] 114)) = w3 at *)
      have nS := Nat.le_trans HB.out.size n0S
      have neS_Z := Nat.ne_of_gt (Nat.lt_of_lt_of_le KZ.out.lt n0S)
      have neS_N := Nat.ne_of_gt (Nat.lt_of_lt_of_le KN.out.lt n0S)
      replace HB := Lib.hid (HB.out.trans (FB.out.mono HB.out.size))
      replace KZ := Lib.hid (KZ.out.below FB.out)
      replace KN := Lib.hid (KN.out.below FB.out)
      obtain ⟨bS, hbS⟩ := ex_blk KS
      rw [← hbS] at KS nS neS_Z neS_N ⊢
      refine OnlyN.mk ⟨bS, rfl, ?_⟩
      with_reducible exact ⟨nS, neS_Z, neS_N, HB, KS, KZ, KN⟩
  clear BD BD2 DLX DLY yN_0 yN_1 yN_2 yN_3 yN_4 yN_z
  rintro bS w3 ⟨nS, neS_Z, neS_N, HB2, KS, KZ2, KN2⟩
  replace HB := HB2
  clear HB2
  replace KZ := KZ2
  clear KZ2
  replace KN := KN2
  clear KN2
  clear LX LY NO q1 q2 q3
  obtain ⟨yZ_0, yZ_1, yZ_2, yZ_3, yZ_4, yZ_5, yZ_6, yZ_z, yZ_f0, yZ_f1, yZ_f2, yZ_f3, yZ_f4, yZ_f5, yZ_f6⟩ := blf7 KZ
  obtain ⟨yS_0, yS_1, yS_2, yS_3, yS_4, yS_5, yS_6, yS_z, yS_f0, yS_f1, yS_f2, yS_f3, yS_f4, yS_f5, yS_f6⟩ := blf7 KS
  go_wp2_with fail
  refine (NX.out _).mono ?_
  rintro e4 w4 ⟨rfl, hb4⟩
  replace HB := hT HB hb4
  replace KZ := hK KZ hb4
  replace KN := hK KN hb4
  replace KS := hK KS hb4
  clear yZ_0 yZ_1 yZ_2 yZ_3 yZ_4 yZ_5 yZ_6 yZ_z yZ_f0 yZ_f1 yZ_f2 yZ_f3 yZ_f4 yZ_f5 yZ_f6 yS_0 yS_1 yS_2 yS_3 yS_4 yS_5 yS_6 yS_z yS_f0 yS_f1 yS_f2 yS_f3 yS_f4 yS_f5 yS_f6
  clear hb4
  obtain ⟨yS_0, yS_1, yS_2, yS_3, yS_4, yS_5, yS_6, yS_z, yS_f0, yS_f1, yS_f2, yS_f3, yS_f4, yS_f5, yS_f6⟩ := blf7 KS
  go_wp2_with fail
  refine (NY.out _).mono ?_
  rintro e5 w5 ⟨rfl, hb5⟩
  replace HB := hT HB hb5
  replace KZ := hK KZ hb5
  replace KN := hK KN hb5
  replace KS := hK KS hb5
  clear yS_0 yS_1 yS_2 yS_3 yS_4 yS_5 yS_6 yS_z yS_f0 yS_f1 yS_f2 yS_f3 yS_f4 yS_f5 yS_f6
  clear hb5
  obtain ⟨yZ_0, yZ_1, yZ_2, yZ_3, yZ_4, yZ_5, yZ_6, yZ_z, yZ_f0, yZ_f1, yZ_f2, yZ_f3, yZ_f4, yZ_f5, yZ_f6⟩ := blf7 KZ
  obtain ⟨yS_0, yS_1, yS_2, yS_3, yS_4, yS_5, yS_6, yS_z, yS_f0, yS_f1, yS_f2, yS_f3, yS_f4, yS_f5, yS_f6⟩ := blf7 KS
  go_wp2_with fail
  have hs := st2 w5 bS 5 (.int .i64 cx) 6 (.int .i64 cy)
  replace KZ := oB hs KZ (by omega)
  replace KN := oB hs KN (by omega)
  replace KS := Lib.hid (blk_set (blk_set KS.out (j := 5) (by simp) (.int .i64 cx)) (j := 6) (by simp) (.int .i64 cy))
  replace HB := oH hs HB (by omega)
  clear hs
  clear yZ_0 yZ_1 yZ_2 yZ_3 yZ_4 yZ_5 yZ_6 yZ_z yZ_f0 yZ_f1 yZ_f2 yZ_f3 yZ_f4 yZ_f5 yZ_f6 yS_0 yS_1 yS_2 yS_3 yS_4 yS_5 yS_6 yS_z yS_f0 yS_f1 yS_f2 yS_f3 yS_f4 yS_f5 yS_f6
  generalize (w5.setCell ⟨bS, 5, none⟩ (.int .i64 cx)).setCell ⟨bS, 6, none⟩ (.int .i64 cy) = w6 at *
  simp only [List.set] at KS
  refine (VP.out _).mono ?_
  rintro e7 w7 ⟨rfl, hb7⟩
  replace HB := hT HB hb7
  replace KZ := hK KZ hb7
  replace KN := hK KN hb7
  replace KS := hK KS hb7
  clear hb7
  obtain ⟨yZ_0, yZ_1, yZ_2, yZ_3, yZ_4, yZ_5, yZ_6, yZ_z, yZ_f0, yZ_f1, yZ_f2, yZ_f3, yZ_f4, yZ_f5, yZ_f6⟩ := blf7 KZ
  obtain ⟨yS_0, yS_1, yS_2, yS_3, yS_4, yS_5, yS_6, yS_z, yS_f0, yS_f1, yS_f2, yS_f3, yS_f4, yS_f5, yS_f6⟩ := blf7 KS
  go_wp2
  have hs := st7 w7 w.heap.size 0 (.int .i64 (hiW X)) 1 (.int .u64 (loW X)) 2 (.int .i64 (hiW Y)) 3 (.int .u64 (loW Y)) 4 (.int .i64 T) 5 (.int .i64 cx) 6 (.int .i64 cy)
  replace KZ := Lib.hid (blk_set (blk_set (blk_set (blk_set (blk_set (blk_set (blk_set KZ.out (j := 0) (by simp) (.int .i64 (hiW X))) (j := 1) (by simp) (.int .u64 (loW X))) (j := 2) (by simp) (.int .i64 (hiW Y))) (j := 3) (by simp) (.int .u64 (loW Y))) (j := 4) (by simp) (.int .i64 T)) (j := 5) (by simp) (.int .i64 cx)) (j := 6) (by simp) (.int .i64 cy))
  replace KN := oB hs KN (by omega)
  replace KS := oB hs KS (by omega)
  replace HB := oH hs HB (by omega)
  clear hs
  clear yZ_0 yZ_1 yZ_2 yZ_3 yZ_4 yZ_5 yZ_6 yZ_z yZ_f0 yZ_f1 yZ_f2 yZ_f3 yZ_f4 yZ_f5 yZ_f6 yS_0 yS_1 yS_2 yS_3 yS_4 yS_5 yS_6 yS_z yS_f0 yS_f1 yS_f2 yS_f3 yS_f4 yS_f5 yS_f6
  generalize ((((((w7.setCell ⟨w.heap.size, 0, none⟩ (.int .i64 (hiW X))).setCell ⟨w.heap.size, 1, none⟩ (.int .u64 (loW X))).setCell ⟨w.heap.size, 2, none⟩ (.int .i64 (hiW Y))).setCell ⟨w.heap.size, 3, none⟩ (.int .u64 (loW Y))).setCell ⟨w.heap.size, 4, none⟩ (.int .i64 T)).setCell ⟨w.heap.size, 5, none⟩ (.int .i64 cx)).setCell ⟨w.heap.size, 6, none⟩ (.int .i64 cy) = w8 at *
  simp only [List.set] at KZ
  obtain ⟨yZ_0, yZ_1, yZ_2, yZ_3, yZ_4, yZ_5, yZ_6, yZ_z⟩ := blk7 KZ
  refine bodyPost_ret (v := .tuple #[.agg #[.int .i64 (hiW X), .int .u64 (loW X), .int .i64 (hiW Y), .int .u64 (loW Y), .int .i64 T, .int .i64 cx, .int .i64 cy], .int .i64 0]) (by simp [results, Tryz.results96, go_sem, yZ_0, yZ_1, yZ_2, yZ_3, yZ_4, yZ_5, yZ_6]) rfl ⟨by rw [HX.out, HY.out, HT.out, HCX.out, HCY.out], HB.out⟩
set_option maxHeartbeats 8000000 in
set_option maxRecDepth 100000 in
theorem sol_bad (l : List Ms) (v : Value) (w : World) (h : LstAt l v w) (hs : solE l ≠ 0) :
    Calls Tryz.prog 96 #[v] w fun e w' => e = .returned (.tuple #[.agg #[.int .i64 0, .int .u64 0, .int .i64 0, .int .u64 0, .int .i64 0, .int .i64 0, .int .i64 0], .int .i64 (solE l)]) ∧ Below w.heap.size w w' := by
  by_cases hc : chkL l = 0
  · exact sol_bad0 l v w h hc hs
  · rw [chk_sol hc]
    clear hs
    obtain ⟨p, cap, rfl⟩ := lst_form h
    have NO := Lib.hid fun w h => normal_bad l (.slice p l.length cap) w h hc
    have g : (chkL l != 0) = true := by simpa using hc
    have g' : (chkL l == 0) = false := by simpa using hc
    clear hc
    generalize chkL l = c at *
    have H0 := Lib.hid h
    obtain ⟨KZ, HB⟩ := ent1 w #[.int .i64 0, .int .u64 0, .int .i64 0, .int .u64 0, .int .i64 0, .int .i64 0, .int .i64 0] 114
    go_enter Tryz.func96, Tryz.ntmps96
    clear h
    go_wp2_with fail
    generalize w.alloc (.cells #[.int .i64 0, .int .u64 0, .int .i64 0, .int .u64 0, .int .i64 0, .int .i64 0, .int .i64 0] 114) = w0 at *
    refine (NO.out _ (H0.out.below HB.out)).mono ?_
    rintro e1 w1 ⟨rfl, hb1⟩
    replace HB := hT HB hb1
    replace KZ := hK KZ hb1
    clear hb1
    obtain ⟨yZ_0, yZ_1, yZ_2, yZ_3, yZ_4, yZ_5, yZ_6, yZ_z, yZ_f0, yZ_f1, yZ_f2, yZ_f3, yZ_f4, yZ_f5, yZ_f6⟩ := blf7 KZ
    go_wp2
    have hs := st7 w1 w.heap.size 0 (.int .i64 0) 1 (.int .u64 0) 2 (.int .i64 0) 3 (.int .u64 0) 4 (.int .i64 0) 5 (.int .i64 0) 6 (.int .i64 0)
    replace KZ := Lib.hid (blk_set (blk_set (blk_set (blk_set (blk_set (blk_set (blk_set KZ.out (j := 0) (by simp) (.int .i64 0)) (j := 1) (by simp) (.int .u64 0)) (j := 2) (by simp) (.int .i64 0)) (j := 3) (by simp) (.int .u64 0)) (j := 4) (by simp) (.int .i64 0)) (j := 5) (by simp) (.int .i64 0)) (j := 6) (by simp) (.int .i64 0))
    replace HB := oH hs HB (by omega)
    clear hs
    clear yZ_0 yZ_1 yZ_2 yZ_3 yZ_4 yZ_5 yZ_6 yZ_z yZ_f0 yZ_f1 yZ_f2 yZ_f3 yZ_f4 yZ_f5 yZ_f6
    generalize ((((((w1.setCell ⟨w.heap.size, 0, none⟩ (.int .i64 0)).setCell ⟨w.heap.size, 1, none⟩ (.int .u64 0)).setCell ⟨w.heap.size, 2, none⟩ (.int .i64 0)).setCell ⟨w.heap.size, 3, none⟩ (.int .u64 0)).setCell ⟨w.heap.size, 4, none⟩ (.int .i64 0)).setCell ⟨w.heap.size, 5, none⟩ (.int .i64 0)).setCell ⟨w.heap.size, 6, none⟩ (.int .i64 0) = w2 at *
    simp only [List.set] at KZ
    obtain ⟨KN, hb3⟩ := alB w2 #[.int .i64 0, .int .i64 0, .int .i64 0, .int .i64 0, .int .i64 0] 160
    have hnN := HB.out.size
    have nzN_Z := KZ.out.lt
    replace HB := hT HB hb3
    replace KZ := hK KZ hb3
    clear hb3
    generalize w2.alloc (.cells #[.int .i64 0, .int .i64 0, .int .i64 0, .int .i64 0, .int .i64 0] 160) = w3 at *
    generalize w2.heap.size = bN at *
    have neN_Z : bN ≠ w.heap.size := by omega
    clear nzN_Z
    obtain ⟨yZ_0, yZ_1, yZ_2, yZ_3, yZ_4, yZ_5, yZ_6, yZ_z⟩ := blk7 KZ
    refine bodyPost_ret (v := .tuple #[.agg #[.int .i64 0, .int .u64 0, .int .i64 0, .int .u64 0, .int .i64 0, .int .i64 0, .int .i64 0], .int .i64 c]) (by simp [results, Tryz.results96, go_sem, yZ_0, yZ_1, yZ_2, yZ_3, yZ_4, yZ_5, yZ_6]) rfl ⟨rfl, HB.out⟩
end Go.Proofs.YtajmjkliblippaaGreatDoor
namespace Go.Proofs.YtajmjkliblippaaGreatDoor
set_option linter.unusedVariables false
open Go.RowKit
theorem pOk_iff {v : Int} : pOk v = true ↔ -2000000 ≤ v ∧ v ≤ 2000000 := by unfold pOk; rw [decide_eq_true_iff]
theorem det_pos {l : List Ms} (h : chkL l = 0) (hd : detN l ≠ 0) : 0 < detN l := by have := det_nonneg l (chk_w h); omega
theorem reachB_of {l : List Ms} (h : OkL l) (hd : 0 < detN l) {cx cy : Int} (h0 : pOk cx = true) (h1 : pOk cy = true) : ReachB cx cy (solX l) (solY l) (noiX l) (noiY l) (detN l) := by
  have a := pOk_iff.1 h0
  have b := pOk_iff.1 h1
  have s := sol_bd (nrm_bd h)
  have n := noi_bd h
  exact ⟨⟨a.1, a.2, b.1, b.2⟩, s.x, s.y, n.1, n.2, hd, s.det.2⟩
/-- reach of a list -/
theorem reachL_any {l : List Ms} (h : OkL l) (hd : 0 < detN l) {cx cy : Int} (h0 : pOk cx = true) (h1 : pOk cy = true) (w : World) :
    Calls Tryz.prog 98 #[.agg #[.int .i64 cx, .int .i64 cy], .agg #[.int .i64 (hiW (solX l)), .int .u64 (loW (solX l)), .int .i64 (hiW (solY l)), .int .u64 (loW (solY l)), .int .i64 (hiW (noiX l)), .int .u64 (loW (noiX l)), .int .i64 (hiW (noiY l)), .int .u64 (loW (noiY l)), .int .i64 ((detN l))]] w fun e w' => e = .returned (.tuple #[.int .i64 (reachF cx cy l).1.1, .int .i64 (reachF cx cy l).1.2, .int .i64 (reachF cx cy l).2]) ∧ Below w.heap.size w w' :=
  reach_any cx cy (solX l) (solY l) (noiX l) (noiY l) (detN l) w (reachB_of h hd h0 h1)
theorem pair_bad (x y d : Int) : (pairF x y d).2 = 0 ∨ pairF x y d = ((0, 0), 2) := by unfold pairF; split; exact .inl rfl; exact .inr rfl
theorem reach_bad (cx cy : Int) (l : List Ms) : (reachF cx cy l).2 = 0 ∨ reachF cx cy l = ((0, 0), 2) := pair_bad _ _ _
def boxV (b : BoxI) : Value := .agg #[.int .i64 b.cx, .int .i64 b.cy, .int .i64 b.x, .int .i64 b.y]
end Go.Proofs.YtajmjkliblippaaGreatDoor
namespace Go.Proofs.YtajmjkliblippaaGreatDoor
set_option linter.unusedVariables false
structure Bx4 where
  cx : Int
  cy : Int
  x : Int
  y : Int
def bx0 : Bx4 := ⟨0, 0, 0, 0⟩
def bxV (b : Bx4) : Bool := decide ((-2000000 ≤ b.cx ∧ b.cx ≤ 2000000 ∧ -2000000 ≤ b.cy ∧ b.cy ≤ 2000000) ∧ (0 ≤ b.x ∧ b.x ≤ 2000000) ∧ 0 ≤ b.y ∧ b.y ≤ 2000000)
theorem bxV_iff {b : Bx4} : bxV b = true ↔ ((-2000000 ≤ b.cx ∧ b.cx ≤ 2000000 ∧ -2000000 ≤ b.cy ∧ b.cy ≤ 2000000) ∧ (0 ≤ b.x ∧ b.x ≤ 2000000) ∧ 0 ≤ b.y ∧ b.y ≤ 2000000) := by unfold bxV; rw [decide_eq_true_iff]
def rngC (ve vn dr tk : Int) : Bool := decide ((-2000 ≤ ve ∧ ve ≤ 2000) ∧ (-2000 ≤ vn ∧ vn ≤ 2000) ∧ (0 ≤ dr ∧ dr ≤ 1000) ∧ 0 ≤ tk ∧ tk ≤ 144000)
theorem rngC_iff {ve vn dr tk : Int} : rngC ve vn dr tk = true ↔ ((-2000 ≤ ve ∧ ve ≤ 2000) ∧ (-2000 ≤ vn ∧ vn ≤ 2000) ∧ (0 ≤ dr ∧ dr ≤ 1000) ∧ 0 ≤ tk ∧ tk ≤ 144000) := by unfold rngC; rw [decide_eq_true_iff]
def movB (b : Bx4) (ve vn dr tk : Int) : Bx4 := ⟨b.cx + ve * tk, b.cy + vn * tk, b.x + dr * tk, b.y + dr * tk⟩
/-- the box after some ticks, and the error -/
def cstF (b : Bx4) (ve vn dr tk : Int) : Bx4 × Int :=
  if bxV b = true then (if rngC ve vn dr tk = true then (if bxV (movB b ve vn dr tk) = true then (movB b ve vn dr tk, 0) else (bx0, 2)) else (bx0, 2)) else (bx0, 1)
theorem cst_val {b : Bx4} {ve vn dr tk : Int} (h : (cstF b ve vn dr tk).2 = 0) : bxV b = true ∧ rngC ve vn dr tk = true ∧ bxV (movB b ve vn dr tk) = true ∧ cstF b ve vn dr tk = (movB b ve vn dr tk, 0) := by
  unfold cstF at *
  split at h
  · rename_i h1
    split at h
    · rename_i h2
      split at h
      · rename_i h3
        exact ⟨h1, h2, h3, by rw [if_pos h1, if_pos h2, if_pos h3]⟩
      · cases h
    · cases h
  · cases h
theorem cst_bad {b : Bx4} {ve vn dr tk : Int} (h : (cstF b ve vn dr tk).2 ≠ 0) : (cstF b ve vn dr tk).1 = bx0 := by
  unfold cstF at *
  split
  · rename_i h1
    rw [if_pos h1] at h
    split
    · rename_i h2
      rw [if_pos h2] at h
      split
      · rename_i h3
        rw [if_pos h3] at h
        exact absurd rfl h
      · rfl
    · rfl
  · rfl
/-- the error of a state -/
def chkS (b : Bx4) (t m : Int) : Int := if bxV b = true then (if 0 ≤ t ∧ t ≤ 1099511627776 ∧ 0 ≤ m ∧ m ≤ 1000 then 0 else 2) else 1
theorem chkS_ok {b : Bx4} {t m : Int} (h : chkS b t m = 0) : bxV b = true ∧ (0 ≤ t ∧ t ≤ 1099511627776) ∧ 0 ≤ m ∧ m ≤ 1000 := by
  unfold chkS at h
  split at h
  · rename_i h1
    split at h
    · rename_i h2
      exact ⟨h1, ⟨h2.1, h2.2.1⟩, h2.2.2.1, h2.2.2.2⟩
    · cases h
  · cases h
/-- the point stays in the box -/
def inB (b : Bx4) (px py : Int) : Prop := (px - b.cx ≤ b.x ∧ b.cx - px ≤ b.x) ∧ py - b.cy ≤ b.y ∧ b.cy - py ≤ b.y
end Go.Proofs.YtajmjkliblippaaGreatDoor
namespace Go.Proofs.YtajmjkliblippaaGreatDoor
set_option linter.unusedVariables false
open Go.RowKit
def frm (x lo hi : Int) : Bool := decide (lo ≤ x) && decide (x ≤ hi)
theorem from_any (x lo hi : Int) (w : World) : Calls Tryz.prog 39 #[.int .i64 x, .int .i64 lo, .int .i64 hi] w fun e w' => e = .returned (.bool (frm x lo hi)) ∧ Below w.heap.size w w' := by
  have E : frm x lo hi = (decide (lo ≤ x) && decide (x ≤ hi)) := rfl
  generalize frm x lo hi = r at *
  cases h : decide (lo ≤ x) <;> cases h2 : decide (x ≤ hi) <;> rw [h, h2] at E <;> simp at E <;> subst E
  all_goals
    go_enter Tryz.func39, Tryz.ntmps39
    go_wp2
    go_ret
    exact ⟨rfl, Below.refl _ _⟩
set_option maxHeartbeats 8000000 in
set_option maxRecDepth 100000 in
theorem ival_any (b : Bx4) (w : World) : Calls Tryz.prog 30 #[.agg #[.int .i64 b.cx, .int .i64 b.cy, .int .i64 b.x, .int .i64 b.y]] w fun e w' => e = .returned (.bool (bxV b)) ∧ Below w.heap.size w w' := by
  have VI0 := fun w => S41.inside_any b.cx b.cy b.x b.y b.cx b.cy w
  have E : S41.insB b.cx b.cy b.x b.y b.cx b.cy = bxV b := by
    rw [Bool.eq_iff_iff, S41.insB_iff, bxV_iff, S41.boxV_iff]
    omega
  rw [E] at VI0
  have VI := Lib.hid VI0
  clear E VI0
  generalize bxV b = v at *
  obtain ⟨cx, cy, x, y⟩ := b
  simp only at VI
  obtain ⟨KB, HB⟩ := ent1 w #[.int .i64 cx, .int .i64 cy, .int .i64 x, .int .i64 y] 25
  go_enter Tryz.func30, Tryz.ntmps30
  go_wp2_with fail
  generalize w.alloc (.cells #[.int .i64 cx, .int .i64 cy, .int .i64 x, .int .i64 y] 25) = w0 at *
  refine (VI.out _).mono ?_
  rintro e1 w1 ⟨rfl, hb1⟩
  replace HB := hT HB hb1
  replace KB := hK KB hb1
  clear hb1
  go_wp2
  go_ret
  exact ⟨rfl, HB.out⟩
theorem rngC_is (ve vn dr tk : Int) : rngC ve vn dr tk = (frm ve (-2000) 2000 && frm vn (-2000) 2000 && frm dr 0 1000 && frm tk 0 144000) := by
  rw [Bool.eq_iff_iff, rngC_iff]
  unfold frm
  simp only [Bool.and_eq_true, decide_eq_true_iff]
  omega
set_option maxHeartbeats 40000000 in
set_option maxRecDepth 100000 in
theorem coast_any (b : Bx4) (ve vn dr tk : Int) (w : World) : Calls Tryz.prog 19 #[.agg #[.int .i64 b.cx, .int .i64 b.cy, .int .i64 b.x, .int .i64 b.y], .agg #[.int .i64 ve, .int .i64 vn], .int .i64 dr, .int .i64 tk] w fun e w' => e = .returned (.tuple #[.agg #[.int .i64 (cstF b ve vn dr tk).1.cx, .int .i64 (cstF b ve vn dr tk).1.cy, .int .i64 (cstF b ve vn dr tk).1.x, .int .i64 (cstF b ve vn dr tk).1.y], .int .i64 (cstF b ve vn dr tk).2]) ∧ Below w.heap.size w w' := by
  have VA0 := fun w => ival_any b w
  have F0 := Lib.hid fun w => from_any ve (-2000) 2000 w
  have F1 := Lib.hid fun w => from_any vn (-2000) 2000 w
  have F2 := Lib.hid fun w => from_any dr 0 1000 w
  have F3 := Lib.hid fun w => from_any tk 0 144000 w
  have RI := rngC_is ve vn dr tk
  have EV0 : cstF b ve vn dr tk = if bxV b = true then (if rngC ve vn dr tk = true then (if bxV (movB b ve vn dr tk) = true then (movB b ve vn dr tk, 0) else (bx0, 2)) else (bx0, 2)) else (bx0, 1) := rfl
  cases hv : bxV b with
  | false =>
    rw [hv] at VA0
    have VA := Lib.hid VA0
    have EV := Lib.hid (EV0.trans (if_neg (by rw [hv]; decide)))
    clear EV0 VA0 hv RI F0 F1 F2 F3
    generalize cstF b ve vn dr tk = q at *
    obtain ⟨cx, cy, x, y⟩ := b
    simp only at VA
    obtain ⟨KB, KV, KZ, HB⟩ := ent3 w #[.int .i64 cx, .int .i64 cy, .int .i64 x, .int .i64 y] 25 #[.int .i64 ve, .int .i64 vn] 36 #[.int .i64 0, .int .i64 0, .int .i64 0, .int .i64 0] 25
    go_enter Tryz.func19, Tryz.ntmps19
    go_wp2_with fail
    generalize ((w.alloc (.cells #[.int .i64 cx, .int .i64 cy, .int .i64 x, .int .i64 y] 25)).alloc (.cells #[.int .i64 ve, .int .i64 vn] 36)).alloc (.cells #[.int .i64 0, .int .i64 0, .int .i64 0, .int .i64 0] 25) = w0 at *
    refine (VA.out _).mono ?_
    rintro e1 w1 ⟨rfl, hb1⟩
    replace HB := hT HB hb1
    replace KB := hK KB hb1
    replace KV := hK KV hb1
    replace KZ := hK KZ hb1
    clear hb1
    obtain ⟨yZ_0, yZ_1, yZ_2, yZ_3, yZ_z, yZ_f0, yZ_f1, yZ_f2, yZ_f3⟩ := blf4 KZ
    go_wp2
    have hs := st4 w1 (w.heap.size + 1 + 1) 0 (.int .i64 0) 1 (.int .i64 0) 2 (.int .i64 0) 3 (.int .i64 0)
    replace KB := oB hs KB (by omega)
    replace KV := oB hs KV (by omega)
    replace KZ := Lib.hid (blk_set (blk_set (blk_set (blk_set KZ.out (j := 0) (by simp) (.int .i64 0)) (j := 1) (by simp) (.int .i64 0)) (j := 2) (by simp) (.int .i64 0)) (j := 3) (by simp) (.int .i64 0))
    replace HB := oH hs HB (by omega)
    clear hs
    clear yZ_0 yZ_1 yZ_2 yZ_3 yZ_z yZ_f0 yZ_f1 yZ_f2 yZ_f3
    generalize (((w1.setCell ⟨(w.heap.size + 1 + 1), 0, none⟩ (.int .i64 0)).setCell ⟨(w.heap.size + 1 + 1), 1, none⟩ (.int .i64 0)).setCell ⟨(w.heap.size + 1 + 1), 2, none⟩ (.int .i64 0)).setCell ⟨(w.heap.size + 1 + 1), 3, none⟩ (.int .i64 0) = w2 at *
    simp only [List.set] at KZ
    obtain ⟨yZ_0, yZ_1, yZ_2, yZ_3, yZ_z⟩ := blk4 KZ
    refine bodyPost_ret (v := .tuple #[.agg #[.int .i64 0, .int .i64 0, .int .i64 0, .int .i64 0], .int .i64 1]) (by simp [results, Tryz.results19, go_sem, yZ_0, yZ_1, yZ_2, yZ_3]) rfl ⟨by rw [EV.out]; rfl, HB.out⟩
  | true =>
    rw [hv, if_pos rfl] at EV0
    rw [hv] at VA0
    have VA := Lib.hid VA0
    clear VA0
    have VB0 := fun w => ival_any (movB b ve vn dr tk) w
    by_cases hr : rngC ve vn dr tk = true
    · rw [if_pos hr] at EV0
      have R := rngC_iff.1 hr
      have BV := bxV_iff.1 hv
      rw [hr] at RI
      have k0 : frm ve (-2000) 2000 = true := by unfold frm; simp only [Bool.and_eq_true, decide_eq_true_iff]; omega
      have k1 : frm vn (-2000) 2000 = true := by unfold frm; simp only [Bool.and_eq_true, decide_eq_true_iff]; omega
      have k2 : frm dr 0 1000 = true := by unfold frm; simp only [Bool.and_eq_true, decide_eq_true_iff]; omega
      have k3 : frm tk 0 144000 = true := by unfold frm; simp only [Bool.and_eq_true, decide_eq_true_iff]; omega
      rw [k0] at F0
      rw [k1] at F1
      rw [k2] at F2
      rw [k3] at F3
      have p0 := mulb (X := 2000) (Y := 144000) (x := ve) (y := tk) (by omega) (by omega) (by omega) (by omega) (by omega)
      have p1 := mulb (X := 2000) (Y := 144000) (x := vn) (y := tk) (by omega) (by omega) (by omega) (by omega) (by omega)
      have p2 := mulb (X := 1000) (Y := 144000) (x := dr) (y := tk) (by omega) (by omega) (by omega) (by omega) (by omega)
      unfold movB at VB0 EV0
      obtain ⟨cx, cy, x, y⟩ := b
      simp only at VA VB0 EV0 BV
      have s0 : IntKind.i64.wrap (ve * tk) = ve * tk := IntWalk.i64_in _ (by omega)
      have s1 : IntKind.i64.wrap (vn * tk) = vn * tk := IntWalk.i64_in _ (by omega)
      have s2 : IntKind.i64.wrap (dr * tk) = dr * tk := IntWalk.i64_in _ (by omega)
      have t0 : IntKind.i64.wrap (cx + ve * tk) = cx + ve * tk := IntWalk.i64_in _ (by omega)
      have t1 : IntKind.i64.wrap (cy + vn * tk) = cy + vn * tk := IntWalk.i64_in _ (by omega)
      have t2 : IntKind.i64.wrap (x + dr * tk) = x + dr * tk := IntWalk.i64_in _ (by omega)
      have t3 : IntKind.i64.wrap (y + dr * tk) = y + dr * tk := IntWalk.i64_in _ (by omega)
      clear p0 p1 p2 R BV k0 k1 k2 k3 RI hr hv
      generalize cstF ⟨cx, cy, x, y⟩ ve vn dr tk = q at *
      obtain ⟨cx', e0⟩ : ∃ z, cx + ve * tk = z := ⟨_, rfl⟩
      obtain ⟨cy', e1⟩ : ∃ z, cy + vn * tk = z := ⟨_, rfl⟩
      obtain ⟨x', e2⟩ : ∃ z, x + dr * tk = z := ⟨_, rfl⟩
      obtain ⟨y', e3⟩ : ∃ z, y + dr * tk = z := ⟨_, rfl⟩
      rw [e0, e1, e2, e3] at EV0 VB0
      replace t0 := t0.trans e0
      replace t1 := t1.trans e1
      replace t2 := t2.trans e2
      replace t3 := t3.trans e3
      clear e0 e1 e2 e3
      cases hb : bxV ⟨cx', cy', x', y'⟩ with
      | false =>
        rw [hb] at VB0
        have EV := Lib.hid (EV0.trans (if_neg (by rw [hb]; decide)))
        have VB := Lib.hid VB0
        clear EV0 VB0 hb
        obtain ⟨KB, KV, KZ, HB⟩ := ent3 w #[.int .i64 cx, .int .i64 cy, .int .i64 x, .int .i64 y] 25 #[.int .i64 ve, .int .i64 vn] 36 #[.int .i64 0, .int .i64 0, .int .i64 0, .int .i64 0] 25
        go_enter Tryz.func19, Tryz.ntmps19
        go_wp2_with fail
        generalize ((w.alloc (.cells #[.int .i64 cx, .int .i64 cy, .int .i64 x, .int .i64 y] 25)).alloc (.cells #[.int .i64 ve, .int .i64 vn] 36)).alloc (.cells #[.int .i64 0, .int .i64 0, .int .i64 0, .int .i64 0] 25) = w0 at *
        refine (VA.out _).mono ?_
        rintro e1 w1 ⟨rfl, hb1⟩
        replace HB := hT HB hb1
        replace KB := hK KB hb1
        replace KV := hK KV hb1
        replace KZ := hK KZ hb1
        clear hb1
        obtain ⟨yV_0, yV_1, yV_z⟩ := blk2 KV
        go_wp2_with fail
        refine (F0.out _).mono ?_
        rintro e2 w2 ⟨rfl, hb2⟩
        replace HB := hT HB hb2
        replace KB := hK KB hb2
        replace KV := hK KV hb2
        replace KZ := hK KZ hb2
        clear yV_0 yV_1 yV_z
        clear hb2
        obtain ⟨yV_0, yV_1, yV_z⟩ := blk2 KV
        go_wp2_with fail
        refine (F1.out _).mono ?_
        rintro e3 w3 ⟨rfl, hb3⟩
        replace HB := hT HB hb3
        replace KB := hK KB hb3
        replace KV := hK KV hb3
        replace KZ := hK KZ hb3
        clear yV_0 yV_1 yV_z
        clear hb3
        obtain ⟨yV_0, yV_1, yV_z⟩ := blk2 KV
        go_wp2_with fail
        refine (F2.out _).mono ?_
        rintro e4 w4 ⟨rfl, hb4⟩
        replace HB := hT HB hb4
        replace KB := hK KB hb4
        replace KV := hK KV hb4
        replace KZ := hK KZ hb4
        clear yV_0 yV_1 yV_z
        clear hb4
        obtain ⟨yV_0, yV_1, yV_z⟩ := blk2 KV
        go_wp2_with fail
        refine (F3.out _).mono ?_
        rintro e5 w5 ⟨rfl, hb5⟩
        replace HB := hT HB hb5
        replace KB := hK KB hb5
        replace KV := hK KV hb5
        replace KZ := hK KZ hb5
        clear yV_0 yV_1 yV_z
        clear hb5
        obtain ⟨yB_0, yB_1, yB_2, yB_3, yB_z, yB_f0, yB_f1, yB_f2, yB_f3⟩ := blf4 KB
        obtain ⟨yV_0, yV_1, yV_z⟩ := blk2 KV
        go_wp2_with fail
        have hs := st4 w5 w.heap.size 0 (.int .i64 (cx')) 1 (.int .i64 (cy')) 2 (.int .i64 (x')) 3 (.int .i64 (y'))
        replace KB := Lib.hid (blk_set (blk_set (blk_set (blk_set KB.out (j := 0) (by simp) (.int .i64 (cx'))) (j := 1) (by simp) (.int .i64 (cy'))) (j := 2) (by simp) (.int .i64 (x'))) (j := 3) (by simp) (.int .i64 (y')))
        replace KV := oB hs KV (by omega)
        replace KZ := oB hs KZ (by omega)
        replace HB := oH hs HB (by omega)
        clear hs
        clear yB_0 yB_1 yB_2 yB_3 yB_z yB_f0 yB_f1 yB_f2 yB_f3 yV_0 yV_1 yV_z
        generalize (((w5.setCell ⟨w.heap.size, 0, none⟩ (.int .i64 (cx'))).setCell ⟨w.heap.size, 1, none⟩ (.int .i64 (cy'))).setCell ⟨w.heap.size, 2, none⟩ (.int .i64 (x'))).setCell ⟨w.heap.size, 3, none⟩ (.int .i64 (y')) = w6 at *
        simp only [List.set] at KB
        refine (VB.out _).mono ?_
        rintro e7 w7 ⟨rfl, hb7⟩
        replace HB := hT HB hb7
        replace KB := hK KB hb7
        replace KV := hK KV hb7
        replace KZ := hK KZ hb7
        clear hb7
        obtain ⟨yZ_0, yZ_1, yZ_2, yZ_3, yZ_z, yZ_f0, yZ_f1, yZ_f2, yZ_f3⟩ := blf4 KZ
        go_wp2
        have hs := st4 w7 (w.heap.size + 1 + 1) 0 (.int .i64 0) 1 (.int .i64 0) 2 (.int .i64 0) 3 (.int .i64 0)
        replace KB := oB hs KB (by omega)
        replace KV := oB hs KV (by omega)
        replace KZ := Lib.hid (blk_set (blk_set (blk_set (blk_set KZ.out (j := 0) (by simp) (.int .i64 0)) (j := 1) (by simp) (.int .i64 0)) (j := 2) (by simp) (.int .i64 0)) (j := 3) (by simp) (.int .i64 0))
        replace HB := oH hs HB (by omega)
        clear hs
        clear yZ_0 yZ_1 yZ_2 yZ_3 yZ_z yZ_f0 yZ_f1 yZ_f2 yZ_f3
        generalize (((w7.setCell ⟨(w.heap.size + 1 + 1), 0, none⟩ (.int .i64 0)).setCell ⟨(w.heap.size + 1 + 1), 1, none⟩ (.int .i64 0)).setCell ⟨(w.heap.size + 1 + 1), 2, none⟩ (.int .i64 0)).setCell ⟨(w.heap.size + 1 + 1), 3, none⟩ (.int .i64 0) = w8 at *
        simp only [List.set] at KZ
        obtain ⟨yZ_0, yZ_1, yZ_2, yZ_3, yZ_z⟩ := blk4 KZ
        refine bodyPost_ret (v := .tuple #[.agg #[.int .i64 0, .int .i64 0, .int .i64 0, .int .i64 0], .int .i64 2]) (by simp [results, Tryz.results19, go_sem, yZ_0, yZ_1, yZ_2, yZ_3]) rfl ⟨by rw [EV.out]; rfl, HB.out⟩
      | true =>
        rw [hb] at VB0
        have EV := Lib.hid (EV0.trans (if_pos hb))
        have VB := Lib.hid VB0
        clear EV0 VB0 hb
        obtain ⟨KB, KV, KZ, HB⟩ := ent3 w #[.int .i64 cx, .int .i64 cy, .int .i64 x, .int .i64 y] 25 #[.int .i64 ve, .int .i64 vn] 36 #[.int .i64 0, .int .i64 0, .int .i64 0, .int .i64 0] 25
        go_enter Tryz.func19, Tryz.ntmps19
        go_wp2_with fail
        generalize ((w.alloc (.cells #[.int .i64 cx, .int .i64 cy, .int .i64 x, .int .i64 y] 25)).alloc (.cells #[.int .i64 ve, .int .i64 vn] 36)).alloc (.cells #[.int .i64 0, .int .i64 0, .int .i64 0, .int .i64 0] 25) = w0 at *
        refine (VA.out _).mono ?_
        rintro e1 w1 ⟨rfl, hb1⟩
        replace HB := hT HB hb1
        replace KB := hK KB hb1
        replace KV := hK KV hb1
        replace KZ := hK KZ hb1
        clear hb1
        obtain ⟨yV_0, yV_1, yV_z⟩ := blk2 KV
        go_wp2_with fail
        refine (F0.out _).mono ?_
        rintro e2 w2 ⟨rfl, hb2⟩
        replace HB := hT HB hb2
        replace KB := hK KB hb2
        replace KV := hK KV hb2
        replace KZ := hK KZ hb2
        clear yV_0 yV_1 yV_z
        clear hb2
        obtain ⟨yV_0, yV_1, yV_z⟩ := blk2 KV
        go_wp2_with fail
        refine (F1.out _).mono ?_
        rintro e3 w3 ⟨rfl, hb3⟩
        replace HB := hT HB hb3
        replace KB := hK KB hb3
        replace KV := hK KV hb3
        replace KZ := hK KZ hb3
        clear yV_0 yV_1 yV_z
        clear hb3
        obtain ⟨yV_0, yV_1, yV_z⟩ := blk2 KV
        go_wp2_with fail
        refine (F2.out _).mono ?_
        rintro e4 w4 ⟨rfl, hb4⟩
        replace HB := hT HB hb4
        replace KB := hK KB hb4
        replace KV := hK KV hb4
        replace KZ := hK KZ hb4
        clear yV_0 yV_1 yV_z
        clear hb4
        obtain ⟨yV_0, yV_1, yV_z⟩ := blk2 KV
        go_wp2_with fail
        refine (F3.out _).mono ?_
        rintro e5 w5 ⟨rfl, hb5⟩
        replace HB := hT HB hb5
        replace KB := hK KB hb5
        replace KV := hK KV hb5
        replace KZ := hK KZ hb5
        clear yV_0 yV_1 yV_z
        clear hb5
        obtain ⟨yB_0, yB_1, yB_2, yB_3, yB_z, yB_f0, yB_f1, yB_f2, yB_f3⟩ := blf4 KB
        obtain ⟨yV_0, yV_1, yV_z⟩ := blk2 KV
        go_wp2_with fail
        have hs := st4 w5 w.heap.size 0 (.int .i64 (cx')) 1 (.int .i64 (cy')) 2 (.int .i64 (x')) 3 (.int .i64 (y'))
        replace KB := Lib.hid (blk_set (blk_set (blk_set (blk_set KB.out (j := 0) (by simp) (.int .i64 (cx'))) (j := 1) (by simp) (.int .i64 (cy'))) (j := 2) (by simp) (.int .i64 (x'))) (j := 3) (by simp) (.int .i64 (y')))
        replace KV := oB hs KV (by omega)
        replace KZ := oB hs KZ (by omega)
        replace HB := oH hs HB (by omega)
        clear hs
        clear yB_0 yB_1 yB_2 yB_3 yB_z yB_f0 yB_f1 yB_f2 yB_f3 yV_0 yV_1 yV_z
        generalize (((w5.setCell ⟨w.heap.size, 0, none⟩ (.int .i64 (cx'))).setCell ⟨w.heap.size, 1, none⟩ (.int .i64 (cy'))).setCell ⟨w.heap.size, 2, none⟩ (.int .i64 (x'))).setCell ⟨w.heap.size, 3, none⟩ (.int .i64 (y')) = w6 at *
        simp only [List.set] at KB
        refine (VB.out _).mono ?_
        rintro e7 w7 ⟨rfl, hb7⟩
        replace HB := hT HB hb7
        replace KB := hK KB hb7
        replace KV := hK KV hb7
        replace KZ := hK KZ hb7
        clear hb7
        obtain ⟨yB_0, yB_1, yB_2, yB_3, yB_z⟩ := blk4 KB
        obtain ⟨yZ_0, yZ_1, yZ_2, yZ_3, yZ_z, yZ_f0, yZ_f1, yZ_f2, yZ_f3⟩ := blf4 KZ
        go_wp2
        have hs := st4 w7 (w.heap.size + 1 + 1) 0 (.int .i64 (cx')) 1 (.int .i64 (cy')) 2 (.int .i64 (x')) 3 (.int .i64 (y'))
        replace KB := oB hs KB (by omega)
        replace KV := oB hs KV (by omega)
        replace KZ := Lib.hid (blk_set (blk_set (blk_set (blk_set KZ.out (j := 0) (by simp) (.int .i64 (cx'))) (j := 1) (by simp) (.int .i64 (cy'))) (j := 2) (by simp) (.int .i64 (x'))) (j := 3) (by simp) (.int .i64 (y')))
        replace HB := oH hs HB (by omega)
        clear hs
        clear yB_0 yB_1 yB_2 yB_3 yB_z yZ_0 yZ_1 yZ_2 yZ_3 yZ_z yZ_f0 yZ_f1 yZ_f2 yZ_f3
        generalize (((w7.setCell ⟨(w.heap.size + 1 + 1), 0, none⟩ (.int .i64 (cx'))).setCell ⟨(w.heap.size + 1 + 1), 1, none⟩ (.int .i64 (cy'))).setCell ⟨(w.heap.size + 1 + 1), 2, none⟩ (.int .i64 (x'))).setCell ⟨(w.heap.size + 1 + 1), 3, none⟩ (.int .i64 (y')) = w8 at *
        simp only [List.set] at KZ
        obtain ⟨yZ_0, yZ_1, yZ_2, yZ_3, yZ_z⟩ := blk4 KZ
        refine bodyPost_ret (v := .tuple #[.agg #[.int .i64 (cx'), .int .i64 (cy'), .int .i64 (x'), .int .i64 (y')], .int .i64 0]) (by simp [results, Tryz.results19, go_sem, yZ_0, yZ_1, yZ_2, yZ_3]) rfl ⟨by rw [EV.out], HB.out⟩
    · have EV := Lib.hid (EV0.trans (if_neg hr))
      have hr' : rngC ve vn dr tk = false := by simpa using hr
      rw [hr'] at RI
      clear EV0 VB0 hr hr' hv
      generalize cstF b ve vn dr tk = q at *
      obtain ⟨cx, cy, x, y⟩ := b
      simp only at VA
      generalize frm ve (-2000) 2000 = b0 at *
      generalize frm vn (-2000) 2000 = b1 at *
      generalize frm dr 0 1000 = b2 at *
      generalize frm tk 0 144000 = b3 at *
      cases b0 with
      | false =>
        clear RI F1 F2 F3
        obtain ⟨KB, KV, KZ, HB⟩ := ent3 w #[.int .i64 cx, .int .i64 cy, .int .i64 x, .int .i64 y] 25 #[.int .i64 ve, .int .i64 vn] 36 #[.int .i64 0, .int .i64 0, .int .i64 0, .int .i64 0] 25
        go_enter Tryz.func19, Tryz.ntmps19
        go_wp2_with fail
        generalize ((w.alloc (.cells #[.int .i64 cx, .int .i64 cy, .int .i64 x, .int .i64 y] 25)).alloc (.cells #[.int .i64 ve, .int .i64 vn] 36)).alloc (.cells #[.int .i64 0, .int .i64 0, .int .i64 0, .int .i64 0] 25) = w0 at *
        refine (VA.out _).mono ?_
        rintro e1 w1 ⟨rfl, hb1⟩
        replace HB := hT HB hb1
        replace KB := hK KB hb1
        replace KV := hK KV hb1
        replace KZ := hK KZ hb1
        clear hb1
        obtain ⟨yV_0, yV_1, yV_z⟩ := blk2 KV
        go_wp2_with fail
        refine (F0.out _).mono ?_
        rintro e2 w2 ⟨rfl, hb2⟩
        replace HB := hT HB hb2
        replace KB := hK KB hb2
        replace KV := hK KV hb2
        replace KZ := hK KZ hb2
        clear yV_0 yV_1 yV_z
        clear hb2
        obtain ⟨yZ_0, yZ_1, yZ_2, yZ_3, yZ_z, yZ_f0, yZ_f1, yZ_f2, yZ_f3⟩ := blf4 KZ
        go_wp2
        have hs := st4 w2 (w.heap.size + 1 + 1) 0 (.int .i64 0) 1 (.int .i64 0) 2 (.int .i64 0) 3 (.int .i64 0)
        replace KB := oB hs KB (by omega)
        replace KV := oB hs KV (by omega)
        replace KZ := Lib.hid (blk_set (blk_set (blk_set (blk_set KZ.out (j := 0) (by simp) (.int .i64 0)) (j := 1) (by simp) (.int .i64 0)) (j := 2) (by simp) (.int .i64 0)) (j := 3) (by simp) (.int .i64 0))
        replace HB := oH hs HB (by omega)
        clear hs
        clear yZ_0 yZ_1 yZ_2 yZ_3 yZ_z yZ_f0 yZ_f1 yZ_f2 yZ_f3
        generalize (((w2.setCell ⟨(w.heap.size + 1 + 1), 0, none⟩ (.int .i64 0)).setCell ⟨(w.heap.size + 1 + 1), 1, none⟩ (.int .i64 0)).setCell ⟨(w.heap.size + 1 + 1), 2, none⟩ (.int .i64 0)).setCell ⟨(w.heap.size + 1 + 1), 3, none⟩ (.int .i64 0) = w3 at *
        simp only [List.set] at KZ
        obtain ⟨yZ_0, yZ_1, yZ_2, yZ_3, yZ_z⟩ := blk4 KZ
        refine bodyPost_ret (v := .tuple #[.agg #[.int .i64 0, .int .i64 0, .int .i64 0, .int .i64 0], .int .i64 2]) (by simp [results, Tryz.results19, go_sem, yZ_0, yZ_1, yZ_2, yZ_3]) rfl ⟨by rw [EV.out]; rfl, HB.out⟩
      | true =>
        cases b1 with
        | false =>
          clear RI F2 F3
          obtain ⟨KB, KV, KZ, HB⟩ := ent3 w #[.int .i64 cx, .int .i64 cy, .int .i64 x, .int .i64 y] 25 #[.int .i64 ve, .int .i64 vn] 36 #[.int .i64 0, .int .i64 0, .int .i64 0, .int .i64 0] 25
          go_enter Tryz.func19, Tryz.ntmps19
          go_wp2_with fail
          generalize ((w.alloc (.cells #[.int .i64 cx, .int .i64 cy, .int .i64 x, .int .i64 y] 25)).alloc (.cells #[.int .i64 ve, .int .i64 vn] 36)).alloc (.cells #[.int .i64 0, .int .i64 0, .int .i64 0, .int .i64 0] 25) = w0 at *
          refine (VA.out _).mono ?_
          rintro e1 w1 ⟨rfl, hb1⟩
          replace HB := hT HB hb1
          replace KB := hK KB hb1
          replace KV := hK KV hb1
          replace KZ := hK KZ hb1
          clear hb1
          obtain ⟨yV_0, yV_1, yV_z⟩ := blk2 KV
          go_wp2_with fail
          refine (F0.out _).mono ?_
          rintro e2 w2 ⟨rfl, hb2⟩
          replace HB := hT HB hb2
          replace KB := hK KB hb2
          replace KV := hK KV hb2
          replace KZ := hK KZ hb2
          clear yV_0 yV_1 yV_z
          clear hb2
          obtain ⟨yV_0, yV_1, yV_z⟩ := blk2 KV
          go_wp2_with fail
          refine (F1.out _).mono ?_
          rintro e3 w3 ⟨rfl, hb3⟩
          replace HB := hT HB hb3
          replace KB := hK KB hb3
          replace KV := hK KV hb3
          replace KZ := hK KZ hb3
          clear yV_0 yV_1 yV_z
          clear hb3
          obtain ⟨yZ_0, yZ_1, yZ_2, yZ_3, yZ_z, yZ_f0, yZ_f1, yZ_f2, yZ_f3⟩ := blf4 KZ
          go_wp2
          have hs := st4 w3 (w.heap.size + 1 + 1) 0 (.int .i64 0) 1 (.int .i64 0) 2 (.int .i64 0) 3 (.int .i64 0)
          replace KB := oB hs KB (by omega)
          replace KV := oB hs KV (by omega)
          replace KZ := Lib.hid (blk_set (blk_set (blk_set (blk_set KZ.out (j := 0) (by simp) (.int .i64 0)) (j := 1) (by simp) (.int .i64 0)) (j := 2) (by simp) (.int .i64 0)) (j := 3) (by simp) (.int .i64 0))
          replace HB := oH hs HB (by omega)
          clear hs
          clear yZ_0 yZ_1 yZ_2 yZ_3 yZ_z yZ_f0 yZ_f1 yZ_f2 yZ_f3
          generalize (((w3.setCell ⟨(w.heap.size + 1 + 1), 0, none⟩ (.int .i64 0)).setCell ⟨(w.heap.size + 1 + 1), 1, none⟩ (.int .i64 0)).setCell ⟨(w.heap.size + 1 + 1), 2, none⟩ (.int .i64 0)).setCell ⟨(w.heap.size + 1 + 1), 3, none⟩ (.int .i64 0) = w4 at *
          simp only [List.set] at KZ
          obtain ⟨yZ_0, yZ_1, yZ_2, yZ_3, yZ_z⟩ := blk4 KZ
          refine bodyPost_ret (v := .tuple #[.agg #[.int .i64 0, .int .i64 0, .int .i64 0, .int .i64 0], .int .i64 2]) (by simp [results, Tryz.results19, go_sem, yZ_0, yZ_1, yZ_2, yZ_3]) rfl ⟨by rw [EV.out]; rfl, HB.out⟩
        | true =>
          cases b2 with
          | false =>
            clear RI F3
            obtain ⟨KB, KV, KZ, HB⟩ := ent3 w #[.int .i64 cx, .int .i64 cy, .int .i64 x, .int .i64 y] 25 #[.int .i64 ve, .int .i64 vn] 36 #[.int .i64 0, .int .i64 0, .int .i64 0, .int .i64 0] 25
            go_enter Tryz.func19, Tryz.ntmps19
            go_wp2_with fail
            generalize ((w.alloc (.cells #[.int .i64 cx, .int .i64 cy, .int .i64 x, .int .i64 y] 25)).alloc (.cells #[.int .i64 ve, .int .i64 vn] 36)).alloc (.cells #[.int .i64 0, .int .i64 0, .int .i64 0, .int .i64 0] 25) = w0 at *
            refine (VA.out _).mono ?_
            rintro e1 w1 ⟨rfl, hb1⟩
            replace HB := hT HB hb1
            replace KB := hK KB hb1
            replace KV := hK KV hb1
            replace KZ := hK KZ hb1
            clear hb1
            obtain ⟨yV_0, yV_1, yV_z⟩ := blk2 KV
            go_wp2_with fail
            refine (F0.out _).mono ?_
            rintro e2 w2 ⟨rfl, hb2⟩
            replace HB := hT HB hb2
            replace KB := hK KB hb2
            replace KV := hK KV hb2
            replace KZ := hK KZ hb2
            clear yV_0 yV_1 yV_z
            clear hb2
            obtain ⟨yV_0, yV_1, yV_z⟩ := blk2 KV
            go_wp2_with fail
            refine (F1.out _).mono ?_
            rintro e3 w3 ⟨rfl, hb3⟩
            replace HB := hT HB hb3
            replace KB := hK KB hb3
            replace KV := hK KV hb3
            replace KZ := hK KZ hb3
            clear yV_0 yV_1 yV_z
            clear hb3
            obtain ⟨yV_0, yV_1, yV_z⟩ := blk2 KV
            go_wp2_with fail
            refine (F2.out _).mono ?_
            rintro e4 w4 ⟨rfl, hb4⟩
            replace HB := hT HB hb4
            replace KB := hK KB hb4
            replace KV := hK KV hb4
            replace KZ := hK KZ hb4
            clear yV_0 yV_1 yV_z
            clear hb4
            obtain ⟨yZ_0, yZ_1, yZ_2, yZ_3, yZ_z, yZ_f0, yZ_f1, yZ_f2, yZ_f3⟩ := blf4 KZ
            go_wp2
            have hs := st4 w4 (w.heap.size + 1 + 1) 0 (.int .i64 0) 1 (.int .i64 0) 2 (.int .i64 0) 3 (.int .i64 0)
            replace KB := oB hs KB (by omega)
            replace KV := oB hs KV (by omega)
            replace KZ := Lib.hid (blk_set (blk_set (blk_set (blk_set KZ.out (j := 0) (by simp) (.int .i64 0)) (j := 1) (by simp) (.int .i64 0)) (j := 2) (by simp) (.int .i64 0)) (j := 3) (by simp) (.int .i64 0))
            replace HB := oH hs HB (by omega)
            clear hs
            clear yZ_0 yZ_1 yZ_2 yZ_3 yZ_z yZ_f0 yZ_f1 yZ_f2 yZ_f3
            generalize (((w4.setCell ⟨(w.heap.size + 1 + 1), 0, none⟩ (.int .i64 0)).setCell ⟨(w.heap.size + 1 + 1), 1, none⟩ (.int .i64 0)).setCell ⟨(w.heap.size + 1 + 1), 2, none⟩ (.int .i64 0)).setCell ⟨(w.heap.size + 1 + 1), 3, none⟩ (.int .i64 0) = w5 at *
            simp only [List.set] at KZ
            obtain ⟨yZ_0, yZ_1, yZ_2, yZ_3, yZ_z⟩ := blk4 KZ
            refine bodyPost_ret (v := .tuple #[.agg #[.int .i64 0, .int .i64 0, .int .i64 0, .int .i64 0], .int .i64 2]) (by simp [results, Tryz.results19, go_sem, yZ_0, yZ_1, yZ_2, yZ_3]) rfl ⟨by rw [EV.out]; rfl, HB.out⟩
          | true =>
            cases b3 with
            | true => cases RI
            | false =>
              clear RI
              obtain ⟨KB, KV, KZ, HB⟩ := ent3 w #[.int .i64 cx, .int .i64 cy, .int .i64 x, .int .i64 y] 25 #[.int .i64 ve, .int .i64 vn] 36 #[.int .i64 0, .int .i64 0, .int .i64 0, .int .i64 0] 25
              go_enter Tryz.func19, Tryz.ntmps19
              go_wp2_with fail
              generalize ((w.alloc (.cells #[.int .i64 cx, .int .i64 cy, .int .i64 x, .int .i64 y] 25)).alloc (.cells #[.int .i64 ve, .int .i64 vn] 36)).alloc (.cells #[.int .i64 0, .int .i64 0, .int .i64 0, .int .i64 0] 25) = w0 at *
              refine (VA.out _).mono ?_
              rintro e1 w1 ⟨rfl, hb1⟩
              replace HB := hT HB hb1
              replace KB := hK KB hb1
              replace KV := hK KV hb1
              replace KZ := hK KZ hb1
              clear hb1
              obtain ⟨yV_0, yV_1, yV_z⟩ := blk2 KV
              go_wp2_with fail
              refine (F0.out _).mono ?_
              rintro e2 w2 ⟨rfl, hb2⟩
              replace HB := hT HB hb2
              replace KB := hK KB hb2
              replace KV := hK KV hb2
              replace KZ := hK KZ hb2
              clear yV_0 yV_1 yV_z
              clear hb2
              obtain ⟨yV_0, yV_1, yV_z⟩ := blk2 KV
              go_wp2_with fail
              refine (F1.out _).mono ?_
              rintro e3 w3 ⟨rfl, hb3⟩
              replace HB := hT HB hb3
              replace KB := hK KB hb3
              replace KV := hK KV hb3
              replace KZ := hK KZ hb3
              clear yV_0 yV_1 yV_z
              clear hb3
              obtain ⟨yV_0, yV_1, yV_z⟩ := blk2 KV
              go_wp2_with fail
              refine (F2.out _).mono ?_
              rintro e4 w4 ⟨rfl, hb4⟩
              replace HB := hT HB hb4
              replace KB := hK KB hb4
              replace KV := hK KV hb4
              replace KZ := hK KZ hb4
              clear yV_0 yV_1 yV_z
              clear hb4
              obtain ⟨yV_0, yV_1, yV_z⟩ := blk2 KV
              go_wp2_with fail
              refine (F3.out _).mono ?_
              rintro e5 w5 ⟨rfl, hb5⟩
              replace HB := hT HB hb5
              replace KB := hK KB hb5
              replace KV := hK KV hb5
              replace KZ := hK KZ hb5
              clear yV_0 yV_1 yV_z
              clear hb5
              obtain ⟨yZ_0, yZ_1, yZ_2, yZ_3, yZ_z, yZ_f0, yZ_f1, yZ_f2, yZ_f3⟩ := blf4 KZ
              go_wp2
              have hs := st4 w5 (w.heap.size + 1 + 1) 0 (.int .i64 0) 1 (.int .i64 0) 2 (.int .i64 0) 3 (.int .i64 0)
              replace KB := oB hs KB (by omega)
              replace KV := oB hs KV (by omega)
              replace KZ := Lib.hid (blk_set (blk_set (blk_set (blk_set KZ.out (j := 0) (by simp) (.int .i64 0)) (j := 1) (by simp) (.int .i64 0)) (j := 2) (by simp) (.int .i64 0)) (j := 3) (by simp) (.int .i64 0))
              replace HB := oH hs HB (by omega)
              clear hs
              clear yZ_0 yZ_1 yZ_2 yZ_3 yZ_z yZ_f0 yZ_f1 yZ_f2 yZ_f3
              generalize (((w5.setCell ⟨(w.heap.size + 1 + 1), 0, none⟩ (.int .i64 0)).setCell ⟨(w.heap.size + 1 + 1), 1, none⟩ (.int .i64 0)).setCell ⟨(w.heap.size + 1 + 1), 2, none⟩ (.int .i64 0)).setCell ⟨(w.heap.size + 1 + 1), 3, none⟩ (.int .i64 0) = w6 at *
              simp only [List.set] at KZ
              obtain ⟨yZ_0, yZ_1, yZ_2, yZ_3, yZ_z⟩ := blk4 KZ
              refine bodyPost_ret (v := .tuple #[.agg #[.int .i64 0, .int .i64 0, .int .i64 0, .int .i64 0], .int .i64 2]) (by simp [results, Tryz.results19, go_sem, yZ_0, yZ_1, yZ_2, yZ_3]) rfl ⟨by rw [EV.out]; rfl, HB.out⟩
end Go.Proofs.YtajmjkliblippaaGreatDoor
namespace Go.Proofs.YtajmjkliblippaaGreatDoor
set_option linter.unusedVariables false
open Go.RowKit
def inC (l : List Int) : List Value := l.map (Value.int .i64)
/-- a slice of the call's own that holds these integers -/
def OI (B : Nat) (w : World) (v : Value) (l : List Int) : Prop := w.ownsRow B 3 1 v l.length (inC l)
theorem infoInt : (Tryz.prog.info? 3).map (fun i => (i.zero, i.size, i.bytes)) = some (some (.int .i64 0), 1, 8) := by kernel_rfl
theorem wpList_oi {ops : Array Oper} {rest : List Oper} {o : Oper} {a : Act} {Q : Exit → Act → World → Prop} (hgd : o.guard = none) (s x : Operand)
    (ho : o.op = .call { callee := .builtin .append, args := #[s, x], argTypes := #[106, 106] })
    (B : Nat) (v : Value) (l : List Int) (hs : a.eval s = v) (w0 : World) (h : OI B w0 v l) (T : TypeId) (p : Int) (c : Nat)
    (hx : a.eval x = .slice (some ⟨w0.heap.size, 0, none⟩) 1 c) (hl : l.length ≤ 100000) (hB : B ≤ w0.heap.size)
    (H : ∀ v' w', OI B w' v' (l ++ [p]) → (w0.alloc (.cells #[.int .i64 p] T)).grownBy w' v.ownBlock → (v'.ownBlock = v.ownBlock ∨ v'.ownBlock = some (w0.heap.size + 1)) → wpList Tryz.prog ops Q rest (a.put o.dst v') w') :
    wpList Tryz.prog ops Q (o :: rest) a (w0.alloc (.cells #[.int .i64 p] T)) := by
  obtain ⟨i0, hi, hz0, hz1, hz2⟩ := info_parts infoInt
  refine wpList_append_own_at _ hgd s x 106 ho B 3 i0 (.int .i64 0) 1 8 Tryz.underlying106 hi hz0 hz1 hz2 rfl (by decide) v l.length (inC l) hs (World.ownsRow.alloc h _) ⟨w0.heap.size, 0, none⟩ 1 c (inC [p]) hx (by unfold inC; rfl) ?_ ?_ (by unfold maxLen; omega) (by omega) (by simp; omega) ?_
  · intro j u hu
    have hadd : (⟨w0.heap.size, 0, none⟩ : Addr).add j = ⟨w0.heap.size, j, none⟩ := by unfold Addr.add; split <;> simp_all
    rw [hadd, World.cell?_alloc_at _ _ _ _ (by rfl)]
    unfold inC at hu
    simpa using hu
  · intro u hu
    unfold inC at hu
    simp only [List.map_cons, List.map_nil, List.mem_cons, List.not_mem_nil, or_false] at hu
    subst hu
    rfl
  · intro v' w' ho' hg _ hat
    refine H v' w' (by unfold OI inC; rw [List.length_append, List.map_append]; exact ho') hg ?_
    simpa using hat
structure IntsAt (l : List Int) (g : Nat) (w : World) : Prop where
  lt : g < w.heap.size
  c : ∀ i, i < l.length → w.cell? ⟨g, i, none⟩ = some (.int .i64 (l.getD i 0))
theorem IntsAt.below {l : List Int} {g : Nat} {w w' : World} (h : IntsAt l g w) (hb : Below w.heap.size w w') : IntsAt l g w' :=
  ⟨Nat.lt_of_lt_of_le h.lt hb.size, fun i hi => (hb.cell (p := ⟨g, i, none⟩) h.lt).trans (h.c i hi)⟩
theorem oi_cases {B : Nat} {w : World} {v : Value} {l : List Int} (h : OI B w v l) : (v = .slice none 0 0 ∧ l = []) ∨ ∃ g cap, v = .slice (some ⟨g, 0, none⟩) l.length cap ∧ l.length ≤ cap ∧ cap ≤ 9223372036854775807 ∧ B ≤ g ∧ IntsAt l g w := by
  obtain ⟨h1, h2⟩ := h
  rcases h2 with ⟨rfl, hn⟩ | ⟨g, cap, cur, rfl, hb, hg, hc, hm, hs, ht⟩
  · exact .inl ⟨rfl, List.eq_nil_of_length_eq_zero hn⟩
  · have hlt : g < w.heap.size := (Array.getElem?_eq_some_iff.1 hg).1
    unfold maxLen at hm
    refine .inr ⟨g, cap, rfl, hc, hm, hb, hlt, fun i hi => ?_⟩
    have e : (inC l)[i]? = some (.int .i64 (l.getD i 0)) := by
      unfold inC
      rw [List.getElem?_map, List.getElem?_eq_getElem hi, List.getD_eq_getElem?_getD, List.getElem?_eq_getElem hi]
      rfl
    rw [← e, ← ht, List.getElem?_take, if_pos (by omega)]
    unfold World.cell?
    rw [hg]
    simp
theorem OI.below {B : Nat} {w w' : World} {v : Value} {l : List Int} (h : OI B w v l) (hb : Below w.heap.size w w') : OI B w' v l := by
  refine World.ownsRow.kept h (grown_of_below hb) ?_
  cases v.ownBlock <;> simp
/-- the first of the integers -/
theorem OI.head {B : Nat} {w : World} {g cap : Nat} {l k : List Int} (h : OI B w (.slice (some ⟨g, 0, none⟩) (l ++ k).length cap) (l ++ k)) : OI B w (.slice (some ⟨g, 0, none⟩) l.length cap) l := by
  obtain ⟨h1, h2⟩ := h
  refine ⟨by unfold inC; simp, ?_⟩
  rcases h2 with ⟨e, _⟩ | ⟨g', cap', cur, e, hb, hg, hc, hm, hs, ht⟩
  · cases e
  · cases e
    refine .inr ⟨_, _, cur, rfl, hb, hg, by simp at hc; omega, hm, hs, ?_⟩
    have e2 : List.take (l.length * 1) (List.take ((l ++ k).length * 1) cur.toList) = List.take (l.length * 1) cur.toList := by
      rw [List.take_take]
      congr 1
      simp
    rw [← e2, ht]
    unfold inC
    rw [List.map_append, List.take_append_of_le_length (by simp), List.take_of_length_le (by simp)]
/-- sorted and compacted -/
theorem sort_own {B : Nat} {w : World} {v : Value} {l : List Int} (h : OI B w v l) (hl : l.length ≤ 100000) (hB : B ≤ w.heap.size) :
    Calls Tryz.prog 134 #[v] w fun e w' => e = .returned (.tuple #[]) ∧ OI B w' v (l.mergeSort fun x y => decide (x ≤ y)) ∧ Below B w w' := by
  obtain ⟨h1, h2⟩ := h
  rcases h2 with ⟨rfl, hn⟩ | ⟨g, cap, cur, rfl, hb, hg, hc, hm, hs, ht⟩
  · obtain rfl := List.eq_nil_of_length_eq_zero hn
    refine (Tryz.slices_Sort_int_none none 0 w).mono ?_
    rintro e w' ⟨rfl, rfl⟩
    exact ⟨rfl, by rw [List.mergeSort_nil]; exact World.ownsRow_nil _ _ _ _, Below.refl _ _⟩
  · have hlt : g < w.heap.size := (Array.getElem?_eq_some_iff.1 hg).1
    refine (Tryz.slices_Sort_int g 0 cap l w (holds_of_blockI hg (by unfold inC at ht; rw [Nat.mul_one] at ht; exact ht)) hlt (by omega)).mono ?_
    rintro e w' ⟨rfl, n, os, rfl⟩
    refine ⟨rfl, ?_, below_grown (Below.refl _ _) (grownBy_sortedI _) hB (fun k hk => by cases hk; exact hb)⟩
    have := ownsRow_sortedI (n := n) (os := os) (ss := l) (ts := l.mergeSort fun x y => decide (x ≤ y)) (by rw [List.length_mergeSort]) hb hg hc hm hs
    unfold OI
    rw [List.length_mergeSort]
    exact this
theorem compact_own {B : Nat} {w : World} {v : Value} {l : List Int} (h : OI B w v l) (hl : l.length ≤ 100000) (hB : B ≤ w.heap.size) :
    Calls Tryz.prog 135 #[v] w fun e w' => (∃ u, e = .returned u ∧ OI B w' u (Lib.compact l)) ∧ Below B w w' := by
  obtain ⟨h1, h2⟩ := h
  rcases h2 with ⟨rfl, hn⟩ | ⟨g, cap, cur, rfl, hb, hg, hc, hm, hs, ht⟩
  · obtain rfl := List.eq_nil_of_length_eq_zero hn
    refine (Tryz.slices_Compact_int_empty none 0 w).mono ?_
    rintro e w' ⟨rfl, rfl⟩
    exact ⟨⟨_, rfl, World.ownsRow_nil _ _ _ _⟩, Below.refl _ _⟩
  · refine (Tryz.slices_Compact_int g 0 cap l w (holds_of_blockI hg (by unfold inC at ht; rw [Nat.mul_one] at ht; exact ht)) (by omega) hc).mono ?_
    rintro e w' ⟨rfl, q, rfl⟩
    have hcl := Lib.compact_length_le l
    have G := grownBy_sortedI (w := w) (g := g) (n := q) (os := #[]) (Lib.compact l ++ List.replicate (l.length - (Lib.compact l).length) 0).toArray
    have hlen : (Lib.compact l ++ List.replicate (l.length - (Lib.compact l).length) 0).length = l.length := by simp; omega
    have O := ownsRow_sortedI (n := q) (os := #[]) (ss := l) (ts := Lib.compact l ++ List.replicate (l.length - (Lib.compact l).length) 0) hlen hb hg hc hm hs
    rw [Sort.grow_empty] at G O
    refine ⟨⟨_, rfl, ?_⟩, below_grown (Below.refl _ _) G hB (fun k hk => by cases hk; exact hb)⟩
    refine OI.head (k := List.replicate (l.length - (Lib.compact l).length) 0) ?_
    unfold OI
    rw [hlen]
    exact O
theorem srcs_succ {l : List Ms} {k : Nat} (h : k < l.length) : (l.take (k + 1)).map Ms.s = (l.take k).map Ms.s ++ [(nth l k).s] := by
  rw [take_nth h, List.map_append]
  rfl
def SrR (l : List Ms) (w : World) (v u : Value) (wr : World) : Prop := ∃ k : Nat, u = .int .i64 k ∧ k ≤ l.length ∧ Hid (Below w.heap.size w wr) ∧ Hid (OI w.heap.size wr v ((l.take k).map Ms.s))
set_option maxHeartbeats 4000000 in
set_option maxRecDepth 100000 in
theorem src_some (l : List Ms) (b o cap : Nat) (w : World) (h : MsAt l b o w) (hc : l.length ≤ cap) (hm : cap ≤ 9223372036854775807) (hl : l.length ≤ 18) :
    Calls Tryz.prog 94 #[.slice (some ⟨b, o, none⟩) l.length cap] w fun e w' => (∃ u, e = .returned u ∧ OI w.heap.size w' u (srcL l)) ∧ Below w.heap.size w w' := by
  have H := Lib.hid h
  have hlt := h.lt
  clear h
  go_enter Tryz.func94, Tryz.ntmps94
  go_wp2
  go_loopw [3, 8] (SrR l w) (fun _ i _ => l.length - (intOf i).toNat)
  case atStart => exact ⟨0, rfl, Nat.zero_le _, Lib.hid (Below.refl _ _), Lib.hid (World.ownsRow_nil _ _ _ _)⟩
  case round =>
    obtain ⟨k, rfl, hk, HB, HO⟩ := hrel
    by_cases q : k < l.length
    · have q' : decide (k < l.length) = true := by simpa using q
      have M := H.out.keep HB.out hlt
      have c0 := M.c0 k q
      have c1 := M.c1 k q
      have c2 := M.c2 k q
      have c3 := M.c3 k q
      have c4 := M.c4 k q
      have c5 := M.c5 k q
      have WS := Lib.hid (srcs_succ q)
      have SZ := Lib.hid (show ((l.take k).map Ms.s).length ≤ 100000 by rw [List.length_map, List.length_take]; omega)
      have HS := Lib.hid HB.out.size
      clear M
      generalize hp : nth l k = p at *
      clear hp
      have HA := Lib.hid ((Below.refl wr.heap.size wr).alloc (Nat.le_refl _) (.cells #[.int .i64 p.s, .int .i64 p.a, .int .i64 p.b, .int .i64 p.z, .int .i64 p.d, .int .i64 p.w] 71))
      go_wp2_with (at_builtin; refine Halt.mk ?_)
      unfold Halt
      refine wpList_oi rfl (.tmp 12) (.tmp 15) rfl w.heap.size u3 ((l.take k).map Ms.s) rfl (wr.alloc (.cells #[.int .i64 p.s, .int .i64 p.a, .int .i64 p.b, .int .i64 p.z, .int .i64 p.d, .int .i64 p.w] 71)) (HO.out.below HA.out) _ p.s 1 (by rw [World.size_alloc]; rfl) SZ.out (by have := HS.out; simp; omega) ?_
      intro u2 w5 ho5 hg5 hat5
      have HO5 : Hid (OI w.heap.size w5 u2 ((l.take (k + 1)).map Ms.s)) := Lib.hid (by rw [WS.out]; exact ho5)
      have HB5 : Hid (Below w.heap.size w w5) := Lib.hid (below_grown ((HB.out.trans (HA.out.mono HS.out)).alloc (by simp; have := HS.out; omega) _) hg5 (by simp; have := HS.out; omega) (fun k hk => (World.ownsRow.lt HO.out k hk).1))
      clear hg5 hat5 c0 c1 c2 c3 c4 c5
      obtain ⟨g5, cap5, hu2⟩ := Go.Joins.ownsRow_form ho5 (show 0 < ((l.take k).map Ms.s ++ [p.s]).length by rw [List.length_append, List.length_singleton]; omega)
      obtain ⟨N5, hN5⟩ : ∃ N, ((l.take k).map Ms.s ++ [p.s]).length = N := ⟨_, rfl⟩
      rw [hN5] at hu2
      clear ho5 hN5
      subst hu2
      go_wp2
      go_roundw
      case rel => exact ⟨k + 1, by go_num, by omega, HB5, HO5⟩
      case measure => simp [intOf]; omega
    · obtain rfl : k = l.length := by omega
      rw [List.take_length] at HO
      have HS := HB.out.size
      have L1 : (l.map Ms.s).length ≤ 100000 := by rw [List.length_map]; omega
      have L2 : (srtL l).length ≤ 100000 := by rw [srt_len]; omega
      have SO := Lib.hid (sort_own HO.out L1 HS)
      have CO := Lib.hid fun w1 (h : OI w.heap.size w1 u3 (srtL l)) (hs : w.heap.size ≤ w1.heap.size) => compact_own h L2 hs
      have FM : (∃ x y z, u3 = .slice x y z) := by
        rcases oi_cases HO.out with ⟨h, _⟩ | ⟨g, cap', h, _⟩
        · exact ⟨_, _, _, h⟩
        · exact ⟨_, _, _, h⟩
      obtain ⟨x3, y3, z3, rfl⟩ := FM
      clear HO
      go_wp2_with fail
      refine SO.out.mono ?_
      rintro e w1 ⟨rfl, ho1, hb1⟩
      have C1 := Lib.hid (CO.out w1 ho1 (Nat.le_trans HS hb1.size))
      have HB1 := Lib.hid (HB.out.trans hb1)
      clear ho1 hb1
      go_wp2_with fail
      refine C1.out.mono ?_
      rintro e w2 ⟨⟨u, rfl, ho2⟩, hb2⟩
      have HB2 := Lib.hid (HB1.out.trans hb2)
      have HO2 : Hid (OI w.heap.size w2 u (srcL l)) := Lib.hid ho2
      clear hb2
      have FM : (∃ x y z, u = .slice x y z) := by
        rcases oi_cases ho2 with ⟨h, _⟩ | ⟨g, cap', h, _⟩
        · exact ⟨_, _, _, h⟩
        · exact ⟨_, _, _, h⟩
      obtain ⟨x4, y4, z4, rfl⟩ := FM
      clear ho2
      go_wp2
      go_ret
      exact ⟨⟨_, rfl, HO2.out⟩, HB2.out⟩
theorem src_nil (w : World) :
    Calls Tryz.prog 94 #[.slice none 0 0] w fun e w' => (∃ u, e = .returned u ∧ OI w.heap.size w' u (srcL [])) ∧ Below w.heap.size w w' := by
  have SO := Lib.hid (Tryz.slices_Sort_int_none none 0 w)
  have CO := Lib.hid (Tryz.slices_Compact_int_empty none 0 w)
  go_enter Tryz.func94, Tryz.ntmps94
  go_wp2
  go_loop [3, 8] (fun u v => u = .slice none 0 0 ∧ v = .int .i64 0) (fun _ _ => 0)
  case atStart => exact ⟨rfl, rfl⟩
  case round =>
    obtain ⟨rfl, rfl⟩ := hrel
    go_wp2_with fail
    refine SO.out.mono ?_
    rintro e w1 ⟨rfl, rfl⟩
    go_wp2_with fail
    refine CO.out.mono ?_
    rintro e w2 ⟨rfl, rfl⟩
    go_wp2
    go_ret
    have e : srcL [] = [] := by unfold srcL srtL; rw [List.map_nil, List.mergeSort_nil]; rfl
    exact ⟨⟨_, rfl, by rw [e]; exact World.ownsRow_nil _ _ _ _⟩, Below.refl _ _⟩
theorem src_any (l : List Ms) (v : Value) (w : World) (h : LstAt l v w) (hl : l.length ≤ 18) :
    Calls Tryz.prog 94 #[v] w fun e w' => (∃ u, e = .returned u ∧ OI w.heap.size w' u (srcL l)) ∧ Below w.heap.size w w' := by
  rcases h with ⟨rfl, rfl⟩ | ⟨b, o, cap, rfl, h2, h3, h4⟩
  · exact src_nil w
  · exact src_some l b o cap w h4 h2 h3 hl
end Go.Proofs.YtajmjkliblippaaGreatDoor
namespace Go.Proofs.YtajmjkliblippaaGreatDoor
set_option linter.unusedVariables false
open Go.RowKit
/-- an exact solution with its noise -/
structure Ex where
  x : Int
  y : Int
  u : Int
  v : Int
  t : Int
def ex0 : Ex := ⟨0, 0, 0, 0, 0⟩
def nthE (l : List Ex) (i : Nat) : Ex := l.getD i ex0
theorem nthE_eq {l : List Ex} {i : Nat} (h : i < l.length) : nthE l i = l[i] := by
  unfold nthE
  rw [List.getD_eq_getElem?_getD, List.getElem?_eq_getElem h]
  rfl
def exC (l : List Ex) : List Value := l.flatMap fun m => [Value.int .i64 (hiW m.x), Value.int .u64 (loW m.x), Value.int .i64 (hiW m.y), Value.int .u64 (loW m.y), Value.int .i64 (hiW m.u), Value.int .u64 (loW m.u), Value.int .i64 (hiW m.v), Value.int .u64 (loW m.v), Value.int .i64 m.t]
theorem exC_append (l k : List Ex) : exC (l ++ k) = exC l ++ exC k := by unfold exC; rw [List.flatMap_append]
theorem exC_len (l : List Ex) : (exC l).length = l.length * 9 := by
  induction l with
  | nil => rfl
  | cons m r ih =>
    unfold exC at *
    rw [List.flatMap_cons, List.length_append, ih]
    simp
    omega
theorem exC_get : ∀ (l : List Ex) (i : Nat) (h : i < l.length), (exC l)[i * 9]? = some (.int .i64 (hiW l[i].x)) ∧ (exC l)[i * 9 + 1]? = some (.int .u64 (loW l[i].x)) ∧ (exC l)[i * 9 + 2]? = some (.int .i64 (hiW l[i].y)) ∧ (exC l)[i * 9 + 3]? = some (.int .u64 (loW l[i].y)) ∧ (exC l)[i * 9 + 4]? = some (.int .i64 (hiW l[i].u)) ∧ (exC l)[i * 9 + 5]? = some (.int .u64 (loW l[i].u)) ∧ (exC l)[i * 9 + 6]? = some (.int .i64 (hiW l[i].v)) ∧ (exC l)[i * 9 + 7]? = some (.int .u64 (loW l[i].v)) ∧ (exC l)[i * 9 + 8]? = some (.int .i64 l[i].t)
  | [], i, h => absurd h (by simp)
  | p :: l, 0, h => ⟨rfl, rfl, rfl, rfl, rfl, rfl, rfl, rfl, rfl⟩
  | p :: l, i + 1, h => by
    obtain ⟨a, b, c, d, e, f, g, h, k⟩ := exC_get l i (by simpa using h)
    unfold exC at *
    rw [List.flatMap_cons, show (i + 1) * 9 = i * 9 + 9 by omega]
    exact ⟨a, b, c, d, e, f, g, h, k⟩
/-- a slice of the call's own that holds these solutions -/
def OE (B : Nat) (w : World) (v : Value) (l : List Ex) : Prop := w.ownsRow B 119 9 v l.length (exC l)
theorem infoEx : (Tryz.prog.info? 119).map (fun i => (i.zero, i.size, i.bytes)) = some (some (.agg #[.int .i64 0, .int .u64 0, .int .i64 0, .int .u64 0, .int .i64 0, .int .u64 0, .int .i64 0, .int .u64 0, .int .i64 0]), 9, 72) := by kernel_rfl
theorem wpList_oe {ops : Array Oper} {rest : List Oper} {o : Oper} {a : Act} {Q : Exit → Act → World → Prop} (hgd : o.guard = none) (s x : Operand)
    (ho : o.op = .call { callee := .builtin .append, args := #[s, x], argTypes := #[117, 117] })
    (B : Nat) (v : Value) (l : List Ex) (hs : a.eval s = v) (w0 : World) (h : OE B w0 v l) (T : TypeId) (p : Ex) (c : Nat)
    (hx : a.eval x = .slice (some ⟨w0.heap.size, 0, none⟩) 1 c) (hl : l.length ≤ 100000) (hB : B ≤ w0.heap.size)
    (H : ∀ v' w', OE B w' v' (l ++ [p]) → (w0.alloc (.cells #[.int .i64 (hiW p.x), .int .u64 (loW p.x), .int .i64 (hiW p.y), .int .u64 (loW p.y), .int .i64 (hiW p.u), .int .u64 (loW p.u), .int .i64 (hiW p.v), .int .u64 (loW p.v), .int .i64 p.t] T)).grownBy w' v.ownBlock → (v'.ownBlock = v.ownBlock ∨ v'.ownBlock = some (w0.heap.size + 1)) → wpList Tryz.prog ops Q rest (a.put o.dst v') w') :
    wpList Tryz.prog ops Q (o :: rest) a (w0.alloc (.cells #[.int .i64 (hiW p.x), .int .u64 (loW p.x), .int .i64 (hiW p.y), .int .u64 (loW p.y), .int .i64 (hiW p.u), .int .u64 (loW p.u), .int .i64 (hiW p.v), .int .u64 (loW p.v), .int .i64 p.t] T)) := by
  obtain ⟨i0, hi, hz0, hz1, hz2⟩ := info_parts infoEx
  refine wpList_append_own_at _ hgd s x 117 ho B 119 i0 (.agg #[.int .i64 0, .int .u64 0, .int .i64 0, .int .u64 0, .int .i64 0, .int .u64 0, .int .i64 0, .int .u64 0, .int .i64 0]) 9 72 Tryz.underlying117 hi hz0 hz1 hz2 rfl (by decide) v l.length (exC l) hs (World.ownsRow.alloc h _) ⟨w0.heap.size, 0, none⟩ 1 c (exC [p]) hx (by rw [exC_len]; rfl) ?_ ?_ (by unfold maxLen; omega) (by omega) (by simp; omega) ?_
  · intro j u hu
    have hadd : (⟨w0.heap.size, 0, none⟩ : Addr).add j = ⟨w0.heap.size, j, none⟩ := by unfold Addr.add; split <;> simp_all
    rw [hadd, World.cell?_alloc_at _ _ _ _ (by rfl)]
    unfold exC at hu
    simpa using hu
  · intro u hu
    unfold exC at hu
    simp only [List.flatMap_cons, List.flatMap_nil, List.append_nil, List.mem_cons, List.not_mem_nil, or_false] at hu
    rcases hu with rfl | rfl | rfl | rfl | rfl | rfl | rfl | rfl | rfl <;> rfl
  · intro v' w' ho' hg _ hat
    refine H v' w' (by unfold OE; rw [List.length_append, exC_append]; exact ho') hg ?_
    simpa using hat
structure ExAt (l : List Ex) (g : Nat) (w : World) : Prop where
  lt : g < w.heap.size
  c0 : ∀ i, i < l.length → w.cell? ⟨g, i * 9, none⟩ = some (.int .i64 (hiW (nthE l i).x))
  c1 : ∀ i, i < l.length → w.cell? ⟨g, i * 9 + 1, none⟩ = some (.int .u64 (loW (nthE l i).x))
  c2 : ∀ i, i < l.length → w.cell? ⟨g, i * 9 + 2, none⟩ = some (.int .i64 (hiW (nthE l i).y))
  c3 : ∀ i, i < l.length → w.cell? ⟨g, i * 9 + 3, none⟩ = some (.int .u64 (loW (nthE l i).y))
  c4 : ∀ i, i < l.length → w.cell? ⟨g, i * 9 + 4, none⟩ = some (.int .i64 (hiW (nthE l i).u))
  c5 : ∀ i, i < l.length → w.cell? ⟨g, i * 9 + 5, none⟩ = some (.int .u64 (loW (nthE l i).u))
  c6 : ∀ i, i < l.length → w.cell? ⟨g, i * 9 + 6, none⟩ = some (.int .i64 (hiW (nthE l i).v))
  c7 : ∀ i, i < l.length → w.cell? ⟨g, i * 9 + 7, none⟩ = some (.int .u64 (loW (nthE l i).v))
  c8 : ∀ i, i < l.length → w.cell? ⟨g, i * 9 + 8, none⟩ = some (.int .i64 (nthE l i).t)
theorem ExAt.below {l : List Ex} {g : Nat} {w w' : World} (h : ExAt l g w) (hb : Below w.heap.size w w') : ExAt l g w' :=
  ⟨Nat.lt_of_lt_of_le h.lt hb.size, fun i hi => (hb.cell (p := ⟨g, i * 9, none⟩) h.lt).trans (h.c0 i hi), fun i hi => (hb.cell (p := ⟨g, i * 9 + 1, none⟩) h.lt).trans (h.c1 i hi), fun i hi => (hb.cell (p := ⟨g, i * 9 + 2, none⟩) h.lt).trans (h.c2 i hi), fun i hi => (hb.cell (p := ⟨g, i * 9 + 3, none⟩) h.lt).trans (h.c3 i hi), fun i hi => (hb.cell (p := ⟨g, i * 9 + 4, none⟩) h.lt).trans (h.c4 i hi), fun i hi => (hb.cell (p := ⟨g, i * 9 + 5, none⟩) h.lt).trans (h.c5 i hi), fun i hi => (hb.cell (p := ⟨g, i * 9 + 6, none⟩) h.lt).trans (h.c6 i hi), fun i hi => (hb.cell (p := ⟨g, i * 9 + 7, none⟩) h.lt).trans (h.c7 i hi), fun i hi => (hb.cell (p := ⟨g, i * 9 + 8, none⟩) h.lt).trans (h.c8 i hi)⟩
theorem oe_cases {B : Nat} {w : World} {v : Value} {l : List Ex} (h : OE B w v l) : (v = .slice none 0 0 ∧ l = []) ∨ ∃ g cap, v = .slice (some ⟨g, 0, none⟩) l.length cap ∧ l.length ≤ cap ∧ cap ≤ 9223372036854775807 ∧ ExAt l g w := by
  obtain ⟨h1, h2⟩ := h
  rcases h2 with ⟨rfl, hn⟩ | ⟨g, cap, cur, rfl, hb, hg, hc, hm, hs, ht⟩
  · exact .inl ⟨rfl, List.eq_nil_of_length_eq_zero hn⟩
  · have hlt : g < w.heap.size := (Array.getElem?_eq_some_iff.1 hg).1
    have hget : ∀ j, j < l.length * 9 → w.cell? ⟨g, j, none⟩ = (exC l)[j]? := fun j hj => by
      rw [← ht, List.getElem?_take, if_pos hj]
      unfold World.cell?
      rw [hg]
      simp
    unfold maxLen at hm
    refine .inr ⟨g, cap, rfl, hc, hm, ⟨hlt, fun i hi => ?_, fun i hi => ?_, fun i hi => ?_, fun i hi => ?_, fun i hi => ?_, fun i hi => ?_, fun i hi => ?_, fun i hi => ?_, fun i hi => ?_⟩⟩
    · rw [hget _ (by omega), nthE_eq hi]; exact (exC_get l i hi).1
    · rw [hget _ (by omega), nthE_eq hi]; exact (exC_get l i hi).2.1
    · rw [hget _ (by omega), nthE_eq hi]; exact (exC_get l i hi).2.2.1
    · rw [hget _ (by omega), nthE_eq hi]; exact (exC_get l i hi).2.2.2.1
    · rw [hget _ (by omega), nthE_eq hi]; exact (exC_get l i hi).2.2.2.2.1
    · rw [hget _ (by omega), nthE_eq hi]; exact (exC_get l i hi).2.2.2.2.2.1
    · rw [hget _ (by omega), nthE_eq hi]; exact (exC_get l i hi).2.2.2.2.2.2.1
    · rw [hget _ (by omega), nthE_eq hi]; exact (exC_get l i hi).2.2.2.2.2.2.2.1
    · rw [hget _ (by omega), nthE_eq hi]; exact (exC_get l i hi).2.2.2.2.2.2.2.2
theorem oe_form {B : Nat} {w : World} {v : Value} {l : List Ex} (h : OE B w v l) : ∃ p cap, v = .slice p l.length cap := by
  rcases oe_cases h with ⟨rfl, rfl⟩ | ⟨g, cap, rfl, _⟩
  · exact ⟨none, 0, rfl⟩
  · exact ⟨_, _, rfl⟩
theorem oe_at {B : Nat} {w : World} {p : Option Addr} {cap : Nat} {l : List Ex} (h : OE B w (.slice p l.length cap) l) {k : Nat} (q : k < l.length) : ∃ g, p = some ⟨g, 0, none⟩ ∧ l.length ≤ cap ∧ cap ≤ 9223372036854775807 ∧ ExAt l g w := by
  rcases oe_cases h with ⟨_, rfl⟩ | ⟨g, cap', e, h2, h3, h4⟩
  · exact absurd q (by simp)
  · injection e with e1 e2 e3
    subst e3
    exact ⟨g, e1, h2, h3, h4⟩
theorem OE.below {B : Nat} {w w' : World} {v : Value} {l : List Ex} (h : OE B w v l) (hb : Below w.heap.size w w') : OE B w' v l := by
  refine World.ownsRow.kept h (grown_of_below hb) ?_
  cases v.ownBlock <;> simp
theorem max_snoc (f : Int → Int) (zs : List Int) (z : Int) : maxF f (zs ++ [z]) = max (maxF f zs) (f z) := by
  induction zs with
  | nil => simp only [List.nil_append, maxF]; omega
  | cons a r ih => simp only [List.cons_append, maxF, ih]; omega
end Go.Proofs.YtajmjkliblippaaGreatDoor
namespace Go.Proofs.YtajmjkliblippaaGreatDoor
set_option linter.unusedVariables false
open Go.ChangeShapes Go.WideShapes Go.ChangeAt Go.RowKit Go.Joins

theorem own : ownKnob Tryz.prog.godebug = none := by kernel_rfl
theorem laidOut : laidOutB Tryz.prog = true := by kernel_rfl
section
variable {H : Type} {enc : TypeId × Value → H} {P : Program}
theorem post_of_below {f : Func} {s : ChangeSpec} {apart fresh handsOn again : Bool} {W W' : World} {args : Array Value} {v : Value} {ds gs : List (DataW H)} {before pa pv : List MemPlace}
    (hW : DataW.Whole enc P f.params.toList s.vars apart W args.toList ds gs before)
    (hres : ∀ (b : Nat) (sp : Nat → Bool) (hd : Bool), DataW.TrodAll enc P W' b sp hd f.resultTypes.toList (v.resultList f.resultTypes.size) (s.fn H (ds ++ gs)).results [])
    (hargs : ∀ sp : Nat → Bool, (∀ p ∈ before, sp p.block = true) → DataW.TrodAll enc P W' 0 sp true f.params.toList args.toList (s.fn H (ds ++ gs)).args pa)
    (hvars : ∀ sp : Nat → Bool, (∀ p ∈ before, sp p.block = true) → DataW.TrodVars enc P W' sp s.vars (s.fn H (ds ++ gs)).vars pv)
    (hps : before = pa ++ pv) (hb : Below W.heap.size W W')
    (hok : ∀ (j : Nat) (t : TypeId) (r : Value), f.resultTypes[j]? = some t → (v.resultList f.resultTypes.size)[j]? = some r → Value.okWide P W' .any 0 t r) :
    s.post enc P f apart fresh handsOn again W args v W' := by
  have hlt : ∀ p ∈ before, p.block < W.heap.size := fun p hp => hW.lt p hp
  have hold : ∀ p ∈ before, (fun b => decide (b < W.heap.size)) p.block = true := fun p hp => by simpa using hlt p hp
  refine ⟨ds, gs, before, [], pa, pv, hW, hres _ _ _, hargs _ hold, hvars _ hold, World.keptBut_mono (fun p hp => ⟨hp, ?_⟩) (hb.frame (· ∈ before)), fun _ => ?_⟩
  · rw [hps, List.mem_append] at hp
    exact Or.inr hp
  · obtain ⟨_, _, _, _, _, hz, hn⟩ := hW
    refine ⟨hok, _, _, ([] ++ pa) ++ pv, ⟨[] ++ pa, pv, trodAll_append (hargs _ (fun _ _ => rfl)) (hres _ _ _), hvars _ (fun _ _ => rfl), rfl, ?_, ?_⟩, ?_⟩
    · intro b off hp
      have hin : MemPlace.cell b off ∈ before := by rw [hps]; simpa using hp
      rw [hb.frozen (hlt _ hin)]
      exact hz b off hin
    · intro ha
      have := hn ha
      rw [hps] at this
      simpa using this
    · intro p hp _
      rw [hps]
      simpa using hp
end

/-- the bounds of an int64 -/
theorem bd64 {x : Int} (h : (Lit.int .i64 x).wf = true) : -9223372036854775808 ≤ x ∧ x ≤ 9223372036854775807 := by
  simp [Lit.wf, IntKind.min, IntKind.max, IntKind.signed, IntKind.bits] at h
  exact ⟨by omega, by omega⟩

end Go.Proofs.YtajmjkliblippaaGreatDoor
