/-
  The walk of the reference's Normal.
-/
import Derived.Test.YtplgdlooglnpmaaNorm43
import Derived.Test.YtplgdlooglnpmaaRef42
namespace Go.Proofs.Ytplgdlooglnpmaa
set_option linter.unusedVariables false
open Go.RowKit

set_option maxHeartbeats 8000000 in
set_option maxRecDepth 100000 in
theorem rnormal_any (l : List Ms) (v : Value) (w : World) (h : LstAt l v w) (hc : chkL l = 0) :
    Calls Try.prog 50 #[v] w fun e w' => e = .returned (.tuple #[.agg #[.int .i64 (nXX l), .int .i64 (nXY l), .int .i64 (nYY l), .int .i64 (nXZ l), .int .i64 (nYZ l)], .int .i64 0]) ∧ Below w.heap.size w w' := by
  obtain ⟨p, cap, rfl⟩ := lst_form h
  have OL := Lib.hid (okL_of hc)
  have CH := Lib.hid fun w h => chkref_any l (.slice p l.length cap) w h
  rw [hc] at CH
  clear hc
  have H0 := Lib.hid h
  have KZ := Lib.hid (Blk.of (vs := #[.int .i64 0, .int .i64 0, .int .i64 0, .int .i64 0, .int .i64 0]) (t := 69) (w := w) (b := w.heap.size) (by simp))
  have HB := Lib.hid ((Below.refl w.heap.size w).alloc (by simp; try omega) (.cells #[.int .i64 0, .int .i64 0, .int .i64 0, .int .i64 0, .int .i64 0] 69))
  go_enter Try.func50, Try.ntmps50
  clear h
  go_wp2_with fail
  generalize w.alloc (.cells #[.int .i64 0, .int .i64 0, .int .i64 0, .int .i64 0, .int .i64 0] 69) = w0 at *
  refine (CH.out _ (H0.out.below HB.out)).mono ?_
  rintro e1 w1 ⟨rfl, hb1⟩
  replace HB := Lib.hid (HB.out.trans (hb1.mono HB.out.size))
  replace KZ := Lib.hid (KZ.out.below hb1)
  clear hb1
  go_wp2
  have KN := Lib.hid (Blk.of (vs := #[.int .i64 0, .int .i64 0, .int .i64 0, .int .i64 0, .int .i64 0]) (t := 69) (w := w1) (b := w1.heap.size) rfl)
  have hb2 : Below w1.heap.size w1 (w1.alloc (.cells #[.int .i64 0, .int .i64 0, .int .i64 0, .int .i64 0, .int .i64 0] 69)) := (Below.refl _ _).alloc (Nat.le_refl _) _
  have hnN := HB.out.size
  have nzN_Z := KZ.out.lt
  replace HB := Lib.hid (HB.out.trans (hb2.mono HB.out.size))
  replace KZ := Lib.hid (KZ.out.below hb2)
  clear hb2
  generalize w1.alloc (.cells #[.int .i64 0, .int .i64 0, .int .i64 0, .int .i64 0, .int .i64 0] 69) = w2 at *
  generalize w1.heap.size = bN at *
  have neN_Z : bN ≠ w.heap.size := by omega
  clear nzN_Z
  go_loopw [17] (NrR l p cap w bN) (fun i _ => l.length - (intOf i).toNat)
  case atStart => exact ⟨0, rfl, Nat.zero_le _, HB, KN, KZ⟩
  case round =>
    clear HB KN KZ
    obtain ⟨k, rfl, hk, HB, KN, KZ⟩ := hrel
    by_cases q : k < l.length
    · have q' : decide (k < l.length) = true := by simpa using q
      obtain ⟨b, o, rfl, hcap, hmax, MM⟩ := lst_at (H0.out.below HB.out) q
      have c0 := MM.c0 k q
      have c1 := MM.c1 k q
      have c2 := MM.c2 k q
      have c3 := MM.c3 k q
      have c4 := MM.c4 k q
      have c5 := MM.c5 k q
      have clt := MM.lt
      have NS := nstep OL.out q
      obtain ⟨s0, s1, s2, s3, s4, s5, s6, s7, s8, s9, s10, s11⟩ := NS
      clear MM
      generalize nth l k = m at *
      generalize nXX (l.take k) = A at *
      generalize nXY (l.take k) = B at *
      generalize nYY (l.take k) = C at *
      generalize nXZ (l.take k) = D at *
      generalize nYZ (l.take k) = E at *
      obtain ⟨A1, EA⟩ : ∃ x, nXX (l.take (k + 1)) = x := ⟨_, rfl⟩
      obtain ⟨B1, EB⟩ : ∃ x, nXY (l.take (k + 1)) = x := ⟨_, rfl⟩
      obtain ⟨C1, EC⟩ : ∃ x, nYY (l.take (k + 1)) = x := ⟨_, rfl⟩
      obtain ⟨D1, ED⟩ : ∃ x, nXZ (l.take (k + 1)) = x := ⟨_, rfl⟩
      obtain ⟨E1, EE⟩ : ∃ x, nYZ (l.take (k + 1)) = x := ⟨_, rfl⟩
      rw [EA] at s7
      rw [EB] at s8
      rw [EC] at s9
      rw [ED] at s10
      rw [EE] at s11
      have HA := Lib.hid EA
      have HBB := Lib.hid EB
      have HC := Lib.hid EC
      have HD := Lib.hid ED
      have HE := Lib.hid EE
      clear EA EB EC ED EE
      have yN := KN.out
      have yN_0 := yN.c 0 _ rfl
      have yN_1 := yN.c 1 _ rfl
      have yN_2 := yN.c 2 _ rfl
      have yN_3 := yN.c 3 _ rfl
      have yN_4 := yN.c 4 _ rfl
      have yN_z := yN.lt
      have yN_f0 := yN.f 0 _ rfl
      have yN_f1 := yN.f 1 _ rfl
      have yN_f2 := yN.f 2 _ rfl
      have yN_f3 := yN.f 3 _ rfl
      have yN_f4 := yN.f 4 _ rfl
      clear yN
      have yN := KN.out
      have yN_0 := yN.c 0 _ rfl
      have yN_1 := yN.c 1 _ rfl
      have yN_2 := yN.c 2 _ rfl
      have yN_3 := yN.c 3 _ rfl
      have yN_4 := yN.c 4 _ rfl
      have yN_z := yN.lt
      have yN_f0 := yN.f 0 _ rfl
      have yN_f1 := yN.f 1 _ rfl
      have yN_f2 := yN.f 2 _ rfl
      have yN_f3 := yN.f 3 _ rfl
      have yN_f4 := yN.f 4 _ rfl
      clear yN
      go_wp2
      replace KZ := Lib.hid (blk_other (b := w.heap.size) (n := bN) (j := 4) (blk_other (b := w.heap.size) (n := bN) (j := 3) (blk_other (b := w.heap.size) (n := bN) (j := 2) (blk_other (b := w.heap.size) (n := bN) (j := 1) (blk_other (b := w.heap.size) (n := bN) (j := 0) KZ.out (by omega) (.int .i64 A1)) (by omega) (.int .i64 B1)) (by omega) (.int .i64 C1)) (by omega) (.int .i64 D1)) (by omega) (.int .i64 E1))
      replace KN := Lib.hid (blk_set (blk_set (blk_set (blk_set (blk_set KN.out (j := 0) (by simp) (.int .i64 A1)) (j := 1) (by simp) (.int .i64 B1)) (j := 2) (by simp) (.int .i64 C1)) (j := 3) (by simp) (.int .i64 D1)) (j := 4) (by simp) (.int .i64 E1))
      replace HB := Lib.hid (((((HB.out.setCell (p := ⟨bN, 0, none⟩) (show w.heap.size ≤ bN by omega) (.int .i64 A1)).setCell (p := ⟨bN, 1, none⟩) (show w.heap.size ≤ bN by omega) (.int .i64 B1)).setCell (p := ⟨bN, 2, none⟩) (show w.heap.size ≤ bN by omega) (.int .i64 C1)).setCell (p := ⟨bN, 3, none⟩) (show w.heap.size ≤ bN by omega) (.int .i64 D1)).setCell (p := ⟨bN, 4, none⟩) (show w.heap.size ≤ bN by omega) (.int .i64 E1))
      clear yN_0 yN_1 yN_2 yN_3 yN_4 yN_z yN_f0 yN_f1 yN_f2 yN_f3 yN_f4
      generalize ((((wr.setCell ⟨bN, 0, none⟩ (.int .i64 A1)).setCell ⟨bN, 1, none⟩ (.int .i64 B1)).setCell ⟨bN, 2, none⟩ (.int .i64 C1)).setCell ⟨bN, 3, none⟩ (.int .i64 D1)).setCell ⟨bN, 4, none⟩ (.int .i64 E1) = w51 at *
      simp only [List.set] at KN
      have KM := Lib.hid (Blk.of (vs := #[.int .i64 m.s, .int .i64 m.a, .int .i64 m.b, .int .i64 m.z, .int .i64 m.d, .int .i64 m.w]) (t := 36) (w := w51) (b := w51.heap.size) rfl)
      have hb52 : Below w51.heap.size w51 (w51.alloc (.cells #[.int .i64 m.s, .int .i64 m.a, .int .i64 m.b, .int .i64 m.z, .int .i64 m.d, .int .i64 m.w] 36)) := (Below.refl _ _).alloc (Nat.le_refl _) _
      have hnM := HB.out.size
      have nzM_Z := KZ.out.lt
      have nzM_N := KN.out.lt
      replace HB := Lib.hid (HB.out.trans (hb52.mono HB.out.size))
      replace KZ := Lib.hid (KZ.out.below hb52)
      replace KN := Lib.hid (KN.out.below hb52)
      clear hb52
      generalize w51.alloc (.cells #[.int .i64 m.s, .int .i64 m.a, .int .i64 m.b, .int .i64 m.z, .int .i64 m.d, .int .i64 m.w] 36) = w52 at *
      generalize w51.heap.size = bM at *
      have neM_Z : bM ≠ w.heap.size := by omega
      have neM_N : bM ≠ bN := by omega
      clear nzM_Z nzM_N
      exact ⟨⟨k + 1, by go_num, by omega, HB, by rw [HA.out, HBB.out, HC.out, HD.out, HE.out]; exact KN, KZ⟩, by simp [intOf]; omega⟩
    · obtain rfl : k = l.length := by omega
      rw [List.take_length] at KN
      obtain ⟨A, EA⟩ : ∃ x, nXX l = x := ⟨_, rfl⟩
      rw [EA] at KN
      have HA := Lib.hid EA
      clear EA
      obtain ⟨B, EB⟩ : ∃ x, nXY l = x := ⟨_, rfl⟩
      rw [EB] at KN
      have HBB := Lib.hid EB
      clear EB
      obtain ⟨C, EC⟩ : ∃ x, nYY l = x := ⟨_, rfl⟩
      rw [EC] at KN
      have HC := Lib.hid EC
      clear EC
      obtain ⟨D, ED⟩ : ∃ x, nXZ l = x := ⟨_, rfl⟩
      rw [ED] at KN
      have HD := Lib.hid ED
      clear ED
      obtain ⟨E, EE⟩ : ∃ x, nYZ l = x := ⟨_, rfl⟩
      rw [EE] at KN
      have HE := Lib.hid EE
      clear EE
      have yZ := KZ.out
      have yZ_0 := yZ.c 0 _ rfl
      have yZ_1 := yZ.c 1 _ rfl
      have yZ_2 := yZ.c 2 _ rfl
      have yZ_3 := yZ.c 3 _ rfl
      have yZ_4 := yZ.c 4 _ rfl
      have yZ_z := yZ.lt
      have yZ_f0 := yZ.f 0 _ rfl
      have yZ_f1 := yZ.f 1 _ rfl
      have yZ_f2 := yZ.f 2 _ rfl
      have yZ_f3 := yZ.f 3 _ rfl
      have yZ_f4 := yZ.f 4 _ rfl
      clear yZ
      have yN := KN.out
      have yN_0 := yN.c 0 _ rfl
      have yN_1 := yN.c 1 _ rfl
      have yN_2 := yN.c 2 _ rfl
      have yN_3 := yN.c 3 _ rfl
      have yN_4 := yN.c 4 _ rfl
      have yN_z := yN.lt
      clear yN
      go_wp2
      replace KZ := Lib.hid (blk_set (blk_set (blk_set (blk_set (blk_set KZ.out (j := 0) (by simp) (.int .i64 A)) (j := 1) (by simp) (.int .i64 B)) (j := 2) (by simp) (.int .i64 C)) (j := 3) (by simp) (.int .i64 D)) (j := 4) (by simp) (.int .i64 E))
      replace KN := Lib.hid (blk_other (b := bN) (n := w.heap.size) (j := 4) (blk_other (b := bN) (n := w.heap.size) (j := 3) (blk_other (b := bN) (n := w.heap.size) (j := 2) (blk_other (b := bN) (n := w.heap.size) (j := 1) (blk_other (b := bN) (n := w.heap.size) (j := 0) KN.out (by omega) (.int .i64 A)) (by omega) (.int .i64 B)) (by omega) (.int .i64 C)) (by omega) (.int .i64 D)) (by omega) (.int .i64 E))
      replace HB := Lib.hid (((((HB.out.setCell (p := ⟨w.heap.size, 0, none⟩) (show w.heap.size ≤ w.heap.size by omega) (.int .i64 A)).setCell (p := ⟨w.heap.size, 1, none⟩) (show w.heap.size ≤ w.heap.size by omega) (.int .i64 B)).setCell (p := ⟨w.heap.size, 2, none⟩) (show w.heap.size ≤ w.heap.size by omega) (.int .i64 C)).setCell (p := ⟨w.heap.size, 3, none⟩) (show w.heap.size ≤ w.heap.size by omega) (.int .i64 D)).setCell (p := ⟨w.heap.size, 4, none⟩) (show w.heap.size ≤ w.heap.size by omega) (.int .i64 E))
      clear yZ_0 yZ_1 yZ_2 yZ_3 yZ_4 yZ_z yZ_f0 yZ_f1 yZ_f2 yZ_f3 yZ_f4 yN_0 yN_1 yN_2 yN_3 yN_4 yN_z
      generalize ((((wr.setCell ⟨w.heap.size, 0, none⟩ (.int .i64 A)).setCell ⟨w.heap.size, 1, none⟩ (.int .i64 B)).setCell ⟨w.heap.size, 2, none⟩ (.int .i64 C)).setCell ⟨w.heap.size, 3, none⟩ (.int .i64 D)).setCell ⟨w.heap.size, 4, none⟩ (.int .i64 E) = w51 at *
      simp only [List.set] at KZ
      have yZ := KZ.out
      have yZ_0 := yZ.c 0 _ rfl
      have yZ_1 := yZ.c 1 _ rfl
      have yZ_2 := yZ.c 2 _ rfl
      have yZ_3 := yZ.c 3 _ rfl
      have yZ_4 := yZ.c 4 _ rfl
      have yZ_z := yZ.lt
      clear yZ
      refine bodyPost_ret (v := .tuple #[.agg #[.int .i64 A, .int .i64 B, .int .i64 C, .int .i64 D, .int .i64 E], .int .i64 0]) (by simp [results, Try.results50, go_sem, yZ_0, yZ_1, yZ_2, yZ_3, yZ_4]) rfl ⟨by rw [HA.out, HBB.out, HC.out, HD.out, HE.out], HB.out⟩
set_option maxHeartbeats 8000000 in
set_option maxRecDepth 100000 in
theorem rnormal_bad (l : List Ms) (v : Value) (w : World) (h : LstAt l v w) (hc : chkL l ≠ 0) :
    Calls Try.prog 50 #[v] w fun e w' => e = .returned (.tuple #[.agg #[.int .i64 0, .int .i64 0, .int .i64 0, .int .i64 0, .int .i64 0], .int .i64 (chkL l)]) ∧ Below w.heap.size w w' := by
  obtain ⟨p, cap, rfl⟩ := lst_form h
  have CH := Lib.hid fun w h => chkref_any l (.slice p l.length cap) w h
  have g : (chkL l != 0) = true := by simpa using hc
  have g' : (chkL l == 0) = false := by simpa using hc
  clear hc
  generalize chkL l = c at *
  have H0 := Lib.hid h
  have KZ := Lib.hid (Blk.of (vs := #[.int .i64 0, .int .i64 0, .int .i64 0, .int .i64 0, .int .i64 0]) (t := 69) (w := w) (b := w.heap.size) (by simp))
  have HB := Lib.hid ((Below.refl w.heap.size w).alloc (by simp; try omega) (.cells #[.int .i64 0, .int .i64 0, .int .i64 0, .int .i64 0, .int .i64 0] 69))
  go_enter Try.func50, Try.ntmps50
  clear h
  go_wp2_with fail
  generalize w.alloc (.cells #[.int .i64 0, .int .i64 0, .int .i64 0, .int .i64 0, .int .i64 0] 69) = w0 at *
  refine (CH.out _ (H0.out.below HB.out)).mono ?_
  rintro e1 w1 ⟨rfl, hb1⟩
  replace HB := Lib.hid (HB.out.trans (hb1.mono HB.out.size))
  replace KZ := Lib.hid (KZ.out.below hb1)
  clear hb1
  have yZ := KZ.out
  have yZ_0 := yZ.c 0 _ rfl
  have yZ_1 := yZ.c 1 _ rfl
  have yZ_2 := yZ.c 2 _ rfl
  have yZ_3 := yZ.c 3 _ rfl
  have yZ_4 := yZ.c 4 _ rfl
  have yZ_z := yZ.lt
  have yZ_f0 := yZ.f 0 _ rfl
  have yZ_f1 := yZ.f 1 _ rfl
  have yZ_f2 := yZ.f 2 _ rfl
  have yZ_f3 := yZ.f 3 _ rfl
  have yZ_f4 := yZ.f 4 _ rfl
  clear yZ
  go_wp2
  replace KZ := Lib.hid (blk_set (blk_set (blk_set (blk_set (blk_set KZ.out (j := 0) (by simp) (.int .i64 0)) (j := 1) (by simp) (.int .i64 0)) (j := 2) (by simp) (.int .i64 0)) (j := 3) (by simp) (.int .i64 0)) (j := 4) (by simp) (.int .i64 0))
  replace HB := Lib.hid (((((HB.out.setCell (p := ⟨w.heap.size, 0, none⟩) (show w.heap.size ≤ w.heap.size by omega) (.int .i64 0)).setCell (p := ⟨w.heap.size, 1, none⟩) (show w.heap.size ≤ w.heap.size by omega) (.int .i64 0)).setCell (p := ⟨w.heap.size, 2, none⟩) (show w.heap.size ≤ w.heap.size by omega) (.int .i64 0)).setCell (p := ⟨w.heap.size, 3, none⟩) (show w.heap.size ≤ w.heap.size by omega) (.int .i64 0)).setCell (p := ⟨w.heap.size, 4, none⟩) (show w.heap.size ≤ w.heap.size by omega) (.int .i64 0))
  clear yZ_0 yZ_1 yZ_2 yZ_3 yZ_4 yZ_z yZ_f0 yZ_f1 yZ_f2 yZ_f3 yZ_f4
  generalize ((((w1.setCell ⟨w.heap.size, 0, none⟩ (.int .i64 0)).setCell ⟨w.heap.size, 1, none⟩ (.int .i64 0)).setCell ⟨w.heap.size, 2, none⟩ (.int .i64 0)).setCell ⟨w.heap.size, 3, none⟩ (.int .i64 0)).setCell ⟨w.heap.size, 4, none⟩ (.int .i64 0) = w2 at *
  simp only [List.set] at KZ
  have yZ := KZ.out
  have yZ_0 := yZ.c 0 _ rfl
  have yZ_1 := yZ.c 1 _ rfl
  have yZ_2 := yZ.c 2 _ rfl
  have yZ_3 := yZ.c 3 _ rfl
  have yZ_4 := yZ.c 4 _ rfl
  have yZ_z := yZ.lt
  clear yZ
  refine bodyPost_ret (v := .tuple #[.agg #[.int .i64 0, .int .i64 0, .int .i64 0, .int .i64 0, .int .i64 0], .int .i64 c]) (by simp [results, Try.results50, go_sem, yZ_0, yZ_1, yZ_2, yZ_3, yZ_4]) rfl ⟨rfl, HB.out⟩

end Go.Proofs.Ytplgdlooglnpmaa
