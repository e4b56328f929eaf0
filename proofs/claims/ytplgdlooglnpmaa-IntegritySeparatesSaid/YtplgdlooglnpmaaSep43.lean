/-
  The walk of integrity.Separation.
-/
import Derived.Test.YtplgdlooglnpmaaLev43
import Derived.Test.YtplgdlooglnpmaaLevEx
namespace Go.Proofs.Ytplgdlooglnpmaa
set_option linter.unusedVariables false
open Go.RowKit

set_option maxHeartbeats 8000000 in
set_option maxRecDepth 100000 in
theorem sep_any (l : List Ms) (s : Int) (v : Value) (w : World) (h : LstAt l v w) :
    Calls Try.prog 11 #[v, .int .i64 s] w fun e w' => e = .returned (.tuple #[.int .i64 (sepF l s).1.1, .int .i64 (sepF l s).1.2, .int .i64 (sepF l s).2]) ∧ Below w.heap.size w w' := by
  obtain ⟨p, cap, rfl⟩ := lst_form h
  by_cases hs : solE l = 0
  · obtain ⟨hc, hd0, hx, hy⟩ := sol_chk hs
    have SO := Lib.hid fun w h => sol_ok l (.slice p l.length cap) w h hs
    have L18 : l.length ≤ 18 := by have := (okL_of hc).len; omega
    have WO := Lib.hid fun w h => wo_any l s (.slice p l.length cap) w h L18
    have SV := Lib.hid fun v w h => solve_any (woL l s) v w h (chk_wo hc s)
    have EN : Hid ((woL l s).length = l.length → sepF l s = ((0, 0), 6)) := Lib.hid fun q => by unfold sepF; rw [if_pos hs, if_pos q]
    have EV : Hid (¬ (woL l s).length = l.length → sepF l s = if detN (woL l s) = 0 then ((0, 0), 14) else pairF (apartI (cenX l) (solX (woL l s)) (detN (woL l s))) (apartI (cenY l) (solY (woL l s)) (detN (woL l s))) (detN (woL l s))) := Lib.hid fun q => by unfold sepF; rw [if_pos hs, if_neg q]
    have RB := fun hd : detN (woL l s) ≠ 0 => reachB_of ((okL_of hc).wo s) (det_pos (chk_wo hc s) hd) hx hy
    have AB := fun hd => apart_bd (RB hd).c.1 (RB hd).c.2.1 (RB hd).d.1 (RB hd).d.2 (RB hd).x.1 (RB hd).x.2
    have AC := fun hd => apart_bd (RB hd).c.2.2.1 (RB hd).c.2.2.2 (RB hd).d.1 (RB hd).d.2 (RB hd).y.1 (RB hd).y.2
    have AX : Hid (detN (woL l s) ≠ 0 → ∀ w, Calls Try.prog 28 #[.int .i64 (cenX l), wv (solX (woL l s)), .int .i64 (detN (woL l s))] w fun e w' => e = .returned (wv (apartI (cenX l) (solX (woL l s)) (detN (woL l s)))) ∧ Below w.heap.size w w') := Lib.hid fun hd w => by
      have b := AB hd
      have r := RB hd
      obtain ⟨⟨c0, c1, c2, c3⟩, ⟨x0, x1⟩, _, _, _, d0, d1⟩ := r
      exact apart_any _ _ _ w ⟨by omega, by omega⟩ ⟨by omega, by omega⟩ ⟨by omega, by omega⟩ ⟨by omega, by omega⟩ ⟨by omega, by omega⟩
    have AY : Hid (detN (woL l s) ≠ 0 → ∀ w, Calls Try.prog 28 #[.int .i64 (cenY l), wv (solY (woL l s)), .int .i64 (detN (woL l s))] w fun e w' => e = .returned (wv (apartI (cenY l) (solY (woL l s)) (detN (woL l s)))) ∧ Below w.heap.size w w') := Lib.hid fun hd w => by
      have b := AC hd
      have r := RB hd
      obtain ⟨⟨c0, c1, c2, c3⟩, _, ⟨x0, x1⟩, _, _, d0, d1⟩ := r
      exact apart_any _ _ _ w ⟨by omega, by omega⟩ ⟨by omega, by omega⟩ ⟨by omega, by omega⟩ ⟨by omega, by omega⟩ ⟨by omega, by omega⟩
    have SZ : Hid (detN (woL l s) ≠ 0 → ∀ w, Calls Try.prog 27 #[wv (apartI (cenX l) (solX (woL l s)) (detN (woL l s))), wv (apartI (cenY l) (solY (woL l s)) (detN (woL l s))), .int .i64 (detN (woL l s))] w fun e w' => e = .returned (.tuple #[.int .i64 (pairF (apartI (cenX l) (solX (woL l s)) (detN (woL l s))) (apartI (cenY l) (solY (woL l s)) (detN (woL l s))) (detN (woL l s))).1.1, .int .i64 (pairF (apartI (cenX l) (solX (woL l s)) (detN (woL l s))) (apartI (cenY l) (solY (woL l s)) (detN (woL l s))) (detN (woL l s))).1.2, .int .i64 (pairF (apartI (cenX l) (solX (woL l s)) (detN (woL l s))) (apartI (cenY l) (solY (woL l s)) (detN (woL l s))) (detN (woL l s))).2]) ∧ Below w.heap.size w w') := Lib.hid fun hd w => by
      have b := AB hd
      have c := AC hd
      have r := RB hd
      obtain ⟨_, _, _, _, _, d0, d1⟩ := r
      refine sizes_any _ _ _ w ?_ ?_ ?_ ?_ d0 (by omega) <;> unfold apartI <;> omega
    unfold wv at AX AY SZ
    clear hs hc hd0 hx hy L18 RB AB AC
    generalize solX l = X at *
    generalize solY l = Y at *
    generalize detN l = T at *
    generalize cenX l = cx at *
    generalize cenY l = cy at *
    have H0 := Lib.hid h
    have HB := Lib.hid (Below.refl w.heap.size w)
    go_enter Try.func11, Try.ntmps11
    clear h
    go_wp2_with fail
    refine (SO.out _ H0.out).mono ?_
    rintro e1 w1 ⟨rfl, hb1⟩
    replace HB := Lib.hid (HB.out.trans (hb1.mono HB.out.size))
    clear hb1
    go_wp2_with fail
    have KS := Lib.hid (Blk.of (vs := #[.int .i64 (hiW X), .int .u64 (loW X), .int .i64 (hiW Y), .int .u64 (loW Y), .int .i64 T, .int .i64 cx, .int .i64 cy]) (t := 53) (w := w1) (b := w1.heap.size) rfl)
    have hb2 : Below w1.heap.size w1 (w1.alloc (.cells #[.int .i64 (hiW X), .int .u64 (loW X), .int .i64 (hiW Y), .int .u64 (loW Y), .int .i64 T, .int .i64 cx, .int .i64 cy] 53)) := (Below.refl _ _).alloc (Nat.le_refl _) _
    have hnS := HB.out.size
    replace HB := Lib.hid (HB.out.trans (hb2.mono HB.out.size))
    clear hb2
    generalize w1.alloc (.cells #[.int .i64 (hiW X), .int .u64 (loW X), .int .i64 (hiW Y), .int .u64 (loW Y), .int .i64 T, .int .i64 cx, .int .i64 cy] 53) = w2 at *
    generalize w1.heap.size = bS at *
    refine (WO.out _ (H0.out.below HB.out)).mono ?_
    rintro e3 w3 ⟨⟨uw, rfl, how⟩, hb3⟩
    replace HB := Lib.hid (HB.out.trans (hb3.mono HB.out.size))
    replace KS := Lib.hid (KS.out.below hb3)
    clear hb3
    have HW := Lib.hid (OM.lst how)
    clear how
    obtain ⟨pw, cw, hpw⟩ := lst_form HW.out
    subst hpw
    by_cases hn : (woL l s).length = l.length
    · have g : ((woL l s).length == l.length) = true := by simpa using hn
      have g' : (((woL l s).length : Int) == (l.length : Int)) = true := by simp; omega
      have HV := Lib.hid (EN.out hn)
      clear hn
      go_wp2
      refine bodyPost_ret (v := .tuple #[.int .i64 0, .int .i64 0, .int .i64 6]) (by simp [results, Try.results11, go_sem]) rfl ⟨by rw [HV.out], HB.out⟩
    · have g : ((woL l s).length == l.length) = false := by simpa using hn
      have g' : (((woL l s).length : Int) == (l.length : Int)) = false := by simp; omega
      have EV2 := EV.out hn
      clear hn
      go_wp2_with fail
      refine (SV.out _ _ HW.out).mono ?_
      rintro e4 w4 ⟨rfl, hb4⟩
      replace HB := Lib.hid (HB.out.trans (hb4.mono HB.out.size))
      replace KS := Lib.hid (KS.out.below hb4)
      clear hb4
      obtain ⟨x, hx⟩ : ∃ z, solX (woL l s) = z := ⟨_, rfl⟩
      obtain ⟨y, hy⟩ : ∃ z, solY (woL l s) = z := ⟨_, rfl⟩
      obtain ⟨t, ht⟩ : ∃ z, detN (woL l s) = z := ⟨_, rfl⟩
      generalize noiX (woL l s) = u at *
      generalize noiY (woL l s) = v at *
      rw [hx, hy, ht] at EV2 ⊢
      rw [hx, ht] at AX
      rw [hy, ht] at AY
      rw [hx, hy, ht] at SZ
      clear hx hy ht EV EN
      by_cases hd : t = 0
      · have g2 : (t == 0) = true := by simpa using hd
        have HV := Lib.hid (EV2.trans (if_pos hd))
        clear hd EV2 AX AY SZ
        go_wp2
        have KE := Lib.hid (Blk.of (vs := #[.int .i64 (hiW x), .int .u64 (loW x), .int .i64 (hiW y), .int .u64 (loW y), .int .i64 (hiW u), .int .u64 (loW u), .int .i64 (hiW v), .int .u64 (loW v), .int .i64 t]) (t := 57) (w := w4) (b := w4.heap.size) rfl)
        have hb5 : Below w4.heap.size w4 (w4.alloc (.cells #[.int .i64 (hiW x), .int .u64 (loW x), .int .i64 (hiW y), .int .u64 (loW y), .int .i64 (hiW u), .int .u64 (loW u), .int .i64 (hiW v), .int .u64 (loW v), .int .i64 t] 57)) := (Below.refl _ _).alloc (Nat.le_refl _) _
        have hnE := HB.out.size
        have nzE_S := KS.out.lt
        replace HB := Lib.hid (HB.out.trans (hb5.mono HB.out.size))
        replace KS := Lib.hid (KS.out.below hb5)
        clear hb5
        generalize w4.alloc (.cells #[.int .i64 (hiW x), .int .u64 (loW x), .int .i64 (hiW y), .int .u64 (loW y), .int .i64 (hiW u), .int .u64 (loW u), .int .i64 (hiW v), .int .u64 (loW v), .int .i64 t] 57) = w5 at *
        generalize w4.heap.size = bE at *
        have neE_S : bE ≠ bS := by omega
        clear nzE_S
        refine bodyPost_ret (v := .tuple #[.int .i64 0, .int .i64 0, .int .i64 14]) (by simp [results, Try.results11, go_sem]) rfl ⟨by rw [HV.out], HB.out⟩
      · have g2 : (t == 0) = false := by simpa using hd
        have HV := Lib.hid (EV2.trans (if_neg hd))
        have AX := Lib.hid (AX.out hd)
        have AY := Lib.hid (AY.out hd)
        have SZ := Lib.hid (SZ.out hd)
        clear hd EV2
        generalize pairF (apartI cx x t) (apartI cy y t) t = R at *
        generalize apartI cx x t = ax at *
        generalize apartI cy y t = ay at *
        go_wp2_with fail
        have KE := Lib.hid (Blk.of (vs := #[.int .i64 (hiW x), .int .u64 (loW x), .int .i64 (hiW y), .int .u64 (loW y), .int .i64 (hiW u), .int .u64 (loW u), .int .i64 (hiW v), .int .u64 (loW v), .int .i64 t]) (t := 57) (w := w4) (b := w4.heap.size) rfl)
        have hb5 : Below w4.heap.size w4 (w4.alloc (.cells #[.int .i64 (hiW x), .int .u64 (loW x), .int .i64 (hiW y), .int .u64 (loW y), .int .i64 (hiW u), .int .u64 (loW u), .int .i64 (hiW v), .int .u64 (loW v), .int .i64 t] 57)) := (Below.refl _ _).alloc (Nat.le_refl _) _
        have hnE := HB.out.size
        have nzE_S := KS.out.lt
        replace HB := Lib.hid (HB.out.trans (hb5.mono HB.out.size))
        replace KS := Lib.hid (KS.out.below hb5)
        clear hb5
        generalize w4.alloc (.cells #[.int .i64 (hiW x), .int .u64 (loW x), .int .i64 (hiW y), .int .u64 (loW y), .int .i64 (hiW u), .int .u64 (loW u), .int .i64 (hiW v), .int .u64 (loW v), .int .i64 t] 57) = w5 at *
        generalize w4.heap.size = bE at *
        have neE_S : bE ≠ bS := by omega
        clear nzE_S
        have gS_5 := fun d os => cell_regrown (KS.out.c 5 _ rfl) d os
        have gS_6 := fun d os => cell_regrown (KS.out.c 6 _ rfl) d os
        have gE_0 := fun d os => cell_regrown (KE.out.c 0 _ rfl) d os
        have gE_1 := fun d os => cell_regrown (KE.out.c 1 _ rfl) d os
        have gE_2 := fun d os => cell_regrown (KE.out.c 2 _ rfl) d os
        have gE_3 := fun d os => cell_regrown (KE.out.c 3 _ rfl) d os
        have gE_8 := fun d os => cell_regrown (KE.out.c 8 _ rfl) d os
        have rv0 := Lib.hid (fun d os => Calls.regrown_of (AX.out (Go.Sort.grow (redrawn w5 d) os)))
        have rv1 := Lib.hid (fun d os => Calls.regrown_of (AY.out (Go.Sort.grow (redrawn w5 d) os)))
        have rv2 := Lib.hid (fun d os => Calls.regrown_of (SZ.out (Go.Sort.grow (redrawn w5 d) os)))
        refine wp_region_quiet_below (by kernel_rfl) (by kernel_rfl) ?_
        repeat (quiet_step (first | with_reducible exact rv0.out _ _ | with_reducible exact rv1.out _ _ | with_reducible exact rv2.out _ _))
        refine wpQuiet_nil ?_
        intro w6 hw6
        have hb6 : Below w5.heap.size w5 w6 := by
          obtain ⟨⟨dq, osq⟩, hw2⟩ := hw6
          rw [hw2]; exact below_regrown _ dq osq
        clear gS_5 gS_6 gE_0 gE_1 gE_2 gE_3 gE_8 rv0 rv1 rv2 hw6
        replace HB := Lib.hid (HB.out.trans (hb6.mono HB.out.size))
        replace KS := Lib.hid (KS.out.below hb6)
        replace KE := Lib.hid (KE.out.below hb6)
        clear hb6
        go_wp2
        refine bodyPost_ret (v := .tuple #[.int .i64 R.1.1, .int .i64 R.1.2, .int .i64 R.2]) (by simp [results, Try.results11, go_sem]) rfl ⟨by rw [HV.out], HB.out⟩
  · have SO := Lib.hid fun w h => sol_bad l (.slice p l.length cap) w h hs
    have HV : Hid (sepF l s = ((0, 0), solE l)) := Lib.hid (by unfold sepF; rw [if_neg hs])
    have g : (solE l != 0) = true := by simpa using hs
    have g' : (solE l == 0) = false := by simpa using hs
    clear hs
    generalize solE l = c at *
    have H0 := Lib.hid h
    have HB := Lib.hid (Below.refl w.heap.size w)
    go_enter Try.func11, Try.ntmps11
    clear h
    go_wp2_with fail
    refine (SO.out _ H0.out).mono ?_
    rintro e1 w1 ⟨rfl, hb1⟩
    replace HB := Lib.hid (HB.out.trans (hb1.mono HB.out.size))
    clear hb1
    go_wp2
    have KS := Lib.hid (Blk.of (vs := #[.int .i64 0, .int .u64 0, .int .i64 0, .int .u64 0, .int .i64 0, .int .i64 0, .int .i64 0]) (t := 53) (w := w1) (b := w1.heap.size) rfl)
    have hb2 : Below w1.heap.size w1 (w1.alloc (.cells #[.int .i64 0, .int .u64 0, .int .i64 0, .int .u64 0, .int .i64 0, .int .i64 0, .int .i64 0] 53)) := (Below.refl _ _).alloc (Nat.le_refl _) _
    have hnS := HB.out.size
    replace HB := Lib.hid (HB.out.trans (hb2.mono HB.out.size))
    clear hb2
    generalize w1.alloc (.cells #[.int .i64 0, .int .u64 0, .int .i64 0, .int .u64 0, .int .i64 0, .int .i64 0, .int .i64 0] 53) = w2 at *
    generalize w1.heap.size = bS at *
    refine bodyPost_ret (v := .tuple #[.int .i64 0, .int .i64 0, .int .i64 c]) (by simp [results, Try.results11, go_sem]) rfl ⟨by rw [HV.out], HB.out⟩
end Go.Proofs.Ytplgdlooglnpmaa
