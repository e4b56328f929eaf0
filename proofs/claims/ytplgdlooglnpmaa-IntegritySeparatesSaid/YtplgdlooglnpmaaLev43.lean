/-
  The walk of integrity.Level.
-/
import Derived.Test.YtplgdlooglnpmaaAcc43
import Derived.Test.YtplgdlooglnpmaaExOwn43
namespace Go.Proofs.Ytplgdlooglnpmaa
set_option linter.unusedVariables false
open Go.RowKit

def exW (l : List Ms) (k : Int) : Ex := ⟨solX (woL l k), solY (woL l k), noiX (woL l k), noiY (woL l k), detN (woL l k)⟩
def rowsL (l : List Ms) (ks : List Int) : List Ex := ks.map (exW l)
theorem rows_len (l : List Ms) (ks : List Int) : (rowsL l ks).length = ks.length := List.length_map ..
theorem take_int {ks : List Int} {k : Nat} (h : k < ks.length) : ks.take (k + 1) = ks.take k ++ [ks.getD k 0] := by
  rw [List.take_add_one, List.getD_eq_getElem?_getD, List.getElem?_eq_getElem h]
  rfl
theorem rows_succ (l : List Ms) {ks : List Int} {k : Nat} (h : k < ks.length) : rowsL l (ks.take (k + 1)) = rowsL l (ks.take k) ++ [exW l (ks.getD k 0)] := by
  unfold rowsL
  rw [take_int h, List.map_append]
  rfl
theorem rows_nth (l : List Ms) {ks : List Int} {k : Nat} (h : k < ks.length) : nthE (rowsL l ks) k = exW l (ks.getD k 0) := by
  rw [nthE_eq (by rw [rows_len]; exact h)]
  unfold rowsL
  rw [List.getElem_map, List.getD_eq_getElem?_getD, List.getElem?_eq_getElem h]
  rfl
/-- the parts that Level has gathered -/
def LvR1 (l : List Ms) (K : List Int) (W : World) (u s : Value) (wr : World) : Prop := ∃ k : Nat, s = .int .i64 k ∧ k ≤ K.length ∧ Hid (Below W.heap.size W wr) ∧ Hid (OE W.heap.size wr u (rowsL l (K.take k))) ∧ Hid (∀ i, i < k → detN (woL l (K.getD i 0)) ≠ 0)
def mxF (l : List Ms) (cx cy : Int) (k : Int) : Int := (reachF cx cy (woL l k)).1.1
def myF (l : List Ms) (cx cy : Int) (k : Int) : Int := (reachF cx cy (woL l k)).1.2
def LvR2 (l : List Ms) (K : List Int) (cx cy : Int) (bb : Nat) (W : World) (s : Value) (wr : World) : Prop := ∃ k : Nat, s = .int .i64 k ∧ k ≤ K.length ∧ Hid (Below bb W wr) ∧ Hid (Blk [.int .i64 cx, .int .i64 cy, .int .i64 (maxF (mxF l cx cy) (K.take k)), .int .i64 (maxF (myF l cx cy) (K.take k))] bb wr) ∧ Hid (∀ i, i < k → (reachF cx cy (woL l (K.getD i 0))).2 = 0)
theorem chk_wo {l : List Ms} (h : chkL l = 0) (k : Int) : chkL (woL l k) = 0 := by
  have o := (okL_of h).wo k
  exact chkL_of o.len o.ok
theorem getD_mem {K : List Int} {i : Nat} (h : i < K.length) : K.getD i 0 ∈ K := by
  rw [List.getD_eq_getElem?_getD, List.getElem?_eq_getElem h]
  exact List.getElem_mem h
theorem mem_getD {K : List Int} {x : Int} (h : x ∈ K) : ∃ i, i < K.length ∧ K.getD i 0 = x := by
  obtain ⟨i, hi, e⟩ := List.getElem_of_mem h
  exact ⟨i, hi, by rw [List.getD_eq_getElem?_getD, List.getElem?_eq_getElem hi]; exact e⟩
theorem blk_keep {vs : List Value} {b B : Nat} {W w' : World} (h : Blk vs b W) (hb : Below B W w') (hB : b < B) : Blk vs b w' :=
  ⟨Nat.lt_of_lt_of_le h.lt hb.size, fun i v e => (hb.cell (p := ⟨b, i, none⟩) hB).trans (h.c i v e), fun i v e => (hb.frozen (p := ⟨b, i, none⟩) hB).trans (h.f i v e)⟩
theorem ex_keep {l : List Ex} {g B : Nat} {w w' : World} (h : ExAt l g w) (hb : Below B w w') (hB : g < B) : ExAt l g w' :=
  ⟨Nat.lt_of_lt_of_le h.lt hb.size, fun i hi => (hb.cell (p := ⟨g, i * 9, none⟩) hB).trans (h.c0 i hi), fun i hi => (hb.cell (p := ⟨g, i * 9 + 1, none⟩) hB).trans (h.c1 i hi), fun i hi => (hb.cell (p := ⟨g, i * 9 + 2, none⟩) hB).trans (h.c2 i hi), fun i hi => (hb.cell (p := ⟨g, i * 9 + 3, none⟩) hB).trans (h.c3 i hi), fun i hi => (hb.cell (p := ⟨g, i * 9 + 4, none⟩) hB).trans (h.c4 i hi), fun i hi => (hb.cell (p := ⟨g, i * 9 + 5, none⟩) hB).trans (h.c5 i hi), fun i hi => (hb.cell (p := ⟨g, i * 9 + 6, none⟩) hB).trans (h.c6 i hi), fun i hi => (hb.cell (p := ⟨g, i * 9 + 7, none⟩) hB).trans (h.c7 i hi), fun i hi => (hb.cell (p := ⟨g, i * 9 + 8, none⟩) hB).trans (h.c8 i hi)⟩
theorem lev_rank {l : List Ms} (hs : solE l = 0) {k : Int} (h : k ∈ srcL l) (hd : detN (woL l k) = 0) : levF l = (box0, 14) := by
  unfold levF
  rw [if_pos hs, if_pos]
  exact List.any_eq_true.2 ⟨k, h, by unfold rankB; exact decide_eq_true hd⟩
theorem lev_wide {l : List Ms} (hs : solE l = 0) (hr : ∀ i, i < (srcL l).length → detN (woL l ((srcL l).getD i 0)) ≠ 0) {k : Int} (h : k ∈ srcL l) (hw : (reachF (cenX l) (cenY l) (woL l k)).2 ≠ 0) : levF l = (box0, 2) := by
  unfold levF
  rw [if_pos hs, if_neg, if_pos]
  · exact List.any_eq_true.2 ⟨k, h, by unfold wideB; exact decide_eq_true hw⟩
  · intro q
    obtain ⟨z, hz, e⟩ := List.any_eq_true.1 q
    obtain ⟨i, hi, rfl⟩ := mem_getD hz
    exact hr i hi (of_decide_eq_true e)
theorem lev_good {l : List Ms} (hs : solE l = 0) (hr : ∀ i, i < (srcL l).length → detN (woL l ((srcL l).getD i 0)) ≠ 0) (hw : ∀ i, i < (srcL l).length → (reachF (cenX l) (cenY l) (woL l ((srcL l).getD i 0))).2 = 0) :
    levF l = (⟨cenX l, cenY l, maxF (mxF l (cenX l) (cenY l)) (srcL l), maxF (myF l (cenX l) (cenY l)) (srcL l)⟩, 0) := by
  refine lev_val ⟨hs, fun k hk => ?_, fun k hk => ?_⟩
  · obtain ⟨i, hi, rfl⟩ := mem_getD hk
    exact hr i hi
  · obtain ⟨i, hi, rfl⟩ := mem_getD hk
    exact hw i hi
set_option maxHeartbeats 40000000 in
set_option maxRecDepth 100000 in
theorem lev_any (l : List Ms) (v : Value) (w : World) (h : LstAt l v w) :
    Calls Try.prog 13 #[v] w fun e w' => e = .returned (.tuple #[boxV (levF l).1, .int .i64 (levF l).2]) ∧ Below w.heap.size w w' := by
  obtain ⟨p, cap, rfl⟩ := lst_form h
  by_cases hs : solE l = 0
  · obtain ⟨hc, hd, hx, hy⟩ := sol_chk hs
    have SO := Lib.hid fun w h => sol_ok l (.slice p l.length cap) w h hs
    have L18 := Lib.hid (show l.length ≤ 18 by have := (okL_of hc).len; omega)
    have SR := Lib.hid fun w h => src_any l (.slice p l.length cap) w h L18.out
    have HC := Lib.hid hc
    have EV1 := Lib.hid fun k (h : k ∈ srcL l) hd => lev_rank hs h hd
    have EV2 := Lib.hid fun hr k (h : k ∈ srcL l) hw => lev_wide hs hr h hw
    have EV3 := Lib.hid fun hr hw => lev_good hs hr hw
    have RE := Lib.hid fun k (hd : detN (woL l k) ≠ 0) w => reachL_any ((okL_of hc).wo k) (det_pos (chk_wo hc k) hd) hx hy w
    have KM := Lib.hid fun k (h : k < (srcL l).length) => getD_mem h
    have KL := Lib.hid (show (srcL l).length ≤ 18 from Nat.le_trans (src_len l) L18.out)
    clear hs hc hd hx hy
    generalize solX l = X at *
    generalize solY l = Y at *
    generalize detN l = T at *
    generalize cenX l = cx at *
    generalize cenY l = cy at *
    obtain ⟨K, hK⟩ : ∃ x, srcL l = x := ⟨_, rfl⟩
    rw [hK] at SR KM EV1 EV2 EV3 KL
    clear hK
    have H0 := Lib.hid h
    have KZ := Lib.hid (Blk.of (vs := #[.int .i64 0, .int .i64 0, .int .i64 0, .int .i64 0]) (t := 32) (w := w) (b := w.heap.size) (by simp))
    have HB := Lib.hid ((Below.refl w.heap.size w).alloc (by simp; try omega) (.cells #[.int .i64 0, .int .i64 0, .int .i64 0, .int .i64 0] 32))
    go_enter Try.func13, Try.ntmps13
    clear h
    go_wp2_with fail
    generalize w.alloc (.cells #[.int .i64 0, .int .i64 0, .int .i64 0, .int .i64 0] 32) = w0 at *
    refine (SO.out _ (H0.out.below HB.out)).mono ?_
    rintro e1 w1 ⟨rfl, hb1⟩
    replace HB := Lib.hid (HB.out.trans (hb1.mono HB.out.size))
    replace KZ := Lib.hid (KZ.out.below hb1)
    clear hb1
    go_wp2_with fail
    have KS := Lib.hid (Blk.of (vs := #[.int .i64 (hiW X), .int .u64 (loW X), .int .i64 (hiW Y), .int .u64 (loW Y), .int .i64 T, .int .i64 cx, .int .i64 cy]) (t := 53) (w := w1) (b := w1.heap.size) rfl)
    have hb2 : Below w1.heap.size w1 (w1.alloc (.cells #[.int .i64 (hiW X), .int .u64 (loW X), .int .i64 (hiW Y), .int .u64 (loW Y), .int .i64 T, .int .i64 cx, .int .i64 cy] 53)) := (Below.refl _ _).alloc (Nat.le_refl _) _
    have hnS := HB.out.size
    have nzS_Z := KZ.out.lt
    replace HB := Lib.hid (HB.out.trans (hb2.mono HB.out.size))
    replace KZ := Lib.hid (KZ.out.below hb2)
    clear hb2
    generalize w1.alloc (.cells #[.int .i64 (hiW X), .int .u64 (loW X), .int .i64 (hiW Y), .int .u64 (loW Y), .int .i64 T, .int .i64 cx, .int .i64 cy] 53) = w2 at *
    generalize w1.heap.size = bS at *
    have neS_Z : bS ≠ w.heap.size := by omega
    clear nzS_Z
    refine (SR.out _ (H0.out.below HB.out)).mono ?_
    rintro e9 w9 ⟨⟨us, rfl, hoi⟩, hb9⟩
    replace HB := Lib.hid (HB.out.trans (hb9.mono HB.out.size))
    replace KZ := Lib.hid (KZ.out.below hb9)
    replace KS := Lib.hid (KS.out.below hb9)
    clear hb9
    obtain ⟨ps, caps, rfl, IK⟩ : ∃ ps caps, us = .slice ps K.length caps ∧ Hid (∀ k, k < K.length → ∃ g, ps = some ⟨g, 0, none⟩ ∧ K.length ≤ caps ∧ caps ≤ 9223372036854775807 ∧ IntsAt K g w9) := by
      rcases oi_cases hoi with ⟨rfl, e⟩ | ⟨g, cap', rfl, q1, q2, _, q4⟩
      · exact ⟨none, 0, by rw [e]; rfl, Lib.hid fun k hk => absurd hk (by rw [e]; simp)⟩
      · exact ⟨_, cap', rfl, Lib.hid fun k hk => ⟨g, rfl, q1, q2, q4⟩⟩
    clear hoi
    have HL9 := Lib.hid (H0.out.below HB.out)
    have hnS9 := HB.out.size
    go_wp2
    go_loopw [6, 28] (LvR1 l K w9) (fun _ i _ => K.length - (intOf i).toNat)
    case atStart => exact ⟨0, rfl, Nat.zero_le _, Lib.hid (Below.refl _ _), Lib.hid (World.ownsRow_nil _ _ _ _), Lib.hid fun i hi => absurd hi (by omega)⟩
    case round =>
      obtain ⟨k, rfl, hk, HBR, HO, HR⟩ := hrel
      by_cases q : k < K.length
      · replace KZ := Lib.hid (KZ.out.below HBR.out)
        replace KS := Lib.hid (KS.out.below HBR.out)
        replace HB := Lib.hid (HB.out.trans (HBR.out.mono HB.out.size))
        have q' : decide (k < K.length) = true := by simpa using q
        obtain ⟨gk, rfl, hk1, hk2, IA⟩ := IK.out k q
        have ck := (IA.below HBR.out).c k q
        have ckz := (IA.below HBR.out).lt
        clear IA
        have RS := Lib.hid (rows_succ l q)
        have MK := Lib.hid (KM.out k q)
        have RL := Lib.hid (show (rowsL l (K.take k)).length ≤ 100000 by rw [rows_len, List.length_take]; have := KL.out; omega)
        have WO := Lib.hid fun w h => wo_any l (K.getD k 0) (.slice p l.length cap) w h L18.out
        have SV := Lib.hid fun v w h => solve_any (woL l (K.getD k 0)) v w h (chk_wo HC.out _)
        have ER := Lib.hid fun hd => EV1.out _ (KM.out k q) hd
        have EX := Lib.hid (show exW l (K.getD k 0) = ⟨solX (woL l (K.getD k 0)), solY (woL l (K.getD k 0)), noiX (woL l (K.getD k 0)), noiY (woL l (K.getD k 0)), detN (woL l (K.getD k 0))⟩ from rfl)
        have HRD := Lib.hid fun (h : detN (woL l (K.getD k 0)) ≠ 0) i (hi : i < k + 1) => show detN (woL l (K.getD i 0)) ≠ 0 from by rcases Nat.lt_or_ge i k with a | a; exact HR.out i a; rw [show i = k by omega]; exact h
        have OL := Lib.hid (World.ownsRow.lt HO.out)
        have HO2 := Lib.hid (show OE w9.heap.size wr u6 (rowsL l (K.take k)) from HO.out)
        generalize exW l (K.getD k 0) = ex at *
        generalize hkk : K.getD k 0 = kk at *
        clear hkk
        have WE := Lib.hid (rfl : woL l kk = woL l kk)
        generalize woL l kk = lw at *
        clear WE
        go_wp2_with fail
        refine (WO.out _ (HL9.out.below HBR.out)).mono ?_
        rintro e21 w21 ⟨⟨uw, rfl, how⟩, hb21⟩
        have HW := Lib.hid (OM.lst how)
        have HBW := Lib.hid (HBR.out.trans (hb21.mono HBR.out.size))
        have HO3 := Lib.hid (HO2.out.below hb21)
        replace HB := Lib.hid (HB.out.trans (hb21.mono HB.out.size))
        replace KZ := Lib.hid (KZ.out.below hb21)
        replace KS := Lib.hid (KS.out.below hb21)
        clear hb21
        clear how ck ckz
        go_wp2_with fail
        refine (SV.out _ _ HW.out).mono ?_
        rintro e22 w22 ⟨rfl, hb22⟩
        replace HBW := Lib.hid (HBW.out.trans (hb22.mono HBW.out.size))
        replace HO3 := Lib.hid (HO3.out.below hb22)
        replace HB := Lib.hid (HB.out.trans (hb22.mono HB.out.size))
        replace KZ := Lib.hid (KZ.out.below hb22)
        replace KS := Lib.hid (KS.out.below hb22)
        clear hb22
        obtain ⟨x, y, u, v, t⟩ := ex
        have EX1 := EX.out
        injection EX1 with ex1 ex2 ex3 ex4 ex5
        rw [← ex5] at ER HRD
        rw [← ex1, ← ex2, ← ex3, ← ex4, ← ex5]
        clear ex1 ex2 ex3 ex4 ex5
        clear EX
        by_cases hd : t = 0
        · have g : (t == 0) = true := by simpa using hd
          have HV := Lib.hid (ER.out hd)
          clear hd
          have yZ := KZ.out
          have yZ_0 := yZ.c 0 _ rfl
          have yZ_1 := yZ.c 1 _ rfl
          have yZ_2 := yZ.c 2 _ rfl
          have yZ_3 := yZ.c 3 _ rfl
          have yZ_z := yZ.lt
          have yZ_f0 := yZ.f 0 _ rfl
          have yZ_f1 := yZ.f 1 _ rfl
          have yZ_f2 := yZ.f 2 _ rfl
          have yZ_f3 := yZ.f 3 _ rfl
          clear yZ
          go_wp2
          replace KZ := Lib.hid (blk_set (blk_set (blk_set (blk_set KZ.out (j := 0) (by simp) (.int .i64 0)) (j := 1) (by simp) (.int .i64 0)) (j := 2) (by simp) (.int .i64 0)) (j := 3) (by simp) (.int .i64 0))
          replace KS := Lib.hid (blk_other (b := bS) (n := w.heap.size) (j := 3) (blk_other (b := bS) (n := w.heap.size) (j := 2) (blk_other (b := bS) (n := w.heap.size) (j := 1) (blk_other (b := bS) (n := w.heap.size) (j := 0) KS.out (by omega) (.int .i64 0)) (by omega) (.int .i64 0)) (by omega) (.int .i64 0)) (by omega) (.int .i64 0))
          replace HB := Lib.hid ((((HB.out.setCell (p := ⟨w.heap.size, 0, none⟩) (show w.heap.size ≤ w.heap.size by omega) (.int .i64 0)).setCell (p := ⟨w.heap.size, 1, none⟩) (show w.heap.size ≤ w.heap.size by omega) (.int .i64 0)).setCell (p := ⟨w.heap.size, 2, none⟩) (show w.heap.size ≤ w.heap.size by omega) (.int .i64 0)).setCell (p := ⟨w.heap.size, 3, none⟩) (show w.heap.size ≤ w.heap.size by omega) (.int .i64 0))
          clear yZ_0 yZ_1 yZ_2 yZ_3 yZ_z yZ_f0 yZ_f1 yZ_f2 yZ_f3
          generalize (((w22.setCell ⟨w.heap.size, 0, none⟩ (.int .i64 0)).setCell ⟨w.heap.size, 1, none⟩ (.int .i64 0)).setCell ⟨w.heap.size, 2, none⟩ (.int .i64 0)).setCell ⟨w.heap.size, 3, none⟩ (.int .i64 0) = w23 at *
          simp only [List.set] at KZ
          have KE := Lib.hid (Blk.of (vs := #[.int .i64 (hiW x), .int .u64 (loW x), .int .i64 (hiW y), .int .u64 (loW y), .int .i64 (hiW u), .int .u64 (loW u), .int .i64 (hiW v), .int .u64 (loW v), .int .i64 t]) (t := 57) (w := w23) (b := w23.heap.size) rfl)
          have hb24 : Below w23.heap.size w23 (w23.alloc (.cells #[.int .i64 (hiW x), .int .u64 (loW x), .int .i64 (hiW y), .int .u64 (loW y), .int .i64 (hiW u), .int .u64 (loW u), .int .i64 (hiW v), .int .u64 (loW v), .int .i64 t] 57)) := (Below.refl _ _).alloc (Nat.le_refl _) _
          have hnE := HB.out.size
          have nzE_Z := KZ.out.lt
          have nzE_S := KS.out.lt
          replace HB := Lib.hid (HB.out.trans (hb24.mono HB.out.size))
          replace KZ := Lib.hid (KZ.out.below hb24)
          replace KS := Lib.hid (KS.out.below hb24)
          clear hb24
          generalize w23.alloc (.cells #[.int .i64 (hiW x), .int .u64 (loW x), .int .i64 (hiW y), .int .u64 (loW y), .int .i64 (hiW u), .int .u64 (loW u), .int .i64 (hiW v), .int .u64 (loW v), .int .i64 t] 57) = w24 at *
          generalize w23.heap.size = bE at *
          have neE_Z : bE ≠ w.heap.size := by omega
          have neE_S : bE ≠ bS := by omega
          clear nzE_Z nzE_S
          have yZ := KZ.out
          have yZ_0 := yZ.c 0 _ rfl
          have yZ_1 := yZ.c 1 _ rfl
          have yZ_2 := yZ.c 2 _ rfl
          have yZ_3 := yZ.c 3 _ rfl
          have yZ_z := yZ.lt
          clear yZ
          refine bodyPost_ret (v := .tuple #[.agg #[.int .i64 0, .int .i64 0, .int .i64 0, .int .i64 0], .int .i64 14]) (by simp [results, Try.results13, go_sem, yZ_0, yZ_1, yZ_2, yZ_3]) rfl ⟨by rw [HV.out]; rfl, HB.out⟩
        · have g : (t == 0) = false := by simpa using hd
          have HRD2 := Lib.hid (HRD.out hd)
          clear hd
          have HA := Lib.hid ((Below.refl w22.heap.size w22).alloc (Nat.le_refl _) (.cells #[.int .i64 (hiW x), .int .u64 (loW x), .int .i64 (hiW y), .int .u64 (loW y), .int .i64 (hiW u), .int .u64 (loW u), .int .i64 (hiW v), .int .u64 (loW v), .int .i64 t] 57))
          have HS9 := Lib.hid (show w9.heap.size ≤ w22.heap.size from HBW.out.size)
          go_wp2_with (at_builtin; refine Halt.mk ?_)
          unfold Halt
          refine wpList_oe rfl (.tmp 40) (.tmp 42) rfl w9.heap.size u6 (rowsL l (K.take k)) rfl (w22.alloc (.cells #[.int .i64 (hiW x), .int .u64 (loW x), .int .i64 (hiW y), .int .u64 (loW y), .int .i64 (hiW u), .int .u64 (loW u), .int .i64 (hiW v), .int .u64 (loW v), .int .i64 t] 57)) (HO3.out.below HA.out) _ ⟨x, y, u, v, t⟩ 1 (by rw [World.size_alloc]; rfl) RL.out (by have := HS9.out; simp; omega) ?_
          intro u2 w5 ho5 hg5 hat5
          have HO5 : Hid (OE w9.heap.size w5 u2 (rowsL l (K.take (k + 1)))) := Lib.hid (by rw [RS.out]; exact ho5)
          have HB5 : Hid (Below w9.heap.size w9 w5) := Lib.hid (below_grown ((HBW.out.trans (HA.out.mono HS9.out)).alloc (by simp; have := HS9.out; omega) _) hg5 (by simp; have := HS9.out; omega) (fun k hk => (OL.out k hk).1))
          clear hg5 hat5
          obtain ⟨g5, cap5, hu2⟩ := Go.Joins.ownsRow_form ho5 (show 0 < (rowsL l (K.take k) ++ [(⟨x, y, u, v, t⟩ : Ex)]).length by rw [List.length_append, List.length_singleton]; omega)
          obtain ⟨N5, hN5⟩ : ∃ N, (rowsL l (K.take k) ++ [(⟨x, y, u, v, t⟩ : Ex)]).length = N := ⟨_, rfl⟩
          rw [hN5] at hu2
          clear ho5 hN5
          subst hu2
          go_wp2
          exact ⟨⟨k + 1, by go_num, by omega, HB5, HO5, HRD2⟩, by simp [intOf]; omega⟩
      · obtain rfl : k = K.length := by omega
        rw [List.take_length] at HO
        replace KZ := Lib.hid (KZ.out.below HBR.out)
        replace KS := Lib.hid (KS.out.below HBR.out)
        replace HB := Lib.hid (HB.out.trans (HBR.out.mono HB.out.size))
        obtain ⟨pe, cape, hpe⟩ := oe_form HO.out
        subst hpe
        rw [rows_len] at HO
        have EA := Lib.hid fun k (q : k < K.length) => oe_at (p := pe) (cap := cape) (l := rowsL l K) (by rw [rows_len]; exact HO.out) (k := k) (by rw [rows_len]; exact q)
        simp only [rows_len] at *
        clear HO hk q HL9 IK
        have EA2 : Hid (∀ k, k < K.length → ∃ g, pe = some ⟨g, 0, none⟩ ∧ K.length ≤ cape ∧ cape ≤ 9223372036854775807 ∧ g < wr.heap.size ∧ ExAt (rowsL l K) g (wr.alloc (.cells #[.int .i64 cx, .int .i64 cy, .int .i64 0, .int .i64 0] 32))) := Lib.hid fun k q => by
          obtain ⟨g, a1, a2, a3, a4⟩ := EA.out k q
          exact ⟨g, a1, a2, a3, a4.lt, a4.below ((Below.refl _ _).alloc (Nat.le_refl _) _)⟩
        clear EA HBR
        have yS := KS.out
        have yS_0 := yS.c 0 _ rfl
        have yS_1 := yS.c 1 _ rfl
        have yS_2 := yS.c 2 _ rfl
        have yS_3 := yS.c 3 _ rfl
        have yS_4 := yS.c 4 _ rfl
        have yS_5 := yS.c 5 _ rfl
        have yS_6 := yS.c 6 _ rfl
        have yS_z := yS.lt
        clear yS
        go_wp2
        have KB := Lib.hid (Blk.of (vs := #[.int .i64 cx, .int .i64 cy, .int .i64 0, .int .i64 0]) (t := 32) (w := wr) (b := wr.heap.size) rfl)
        have hb31 : Below wr.heap.size wr (wr.alloc (.cells #[.int .i64 cx, .int .i64 cy, .int .i64 0, .int .i64 0] 32)) := (Below.refl _ _).alloc (Nat.le_refl _) _
        have hnB := HB.out.size
        have nzB_Z := KZ.out.lt
        have nzB_S := KS.out.lt
        replace HB := Lib.hid (HB.out.trans (hb31.mono HB.out.size))
        replace KZ := Lib.hid (KZ.out.below hb31)
        replace KS := Lib.hid (KS.out.below hb31)
        clear yS_0 yS_1 yS_2 yS_3 yS_4 yS_5 yS_6 yS_z
        clear hb31
        generalize wr.alloc (.cells #[.int .i64 cx, .int .i64 cy, .int .i64 0, .int .i64 0] 32) = w31 at *
        generalize wr.heap.size = bB at *
        have neB_Z : bB ≠ w.heap.size := by omega
        have neB_S : bB ≠ bS := by omega
        have HZ0 := KZ
        have HS0 := KS
        have HB00 := HB
        have h31 := Nat.le_of_lt KB.out.lt
        go_loopw [50] (LvR2 l K cx cy bB w31) (fun i _ => K.length - (intOf i).toNat)
        case atStart => exact ⟨0, rfl, Nat.zero_le _, Lib.hid (Below.refl _ _), KB, Lib.hid fun i hi => absurd hi (by omega)⟩
        case round =>
          clear KB KZ KS HB
          obtain ⟨k, rfl, hk, HBR, KB, HW⟩ := hrel
          have KZ := Lib.hid (blk_keep HZ0.out HBR.out nzB_Z)
          have KS := Lib.hid (blk_keep HS0.out HBR.out nzB_S)
          have HB := Lib.hid (HB00.out.trans (HBR.out.mono hnB))
          by_cases q : k < K.length
          · have q' : decide (k < K.length) = true := by simpa using q
            obtain ⟨gk, rfl, hk1, hk2, glt, EAT⟩ := EA2.out k q
            have EAW := ex_keep EAT HBR.out glt
            have c0 := EAW.c0 k (by rw [rows_len]; exact q)
            rw [rows_nth l q] at c0
            have c1 := EAW.c1 k (by rw [rows_len]; exact q)
            rw [rows_nth l q] at c1
            have c2 := EAW.c2 k (by rw [rows_len]; exact q)
            rw [rows_nth l q] at c2
            have c3 := EAW.c3 k (by rw [rows_len]; exact q)
            rw [rows_nth l q] at c3
            have c4 := EAW.c4 k (by rw [rows_len]; exact q)
            rw [rows_nth l q] at c4
            have c5 := EAW.c5 k (by rw [rows_len]; exact q)
            rw [rows_nth l q] at c5
            have c6 := EAW.c6 k (by rw [rows_len]; exact q)
            rw [rows_nth l q] at c6
            have c7 := EAW.c7 k (by rw [rows_len]; exact q)
            rw [rows_nth l q] at c7
            have c8 := EAW.c8 k (by rw [rows_len]; exact q)
            rw [rows_nth l q] at c8
            have clt := EAW.lt
            clear EAT EAW
            have MX := Lib.hid (show maxF (mxF l cx cy) (K.take (k + 1)) = max (maxF (mxF l cx cy) (K.take k)) (reachF cx cy (woL l (K.getD k 0))).1.1 by rw [take_int q, max_snoc]; rfl)
            have MY := Lib.hid (show maxF (myF l cx cy) (K.take (k + 1)) = max (maxF (myF l cx cy) (K.take k)) (reachF cx cy (woL l (K.getD k 0))).1.2 by rw [take_int q, max_snoc]; rfl)
            have RE2 := Lib.hid fun w => RE.out (K.getD k 0) (HR.out k q) w
            have ER := Lib.hid fun hw => EV2.out HR.out (K.getD k 0) (KM.out k q) hw
            have RB := reach_bad cx cy (woL l (K.getD k 0))
            have HWN := Lib.hid fun (h : (reachF cx cy (woL l (K.getD k 0))).2 = 0) i (hi : i < k + 1) => show (reachF cx cy (woL l (K.getD i 0))).2 = 0 from by rcases Nat.lt_or_ge i k with a | a; exact HW.out i a; rw [show i = k by omega]; exact h
            generalize maxF (mxF l cx cy) (K.take k) = m1 at *
            generalize maxF (myF l cx cy) (K.take k) = m2 at *
            have EX : exW l (K.getD k 0) = ⟨solX (woL l (K.getD k 0)), solY (woL l (K.getD k 0)), noiX (woL l (K.getD k 0)), noiY (woL l (K.getD k 0)), detN (woL l (K.getD k 0))⟩ := rfl
            generalize exW l (K.getD k 0) = ex at *
            generalize woL l (K.getD k 0) = lw at *
            obtain ⟨x, y, u, v, t⟩ := ex
            injection EX with ex1 ex2 ex3 ex4 ex5
            rw [← ex1, ← ex2, ← ex3, ← ex4, ← ex5] at RE2
            simp only at c0 c1 c2 c3 c4 c5 c6 c7 c8
            clear ex1 ex2 ex3 ex4 ex5
            obtain ⟨R, hR⟩ : ∃ z, reachF cx cy lw = z := ⟨_, rfl⟩
            rw [hR] at RE2 ER RB HWN MX MY
            clear hR
            have yS := KS.out
            have yS_0 := yS.c 0 _ rfl
            have yS_1 := yS.c 1 _ rfl
            have yS_2 := yS.c 2 _ rfl
            have yS_3 := yS.c 3 _ rfl
            have yS_4 := yS.c 4 _ rfl
            have yS_5 := yS.c 5 _ rfl
            have yS_6 := yS.c 6 _ rfl
            have yS_z := yS.lt
            clear yS
            go_wp2_with fail
            have KC := Lib.hid (Blk.of (vs := #[.int .i64 (hiW x), .int .u64 (loW x), .int .i64 (hiW y), .int .u64 (loW y), .int .i64 (hiW u), .int .u64 (loW u), .int .i64 (hiW v), .int .u64 (loW v), .int .i64 t]) (t := 57) (w := wr) (b := wr.heap.size) rfl)
            have hb51 : Below wr.heap.size wr (wr.alloc (.cells #[.int .i64 (hiW x), .int .u64 (loW x), .int .i64 (hiW y), .int .u64 (loW y), .int .i64 (hiW u), .int .u64 (loW u), .int .i64 (hiW v), .int .u64 (loW v), .int .i64 t] 57)) := (Below.refl _ _).alloc (Nat.le_refl _) _
            have hnC := HB.out.size
            have nzC_Z := KZ.out.lt
            have nzC_S := KS.out.lt
            have nzC_B := KB.out.lt
            replace HB := Lib.hid (HB.out.trans (hb51.mono HB.out.size))
            replace KZ := Lib.hid (KZ.out.below hb51)
            replace KS := Lib.hid (KS.out.below hb51)
            replace KB := Lib.hid (KB.out.below hb51)
            replace HBR := Lib.hid (HBR.out.trans (hb51.mono (Nat.le_trans h31 HBR.out.size)))
            clear yS_0 yS_1 yS_2 yS_3 yS_4 yS_5 yS_6 yS_z
            clear hb51
            generalize wr.alloc (.cells #[.int .i64 (hiW x), .int .u64 (loW x), .int .i64 (hiW y), .int .u64 (loW y), .int .i64 (hiW u), .int .u64 (loW u), .int .i64 (hiW v), .int .u64 (loW v), .int .i64 t] 57) = w51 at *
            generalize wr.heap.size = bC at *
            have neC_Z : bC ≠ w.heap.size := by omega
            have neC_S : bC ≠ bS := by omega
            have neC_B : bC ≠ bB := by omega
            clear nzC_Z nzC_S nzC_B
            clear c0 c1 c2 c3 c4 c5 c6 c7 c8 clt
            refine (RE2.out _).mono ?_
            rintro e52 w52 ⟨rfl, hb52⟩
            replace HB := Lib.hid (HB.out.trans (hb52.mono HB.out.size))
            replace KZ := Lib.hid (KZ.out.below hb52)
            replace KS := Lib.hid (KS.out.below hb52)
            replace KB := Lib.hid (KB.out.below hb52)
            replace KC := Lib.hid (KC.out.below hb52)
            replace HBR := Lib.hid (HBR.out.trans (hb52.mono (Nat.le_trans h31 HBR.out.size)))
            clear hb52
            clear RE2
            rcases RB with RB | rfl
            · obtain ⟨⟨rx, ry⟩, re⟩ := R
              simp only at RB
              subst RB
              have HWN2 := Lib.hid (HWN.out rfl)
              have MX2 := Lib.hid MX.out
              have MY2 := Lib.hid MY.out
              clear ER HWN MX MY
              have yB := KB.out
              have yB_0 := yB.c 0 _ rfl
              have yB_1 := yB.c 1 _ rfl
              have yB_2 := yB.c 2 _ rfl
              have yB_3 := yB.c 3 _ rfl
              have yB_z := yB.lt
              have yB_f0 := yB.f 0 _ rfl
              have yB_f1 := yB.f 1 _ rfl
              have yB_f2 := yB.f 2 _ rfl
              have yB_f3 := yB.f 3 _ rfl
              clear yB
              go_wp2
              replace KZ := Lib.hid (blk_other (b := w.heap.size) (n := bB) (j := 3) (blk_other (b := w.heap.size) (n := bB) (j := 2) KZ.out (by omega) (.int .i64 (max m1 rx))) (by omega) (.int .i64 (max m2 ry)))
              replace KS := Lib.hid (blk_other (b := bS) (n := bB) (j := 3) (blk_other (b := bS) (n := bB) (j := 2) KS.out (by omega) (.int .i64 (max m1 rx))) (by omega) (.int .i64 (max m2 ry)))
              replace KB := Lib.hid (blk_set (blk_set KB.out (j := 2) (by simp) (.int .i64 (max m1 rx))) (j := 3) (by simp) (.int .i64 (max m2 ry)))
              replace KC := Lib.hid (blk_other (b := bC) (n := bB) (j := 3) (blk_other (b := bC) (n := bB) (j := 2) KC.out (by omega) (.int .i64 (max m1 rx))) (by omega) (.int .i64 (max m2 ry)))
              replace HB := Lib.hid ((HB.out.setCell (p := ⟨bB, 2, none⟩) (show w.heap.size ≤ bB by omega) (.int .i64 (max m1 rx))).setCell (p := ⟨bB, 3, none⟩) (show w.heap.size ≤ bB by omega) (.int .i64 (max m2 ry)))
              replace HBR := Lib.hid ((HBR.out.setCell (p := ⟨bB, 2, none⟩) (Nat.le_refl _) (.int .i64 (max m1 rx))).setCell (p := ⟨bB, 3, none⟩) (Nat.le_refl _) (.int .i64 (max m2 ry)))
              clear yB_0 yB_1 yB_2 yB_3 yB_z yB_f0 yB_f1 yB_f2 yB_f3
              generalize (w52.setCell ⟨bB, 2, none⟩ (.int .i64 (max m1 rx))).setCell ⟨bB, 3, none⟩ (.int .i64 (max m2 ry)) = w53 at *
              simp only [List.set] at KB
              exact ⟨⟨k + 1, by go_num, by omega, HBR, by rw [MX2.out, MY2.out]; exact KB, HWN2⟩, by simp [intOf]; omega⟩
            · have HV := Lib.hid (ER.out (by simp))
              clear ER HWN MX MY
              have yZ := KZ.out
              have yZ_0 := yZ.c 0 _ rfl
              have yZ_1 := yZ.c 1 _ rfl
              have yZ_2 := yZ.c 2 _ rfl
              have yZ_3 := yZ.c 3 _ rfl
              have yZ_z := yZ.lt
              have yZ_f0 := yZ.f 0 _ rfl
              have yZ_f1 := yZ.f 1 _ rfl
              have yZ_f2 := yZ.f 2 _ rfl
              have yZ_f3 := yZ.f 3 _ rfl
              clear yZ
              go_wp2
              replace KZ := Lib.hid (blk_set (blk_set (blk_set (blk_set KZ.out (j := 0) (by simp) (.int .i64 0)) (j := 1) (by simp) (.int .i64 0)) (j := 2) (by simp) (.int .i64 0)) (j := 3) (by simp) (.int .i64 0))
              replace KS := Lib.hid (blk_other (b := bS) (n := w.heap.size) (j := 3) (blk_other (b := bS) (n := w.heap.size) (j := 2) (blk_other (b := bS) (n := w.heap.size) (j := 1) (blk_other (b := bS) (n := w.heap.size) (j := 0) KS.out (by omega) (.int .i64 0)) (by omega) (.int .i64 0)) (by omega) (.int .i64 0)) (by omega) (.int .i64 0))
              replace KB := Lib.hid (blk_other (b := bB) (n := w.heap.size) (j := 3) (blk_other (b := bB) (n := w.heap.size) (j := 2) (blk_other (b := bB) (n := w.heap.size) (j := 1) (blk_other (b := bB) (n := w.heap.size) (j := 0) KB.out (by omega) (.int .i64 0)) (by omega) (.int .i64 0)) (by omega) (.int .i64 0)) (by omega) (.int .i64 0))
              replace KC := Lib.hid (blk_other (b := bC) (n := w.heap.size) (j := 3) (blk_other (b := bC) (n := w.heap.size) (j := 2) (blk_other (b := bC) (n := w.heap.size) (j := 1) (blk_other (b := bC) (n := w.heap.size) (j := 0) KC.out (by omega) (.int .i64 0)) (by omega) (.int .i64 0)) (by omega) (.int .i64 0)) (by omega) (.int .i64 0))
              replace HB := Lib.hid ((((HB.out.setCell (p := ⟨w.heap.size, 0, none⟩) (show w.heap.size ≤ w.heap.size by omega) (.int .i64 0)).setCell (p := ⟨w.heap.size, 1, none⟩) (show w.heap.size ≤ w.heap.size by omega) (.int .i64 0)).setCell (p := ⟨w.heap.size, 2, none⟩) (show w.heap.size ≤ w.heap.size by omega) (.int .i64 0)).setCell (p := ⟨w.heap.size, 3, none⟩) (show w.heap.size ≤ w.heap.size by omega) (.int .i64 0))
              clear yZ_0 yZ_1 yZ_2 yZ_3 yZ_z yZ_f0 yZ_f1 yZ_f2 yZ_f3
              generalize (((w52.setCell ⟨w.heap.size, 0, none⟩ (.int .i64 0)).setCell ⟨w.heap.size, 1, none⟩ (.int .i64 0)).setCell ⟨w.heap.size, 2, none⟩ (.int .i64 0)).setCell ⟨w.heap.size, 3, none⟩ (.int .i64 0) = w53 at *
              simp only [List.set] at KZ
              have yZ := KZ.out
              have yZ_0 := yZ.c 0 _ rfl
              have yZ_1 := yZ.c 1 _ rfl
              have yZ_2 := yZ.c 2 _ rfl
              have yZ_3 := yZ.c 3 _ rfl
              have yZ_z := yZ.lt
              clear yZ
              refine bodyPost_ret (v := .tuple #[.agg #[.int .i64 0, .int .i64 0, .int .i64 0, .int .i64 0], .int .i64 2]) (by simp [results, Try.results13, go_sem, yZ_0, yZ_1, yZ_2, yZ_3]) rfl ⟨by rw [HV.out]; rfl, HB.out⟩
          · obtain rfl : k = K.length := by omega
            rw [List.take_length] at KB
            have HV := Lib.hid (EV3.out HR.out HW.out)
            generalize maxF (mxF l cx cy) K = m1 at *
            generalize maxF (myF l cx cy) K = m2 at *
            have yZ := KZ.out
            have yZ_0 := yZ.c 0 _ rfl
            have yZ_1 := yZ.c 1 _ rfl
            have yZ_2 := yZ.c 2 _ rfl
            have yZ_3 := yZ.c 3 _ rfl
            have yZ_z := yZ.lt
            have yZ_f0 := yZ.f 0 _ rfl
            have yZ_f1 := yZ.f 1 _ rfl
            have yZ_f2 := yZ.f 2 _ rfl
            have yZ_f3 := yZ.f 3 _ rfl
            clear yZ
            have yB := KB.out
            have yB_0 := yB.c 0 _ rfl
            have yB_1 := yB.c 1 _ rfl
            have yB_2 := yB.c 2 _ rfl
            have yB_3 := yB.c 3 _ rfl
            have yB_z := yB.lt
            clear yB
            go_wp2
            replace KZ := Lib.hid (blk_set (blk_set (blk_set (blk_set KZ.out (j := 0) (by simp) (.int .i64 cx)) (j := 1) (by simp) (.int .i64 cy)) (j := 2) (by simp) (.int .i64 m1)) (j := 3) (by simp) (.int .i64 m2))
            replace KS := Lib.hid (blk_other (b := bS) (n := w.heap.size) (j := 3) (blk_other (b := bS) (n := w.heap.size) (j := 2) (blk_other (b := bS) (n := w.heap.size) (j := 1) (blk_other (b := bS) (n := w.heap.size) (j := 0) KS.out (by omega) (.int .i64 cx)) (by omega) (.int .i64 cy)) (by omega) (.int .i64 m1)) (by omega) (.int .i64 m2))
            replace KB := Lib.hid (blk_other (b := bB) (n := w.heap.size) (j := 3) (blk_other (b := bB) (n := w.heap.size) (j := 2) (blk_other (b := bB) (n := w.heap.size) (j := 1) (blk_other (b := bB) (n := w.heap.size) (j := 0) KB.out (by omega) (.int .i64 cx)) (by omega) (.int .i64 cy)) (by omega) (.int .i64 m1)) (by omega) (.int .i64 m2))
            replace HB := Lib.hid ((((HB.out.setCell (p := ⟨w.heap.size, 0, none⟩) (show w.heap.size ≤ w.heap.size by omega) (.int .i64 cx)).setCell (p := ⟨w.heap.size, 1, none⟩) (show w.heap.size ≤ w.heap.size by omega) (.int .i64 cy)).setCell (p := ⟨w.heap.size, 2, none⟩) (show w.heap.size ≤ w.heap.size by omega) (.int .i64 m1)).setCell (p := ⟨w.heap.size, 3, none⟩) (show w.heap.size ≤ w.heap.size by omega) (.int .i64 m2))
            clear yZ_0 yZ_1 yZ_2 yZ_3 yZ_z yZ_f0 yZ_f1 yZ_f2 yZ_f3 yB_0 yB_1 yB_2 yB_3 yB_z
            generalize (((wr.setCell ⟨w.heap.size, 0, none⟩ (.int .i64 cx)).setCell ⟨w.heap.size, 1, none⟩ (.int .i64 cy)).setCell ⟨w.heap.size, 2, none⟩ (.int .i64 m1)).setCell ⟨w.heap.size, 3, none⟩ (.int .i64 m2) = w51 at *
            simp only [List.set] at KZ
            have yZ := KZ.out
            have yZ_0 := yZ.c 0 _ rfl
            have yZ_1 := yZ.c 1 _ rfl
            have yZ_2 := yZ.c 2 _ rfl
            have yZ_3 := yZ.c 3 _ rfl
            have yZ_z := yZ.lt
            clear yZ
            refine bodyPost_ret (v := .tuple #[.agg #[.int .i64 cx, .int .i64 cy, .int .i64 m1, .int .i64 m2], .int .i64 0]) (by simp [results, Try.results13, go_sem, yZ_0, yZ_1, yZ_2, yZ_3]) rfl ⟨by rw [HV.out]; rfl, HB.out⟩
  · have SO := Lib.hid fun w h => sol_bad l (.slice p l.length cap) w h hs
    have HV : Hid (levF l = (box0, solE l)) := Lib.hid (by unfold levF; rw [if_neg hs])
    have g : (solE l != 0) = true := by simpa using hs
    have g' : (solE l == 0) = false := by simpa using hs
    clear hs
    generalize solE l = c at *
    have H0 := Lib.hid h
    have KZ := Lib.hid (Blk.of (vs := #[.int .i64 0, .int .i64 0, .int .i64 0, .int .i64 0]) (t := 32) (w := w) (b := w.heap.size) (by simp))
    have HB := Lib.hid ((Below.refl w.heap.size w).alloc (by simp; try omega) (.cells #[.int .i64 0, .int .i64 0, .int .i64 0, .int .i64 0] 32))
    go_enter Try.func13, Try.ntmps13
    clear h
    go_wp2_with fail
    generalize w.alloc (.cells #[.int .i64 0, .int .i64 0, .int .i64 0, .int .i64 0] 32) = w0 at *
    refine (SO.out _ (H0.out.below HB.out)).mono ?_
    rintro e1 w1 ⟨rfl, hb1⟩
    replace HB := Lib.hid (HB.out.trans (hb1.mono HB.out.size))
    replace KZ := Lib.hid (KZ.out.below hb1)
    clear hb1
    have yZ := KZ.out
    have yZ_0 := yZ.c 0 _ rfl
    have yZ_1 := yZ.c 1 _ rfl
    have yZ_2 := yZ.c 2 _ rfl
    have yZ_3 := yZ.c 3 _ rfl
    have yZ_z := yZ.lt
    have yZ_f0 := yZ.f 0 _ rfl
    have yZ_f1 := yZ.f 1 _ rfl
    have yZ_f2 := yZ.f 2 _ rfl
    have yZ_f3 := yZ.f 3 _ rfl
    clear yZ
    go_wp2
    replace KZ := Lib.hid (blk_set (blk_set (blk_set (blk_set KZ.out (j := 0) (by simp) (.int .i64 0)) (j := 1) (by simp) (.int .i64 0)) (j := 2) (by simp) (.int .i64 0)) (j := 3) (by simp) (.int .i64 0))
    replace HB := Lib.hid ((((HB.out.setCell (p := ⟨w.heap.size, 0, none⟩) (show w.heap.size ≤ w.heap.size by omega) (.int .i64 0)).setCell (p := ⟨w.heap.size, 1, none⟩) (show w.heap.size ≤ w.heap.size by omega) (.int .i64 0)).setCell (p := ⟨w.heap.size, 2, none⟩) (show w.heap.size ≤ w.heap.size by omega) (.int .i64 0)).setCell (p := ⟨w.heap.size, 3, none⟩) (show w.heap.size ≤ w.heap.size by omega) (.int .i64 0))
    clear yZ_0 yZ_1 yZ_2 yZ_3 yZ_z yZ_f0 yZ_f1 yZ_f2 yZ_f3
    generalize (((w1.setCell ⟨w.heap.size, 0, none⟩ (.int .i64 0)).setCell ⟨w.heap.size, 1, none⟩ (.int .i64 0)).setCell ⟨w.heap.size, 2, none⟩ (.int .i64 0)).setCell ⟨w.heap.size, 3, none⟩ (.int .i64 0) = w2 at *
    simp only [List.set] at KZ
    have KS := Lib.hid (Blk.of (vs := #[.int .i64 0, .int .u64 0, .int .i64 0, .int .u64 0, .int .i64 0, .int .i64 0, .int .i64 0]) (t := 53) (w := w2) (b := w2.heap.size) rfl)
    have hb3 : Below w2.heap.size w2 (w2.alloc (.cells #[.int .i64 0, .int .u64 0, .int .i64 0, .int .u64 0, .int .i64 0, .int .i64 0, .int .i64 0] 53)) := (Below.refl _ _).alloc (Nat.le_refl _) _
    have hnS := HB.out.size
    have nzS_Z := KZ.out.lt
    replace HB := Lib.hid (HB.out.trans (hb3.mono HB.out.size))
    replace KZ := Lib.hid (KZ.out.below hb3)
    clear hb3
    generalize w2.alloc (.cells #[.int .i64 0, .int .u64 0, .int .i64 0, .int .u64 0, .int .i64 0, .int .i64 0, .int .i64 0] 53) = w3 at *
    generalize w2.heap.size = bS at *
    have neS_Z : bS ≠ w.heap.size := by omega
    clear nzS_Z
    have yZ := KZ.out
    have yZ_0 := yZ.c 0 _ rfl
    have yZ_1 := yZ.c 1 _ rfl
    have yZ_2 := yZ.c 2 _ rfl
    have yZ_3 := yZ.c 3 _ rfl
    have yZ_z := yZ.lt
    clear yZ
    refine bodyPost_ret (v := .tuple #[.agg #[.int .i64 0, .int .i64 0, .int .i64 0, .int .i64 0], .int .i64 c]) (by simp [results, Try.results13, go_sem, yZ_0, yZ_1, yZ_2, yZ_3]) rfl ⟨by rw [HV.out]; rfl, HB.out⟩
end Go.Proofs.Ytplgdlooglnpmaa
