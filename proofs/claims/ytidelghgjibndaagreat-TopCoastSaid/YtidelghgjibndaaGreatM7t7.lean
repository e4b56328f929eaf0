/-
  Walks and laws of the layers below, gathered from several texts.
-/
import Derived.Test.YtidelghgjibndaaGreatM7t6
namespace Go.Proofs.YtidelghgjibndaaGreat
set_option linter.unusedVariables false
open Go.RowKit
def exW (l : List Ms) (k : Int) : Ex := ⟨solX (woL l k), solY (woL l k), noiX (woL l k), noiY (woL l k), detN (woL l k)⟩
def rowsL (l : List Ms) (ks : List Int) : List Ex := ks.map (exW l)
theorem rows_len (l : List Ms) (ks : List Int) : (rowsL l ks).length = ks.length := List.length_map ..
theorem take_int {ks : List Int} {k : Nat} (h : k < ks.length) : ks.take (k + 1) = ks.take k ++ [ks.getD k 0] := by
  rw [List.take_add_one, List.getD_eq_getElem?_getD, List.getElem?_eq_getElem h]
  rfl
theorem rows_succ (l : List Ms) {ks : List Int} {k : Nat} (h : k < ks.length) : rowsL l (ks.take (k + 1)) = rowsL l (ks.take k) ++ [exW l (ks.getD k 0)] := by
  unfold rowsL
  rw [take_int h, List.map_append]
  rfl
theorem rows_nth (l : List Ms) {ks : List Int} {k : Nat} (h : k < ks.length) : nthE (rowsL l ks) k = exW l (ks.getD k 0) := by
  rw [nthE_eq (by rw [rows_len]; exact h)]
  unfold rowsL
  rw [List.getElem_map, List.getD_eq_getElem?_getD, List.getElem?_eq_getElem h]
  rfl
/-- the parts that Level has gathered -/
def LvR1 (l : List Ms) (K : List Int) (W : World) (u s : Value) (wr : World) : Prop := ∃ k : Nat, s = .int .i64 k ∧ k ≤ K.length ∧ Hid (Below W.heap.size W wr) ∧ Hid (OE W.heap.size wr u (rowsL l (K.take k))) ∧ Hid (∀ i, i < k → detN (woL l (K.getD i 0)) ≠ 0)
def mxF (l : List Ms) (cx cy : Int) (k : Int) : Int := (reachF cx cy (woL l k)).1.1
def myF (l : List Ms) (cx cy : Int) (k : Int) : Int := (reachF cx cy (woL l k)).1.2
def LvR2 (l : List Ms) (K : List Int) (cx cy : Int) (bb : Nat) (W : World) (s : Value) (wr : World) : Prop := ∃ k : Nat, s = .int .i64 k ∧ k ≤ K.length ∧ Hid (Below bb W wr) ∧ Hid (Blk [.int .i64 cx, .int .i64 cy, .int .i64 (maxF (mxF l cx cy) (K.take k)), .int .i64 (maxF (myF l cx cy) (K.take k))] bb wr) ∧ Hid (∀ i, i < k → (reachF cx cy (woL l (K.getD i 0))).2 = 0)
theorem chk_wo {l : List Ms} (h : chkL l = 0) (k : Int) : chkL (woL l k) = 0 := by
  have o := (okL_of h).wo k
  exact chkL_of o.len o.ok
theorem getD_mem {K : List Int} {i : Nat} (h : i < K.length) : K.getD i 0 ∈ K := by
  rw [List.getD_eq_getElem?_getD, List.getElem?_eq_getElem h]
  exact List.getElem_mem h
theorem mem_getD {K : List Int} {x : Int} (h : x ∈ K) : ∃ i, i < K.length ∧ K.getD i 0 = x := by
  obtain ⟨i, hi, e⟩ := List.getElem_of_mem h
  exact ⟨i, hi, by rw [List.getD_eq_getElem?_getD, List.getElem?_eq_getElem hi]; exact e⟩
theorem blk_keep {vs : List Value} {b B : Nat} {W w' : World} (h : Blk vs b W) (hb : Below B W w') (hB : b < B) : Blk vs b w' :=
  ⟨Nat.lt_of_lt_of_le h.lt hb.size, fun i v e => (hb.cell (p := ⟨b, i, none⟩) hB).trans (h.c i v e), fun i v e => (hb.frozen (p := ⟨b, i, none⟩) hB).trans (h.f i v e)⟩
theorem ex_keep {l : List Ex} {g B : Nat} {w w' : World} (h : ExAt l g w) (hb : Below B w w') (hB : g < B) : ExAt l g w' :=
  ⟨Nat.lt_of_lt_of_le h.lt hb.size, fun i hi => (hb.cell (p := ⟨g, i * 9, none⟩) hB).trans (h.c0 i hi), fun i hi => (hb.cell (p := ⟨g, i * 9 + 1, none⟩) hB).trans (h.c1 i hi), fun i hi => (hb.cell (p := ⟨g, i * 9 + 2, none⟩) hB).trans (h.c2 i hi), fun i hi => (hb.cell (p := ⟨g, i * 9 + 3, none⟩) hB).trans (h.c3 i hi), fun i hi => (hb.cell (p := ⟨g, i * 9 + 4, none⟩) hB).trans (h.c4 i hi), fun i hi => (hb.cell (p := ⟨g, i * 9 + 5, none⟩) hB).trans (h.c5 i hi), fun i hi => (hb.cell (p := ⟨g, i * 9 + 6, none⟩) hB).trans (h.c6 i hi), fun i hi => (hb.cell (p := ⟨g, i * 9 + 7, none⟩) hB).trans (h.c7 i hi), fun i hi => (hb.cell (p := ⟨g, i * 9 + 8, none⟩) hB).trans (h.c8 i hi)⟩
theorem lev_rank {l : List Ms} (hs : solE l = 0) {k : Int} (h : k ∈ srcL l) (hd : detN (woL l k) = 0) : levF l = (box0, 14) := by
  unfold levF
  rw [if_pos hs, if_pos]
  exact List.any_eq_true.2 ⟨k, h, by unfold rankB; exact decide_eq_true hd⟩
theorem lev_wide {l : List Ms} (hs : solE l = 0) (hr : ∀ i, i < (srcL l).length → detN (woL l ((srcL l).getD i 0)) ≠ 0) {k : Int} (h : k ∈ srcL l) (hw : (reachF (cenX l) (cenY l) (woL l k)).2 ≠ 0) : levF l = (box0, 2) := by
  unfold levF
  rw [if_pos hs, if_neg, if_pos]
  · exact List.any_eq_true.2 ⟨k, h, by unfold wideB; exact decide_eq_true hw⟩
  · intro q
    obtain ⟨z, hz, e⟩ := List.any_eq_true.1 q
    obtain ⟨i, hi, rfl⟩ := mem_getD hz
    exact hr i hi (of_decide_eq_true e)
theorem lev_good {l : List Ms} (hs : solE l = 0) (hr : ∀ i, i < (srcL l).length → detN (woL l ((srcL l).getD i 0)) ≠ 0) (hw : ∀ i, i < (srcL l).length → (reachF (cenX l) (cenY l) (woL l ((srcL l).getD i 0))).2 = 0) :
    levF l = (⟨cenX l, cenY l, maxF (mxF l (cenX l) (cenY l)) (srcL l), maxF (myF l (cenX l) (cenY l)) (srcL l)⟩, 0) := by
  refine lev_val ⟨hs, fun k hk => ?_, fun k hk => ?_⟩
  · obtain ⟨i, hi, rfl⟩ := mem_getD hk
    exact hr i hi
  · obtain ⟨i, hi, rfl⟩ := mem_getD hk
    exact hw i hi
set_option maxHeartbeats 40000000 in
set_option maxRecDepth 100000 in
theorem lev_any (l : List Ms) (v : Value) (w : World) (h : LstAt l v w) :
    Calls Tryz.prog 12 #[v] w fun e w' => e = .returned (.tuple #[boxV (levF l).1, .int .i64 (levF l).2]) ∧ Below w.heap.size w w' := by
  obtain ⟨p, cap, rfl⟩ := lst_form h
  by_cases hs : solE l = 0
  · obtain ⟨hc, hd, hx, hy⟩ := sol_chk hs
    have SO := Lib.hid fun w h => sol_ok l (.slice p l.length cap) w h hs
    have L18 := Lib.hid (show l.length ≤ 18 by have := (okL_of hc).len; omega)
    have SR := Lib.hid fun w h => src_any l (.slice p l.length cap) w h L18.out
    have HC := Lib.hid hc
    have EV1 := Lib.hid fun k (h : k ∈ srcL l) hd => lev_rank hs h hd
    have EV2 := Lib.hid fun hr k (h : k ∈ srcL l) hw => lev_wide hs hr h hw
    have EV3 := Lib.hid fun hr hw => lev_good hs hr hw
    have RE := Lib.hid fun k (hd : detN (woL l k) ≠ 0) w => reachL_any ((okL_of hc).wo k) (det_pos (chk_wo hc k) hd) hx hy w
    have KM := Lib.hid fun k (h : k < (srcL l).length) => getD_mem h
    have KL := Lib.hid (show (srcL l).length ≤ 18 from Nat.le_trans (src_len l) L18.out)
    clear hs hc hd hx hy
    generalize solX l = X at *
    generalize solY l = Y at *
    generalize detN l = T at *
    generalize cenX l = cx at *
    generalize cenY l = cy at *
    obtain ⟨K, hK⟩ : ∃ x, srcL l = x := ⟨_, rfl⟩
    rw [hK] at SR KM EV1 EV2 EV3 KL
    clear hK
    have H0 := Lib.hid h
    obtain ⟨KZ, HB⟩ := ent1 w #[.int .i64 0, .int .i64 0, .int .i64 0, .int .i64 0] 26
    go_enter Tryz.func12, Tryz.ntmps12
    clear h
    go_wp2_with fail
    generalize w.alloc (.cells #[.int .i64 0, .int .i64 0, .int .i64 0, .int .i64 0] 26) = w0 at *
    refine (SO.out _ (H0.out.below HB.out)).mono ?_
    rintro e1 w1 ⟨rfl, hb1⟩
    replace HB := hT HB hb1
    replace KZ := hK KZ hb1
    clear hb1
    go_wp2_with fail
    obtain ⟨KS, hb2⟩ := alB w1 #[.int .i64 (hiW X), .int .u64 (loW X), .int .i64 (hiW Y), .int .u64 (loW Y), .int .i64 T, .int .i64 cx, .int .i64 cy] 81
    have hnS := HB.out.size
    have nzS_Z := KZ.out.lt
    replace HB := hT HB hb2
    replace KZ := hK KZ hb2
    clear hb2
    generalize w1.alloc (.cells #[.int .i64 (hiW X), .int .u64 (loW X), .int .i64 (hiW Y), .int .u64 (loW Y), .int .i64 T, .int .i64 cx, .int .i64 cy] 81) = w2 at *
    generalize w1.heap.size = bS at *
    have neS_Z : bS ≠ w.heap.size := by omega
    clear nzS_Z
    refine (SR.out _ (H0.out.below HB.out)).mono ?_
    rintro e9 w9 ⟨⟨us, rfl, hoi⟩, hb9⟩
    replace HB := hT HB hb9
    replace KZ := hK KZ hb9
    replace KS := hK KS hb9
    clear hb9
    obtain ⟨ps, caps, rfl, IK⟩ : ∃ ps caps, us = .slice ps K.length caps ∧ Hid (∀ k, k < K.length → ∃ g, ps = some ⟨g, 0, none⟩ ∧ K.length ≤ caps ∧ caps ≤ 9223372036854775807 ∧ IntsAt K g w9) := by
      rcases oi_cases hoi with ⟨rfl, e⟩ | ⟨g, cap', rfl, q1, q2, _, q4⟩
      · exact ⟨none, 0, by rw [e]; rfl, Lib.hid fun k hk => absurd hk (by rw [e]; simp)⟩
      · exact ⟨_, cap', rfl, Lib.hid fun k hk => ⟨g, rfl, q1, q2, q4⟩⟩
    clear hoi
    have HL9 := Lib.hid (H0.out.below HB.out)
    have hnS9 := HB.out.size
    go_wp2
    go_loopw [6, 28] (LvR1 l K w9) (fun _ i _ => K.length - (intOf i).toNat)
    case atStart => exact ⟨0, rfl, Nat.zero_le _, Lib.hid (Below.refl _ _), Lib.hid (World.ownsRow_nil _ _ _ _), Lib.hid fun i hi => absurd hi (by omega)⟩
    case round =>
      obtain ⟨k, rfl, hk, HBR, HO, HR⟩ := hrel
      by_cases q : k < K.length
      · replace KZ := Lib.hid (KZ.out.below HBR.out)
        replace KS := Lib.hid (KS.out.below HBR.out)
        replace HB := Lib.hid (HB.out.trans (HBR.out.mono HB.out.size))
        have q' : decide (k < K.length) = true := by simpa using q
        obtain ⟨gk, rfl, hk1, hk2, IA⟩ := IK.out k q
        have ck := (IA.below HBR.out).c k q
        have ckz := (IA.below HBR.out).lt
        clear IA
        have RS := Lib.hid (rows_succ l q)
        have MK := Lib.hid (KM.out k q)
        have RL := Lib.hid (show (rowsL l (K.take k)).length ≤ 100000 by rw [rows_len, List.length_take]; have := KL.out; omega)
        have WO := Lib.hid fun w h => wo_any l (K.getD k 0) (.slice p l.length cap) w h L18.out
        have SV := Lib.hid fun v w h => solve_any (woL l (K.getD k 0)) v w h (chk_wo HC.out _)
        have ER := Lib.hid fun hd => EV1.out _ (KM.out k q) hd
        have EX := Lib.hid (show exW l (K.getD k 0) = ⟨solX (woL l (K.getD k 0)), solY (woL l (K.getD k 0)), noiX (woL l (K.getD k 0)), noiY (woL l (K.getD k 0)), detN (woL l (K.getD k 0))⟩ from rfl)
        have HRD := Lib.hid fun (h : detN (woL l (K.getD k 0)) ≠ 0) i (hi : i < k + 1) => show detN (woL l (K.getD i 0)) ≠ 0 from by rcases Nat.lt_or_ge i k with a | a; exact HR.out i a; rw [show i = k by omega]; exact h
        have OL := Lib.hid (World.ownsRow.lt HO.out)
        have HO2 := Lib.hid (show OE w9.heap.size wr u6 (rowsL l (K.take k)) from HO.out)
        generalize exW l (K.getD k 0) = ex at *
        generalize hkk : K.getD k 0 = kk at *
        clear hkk
        have WE := Lib.hid (rfl : woL l kk = woL l kk)
        generalize woL l kk = lw at *
        clear WE
        go_wp2_with fail
        refine (WO.out _ (HL9.out.below HBR.out)).mono ?_
        rintro e21 w21 ⟨⟨uw, rfl, how⟩, hb21⟩
        have HW := Lib.hid (OM.lst how)
        have HBW := Lib.hid (HBR.out.trans (hb21.mono HBR.out.size))
        have HO3 := Lib.hid (HO2.out.below hb21)
        replace HB := hT HB hb21
        replace KZ := hK KZ hb21
        replace KS := hK KS hb21
        clear hb21
        clear how ck ckz
        go_wp2_with fail
        refine (SV.out _ _ HW.out).mono ?_
        rintro e22 w22 ⟨rfl, hb22⟩
        replace HBW := Lib.hid (HBW.out.trans (hb22.mono HBW.out.size))
        replace HO3 := Lib.hid (HO3.out.below hb22)
        replace HB := hT HB hb22
        replace KZ := hK KZ hb22
        replace KS := hK KS hb22
        clear hb22
        obtain ⟨x, y, u, v, t⟩ := ex
        have EX1 := EX.out
        injection EX1 with ex1 ex2 ex3 ex4 ex5
        rw [← ex5] at ER HRD
        rw [← ex1, ← ex2, ← ex3, ← ex4, ← ex5]
        clear ex1 ex2 ex3 ex4 ex5
        clear EX
        by_cases hd : t = 0
        · have g : (t == 0) = true := by simpa using hd
          have HV := Lib.hid (ER.out hd)
          clear hd
          obtain ⟨yZ_0, yZ_1, yZ_2, yZ_3, yZ_z, yZ_f0, yZ_f1, yZ_f2, yZ_f3⟩ := blf4 KZ
          go_wp2
          have hs := st4 w22 w.heap.size 0 (.int .i64 0) 1 (.int .i64 0) 2 (.int .i64 0) 3 (.int .i64 0)
          replace KZ := Lib.hid (blk_set (blk_set (blk_set (blk_set KZ.out (j := 0) (by simp) (.int .i64 0)) (j := 1) (by simp) (.int .i64 0)) (j := 2) (by simp) (.int .i64 0)) (j := 3) (by simp) (.int .i64 0))
          replace KS := oB hs KS (by omega)
          replace HB := oH hs HB (by omega)
          clear hs
          clear yZ_0 yZ_1 yZ_2 yZ_3 yZ_z yZ_f0 yZ_f1 yZ_f2 yZ_f3
          generalize (((w22.setCell ⟨w.heap.size, 0, none⟩ (.int .i64 0)).setCell ⟨w.heap.size, 1, none⟩ (.int .i64 0)).setCell ⟨w.heap.size, 2, none⟩ (.int .i64 0)).setCell ⟨w.heap.size, 3, none⟩ (.int .i64 0) = w23 at *
          simp only [List.set] at KZ
          obtain ⟨KE, hb24⟩ := alB w23 #[.int .i64 (hiW x), .int .u64 (loW x), .int .i64 (hiW y), .int .u64 (loW y), .int .i64 (hiW u), .int .u64 (loW u), .int .i64 (hiW v), .int .u64 (loW v), .int .i64 t] 88
          have hnE := HB.out.size
          have nzE_Z := KZ.out.lt
          have nzE_S := KS.out.lt
          replace HB := hT HB hb24
          replace KZ := hK KZ hb24
          replace KS := hK KS hb24
          clear hb24
          generalize w23.alloc (.cells #[.int .i64 (hiW x), .int .u64 (loW x), .int .i64 (hiW y), .int .u64 (loW y), .int .i64 (hiW u), .int .u64 (loW u), .int .i64 (hiW v), .int .u64 (loW v), .int .i64 t] 88) = w24 at *
          generalize w23.heap.size = bE at *
          have neE_Z : bE ≠ w.heap.size := by omega
          have neE_S : bE ≠ bS := by omega
          clear nzE_Z nzE_S
          obtain ⟨yZ_0, yZ_1, yZ_2, yZ_3, yZ_z⟩ := blk4 KZ
          refine bodyPost_ret (v := .tuple #[.agg #[.int .i64 0, .int .i64 0, .int .i64 0, .int .i64 0], .int .i64 14]) (by simp [results, Tryz.results12, go_sem, yZ_0, yZ_1, yZ_2, yZ_3]) rfl ⟨by rw [HV.out]; rfl, HB.out⟩
        · have g : (t == 0) = false := by simpa using hd
          have HRD2 := Lib.hid (HRD.out hd)
          clear hd
          have HA := Lib.hid ((Below.refl w22.heap.size w22).alloc (Nat.le_refl _) (.cells #[.int .i64 (hiW x), .int .u64 (loW x), .int .i64 (hiW y), .int .u64 (loW y), .int .i64 (hiW u), .int .u64 (loW u), .int .i64 (hiW v), .int .u64 (loW v), .int .i64 t] 88))
          have HS9 := Lib.hid (show w9.heap.size ≤ w22.heap.size from HBW.out.size)
          go_wp2_with (at_builtin; refine Halt.mk ?_)
          unfold Halt
          refine wpList_oe rfl (.tmp 40) (.tmp 42) rfl w9.heap.size u6 (rowsL l (K.take k)) rfl (w22.alloc (.cells #[.int .i64 (hiW x), .int .u64 (loW x), .int .i64 (hiW y), .int .u64 (loW y), .int .i64 (hiW u), .int .u64 (loW u), .int .i64 (hiW v), .int .u64 (loW v), .int .i64 t] 88)) (HO3.out.below HA.out) _ ⟨x, y, u, v, t⟩ 1 (by rw [World.size_alloc]; rfl) RL.out (by have := HS9.out; simp; omega) ?_
          intro u2 w5 ho5 hg5 hat5
          have HO5 : Hid (OE w9.heap.size w5 u2 (rowsL l (K.take (k + 1)))) := Lib.hid (by rw [RS.out]; exact ho5)
          have HB5 : Hid (Below w9.heap.size w9 w5) := Lib.hid (below_grown ((HBW.out.trans (HA.out.mono HS9.out)).alloc (by simp; have := HS9.out; omega) _) hg5 (by simp; have := HS9.out; omega) (fun k hk => (OL.out k hk).1))
          clear hg5 hat5
          obtain ⟨g5, cap5, hu2⟩ := Go.Joins.ownsRow_form ho5 (show 0 < (rowsL l (K.take k) ++ [(⟨x, y, u, v, t⟩ : Ex)]).length by rw [List.length_append, List.length_singleton]; omega)
          obtain ⟨N5, hN5⟩ : ∃ N, (rowsL l (K.take k) ++ [(⟨x, y, u, v, t⟩ : Ex)]).length = N := ⟨_, rfl⟩
          rw [hN5] at hu2
          clear ho5 hN5
          subst hu2
          go_wp2
          exact ⟨⟨k + 1, by go_num, by omega, HB5, HO5, HRD2⟩, by simp [intOf]; omega⟩
      · obtain rfl : k = K.length := by omega
        rw [List.take_length] at HO
        replace KZ := Lib.hid (KZ.out.below HBR.out)
        replace KS := Lib.hid (KS.out.below HBR.out)
        replace HB := Lib.hid (HB.out.trans (HBR.out.mono HB.out.size))
        obtain ⟨pe, cape, hpe⟩ := oe_form HO.out
        subst hpe
        rw [rows_len] at HO
        have EA := Lib.hid fun k (q : k < K.length) => oe_at (p := pe) (cap := cape) (l := rowsL l K) (by rw [rows_len]; exact HO.out) (k := k) (by rw [rows_len]; exact q)
        simp only [rows_len] at *
        clear HO hk q HL9 IK
        have EA2 : Hid (∀ k, k < K.length → ∃ g, pe = some ⟨g, 0, none⟩ ∧ K.length ≤ cape ∧ cape ≤ 9223372036854775807 ∧ g < wr.heap.size ∧ ExAt (rowsL l K) g (wr.alloc (.cells #[.int .i64 cx, .int .i64 cy, .int .i64 0, .int .i64 0] 26))) := Lib.hid fun k q => by
          obtain ⟨g, a1, a2, a3, a4⟩ := EA.out k q
          exact ⟨g, a1, a2, a3, a4.lt, a4.below ((Below.refl _ _).alloc (Nat.le_refl _) _)⟩
        clear EA HBR
        obtain ⟨yS_0, yS_1, yS_2, yS_3, yS_4, yS_5, yS_6, yS_z⟩ := blk7 KS
        go_wp2
        obtain ⟨KB, hb31⟩ := alB wr #[.int .i64 cx, .int .i64 cy, .int .i64 0, .int .i64 0] 26
        have hnB := HB.out.size
        have nzB_Z := KZ.out.lt
        have nzB_S := KS.out.lt
        replace HB := hT HB hb31
        replace KZ := hK KZ hb31
        replace KS := hK KS hb31
        clear yS_0 yS_1 yS_2 yS_3 yS_4 yS_5 yS_6 yS_z
        clear hb31
        generalize wr.alloc (.cells #[.int .i64 cx, .int .i64 cy, .int .i64 0, .int .i64 0] 26) = w31 at *
        generalize wr.heap.size = bB at *
        have neB_Z : bB ≠ w.heap.size := by omega
        have neB_S : bB ≠ bS := by omega
        have HZ0 := KZ
        have HS0 := KS
        have HB00 := HB
        have h31 := Nat.le_of_lt KB.out.lt
        go_loopw [50] (LvR2 l K cx cy bB w31) (fun i _ => K.length - (intOf i).toNat)
        case atStart => exact ⟨0, rfl, Nat.zero_le _, Lib.hid (Below.refl _ _), KB, Lib.hid fun i hi => absurd hi (by omega)⟩
        case round =>
          clear KB KZ KS HB
          obtain ⟨k, rfl, hk, HBR, KB, HW⟩ := hrel
          have KZ := Lib.hid (blk_keep HZ0.out HBR.out nzB_Z)
          have KS := Lib.hid (blk_keep HS0.out HBR.out nzB_S)
          have HB := Lib.hid (HB00.out.trans (HBR.out.mono hnB))
          by_cases q : k < K.length
          · have q' : decide (k < K.length) = true := by simpa using q
            obtain ⟨gk, rfl, hk1, hk2, glt, EAT⟩ := EA2.out k q
            have EAW := ex_keep EAT HBR.out glt
            have c0 := EAW.c0 k (by rw [rows_len]; exact q)
            rw [rows_nth l q] at c0
            have c1 := EAW.c1 k (by rw [rows_len]; exact q)
            rw [rows_nth l q] at c1
            have c2 := EAW.c2 k (by rw [rows_len]; exact q)
            rw [rows_nth l q] at c2
            have c3 := EAW.c3 k (by rw [rows_len]; exact q)
            rw [rows_nth l q] at c3
            have c4 := EAW.c4 k (by rw [rows_len]; exact q)
            rw [rows_nth l q] at c4
            have c5 := EAW.c5 k (by rw [rows_len]; exact q)
            rw [rows_nth l q] at c5
            have c6 := EAW.c6 k (by rw [rows_len]; exact q)
            rw [rows_nth l q] at c6
            have c7 := EAW.c7 k (by rw [rows_len]; exact q)
            rw [rows_nth l q] at c7
            have c8 := EAW.c8 k (by rw [rows_len]; exact q)
            rw [rows_nth l q] at c8
            have clt := EAW.lt
            clear EAT EAW
            have MX := Lib.hid (show maxF (mxF l cx cy) (K.take (k + 1)) = max (maxF (mxF l cx cy) (K.take k)) (reachF cx cy (woL l (K.getD k 0))).1.1 by rw [take_int q, max_snoc]; rfl)
            have MY := Lib.hid (show maxF (myF l cx cy) (K.take (k + 1)) = max (maxF (myF l cx cy) (K.take k)) (reachF cx cy (woL l (K.getD k 0))).1.2 by rw [take_int q, max_snoc]; rfl)
            have RE2 := Lib.hid fun w => RE.out (K.getD k 0) (HR.out k q) w
            have ER := Lib.hid fun hw => EV2.out HR.out (K.getD k 0) (KM.out k q) hw
            have RB := reach_bad cx cy (woL l (K.getD k 0))
            have HWN := Lib.hid fun (h : (reachF cx cy (woL l (K.getD k 0))).2 = 0) i (hi : i < k + 1) => show (reachF cx cy (woL l (K.getD i 0))).2 = 0 from by rcases Nat.lt_or_ge i k with a | a; exact HW.out i a; rw [show i = k by omega]; exact h
            generalize maxF (mxF l cx cy) (K.take k) = m1 at *
            generalize maxF (myF l cx cy) (K.take k) = m2 at *
            have EX : exW l (K.getD k 0) = ⟨solX (woL l (K.getD k 0)), solY (woL l (K.getD k 0)), noiX (woL l (K.getD k 0)), noiY (woL l (K.getD k 0)), detN (woL l (K.getD k 0))⟩ := rfl
            generalize exW l (K.getD k 0) = ex at *
            generalize woL l (K.getD k 0) = lw at *
            obtain ⟨x, y, u, v, t⟩ := ex
            injection EX with ex1 ex2 ex3 ex4 ex5
            rw [← ex1, ← ex2, ← ex3, ← ex4, ← ex5] at RE2
            simp only at c0 c1 c2 c3 c4 c5 c6 c7 c8
            clear ex1 ex2 ex3 ex4 ex5
            obtain ⟨R, hR⟩ : ∃ z, reachF cx cy lw = z := ⟨_, rfl⟩
            rw [hR] at RE2 ER RB HWN MX MY
            clear hR
            obtain ⟨yS_0, yS_1, yS_2, yS_3, yS_4, yS_5, yS_6, yS_z⟩ := blk7 KS
            go_wp2_with fail
            obtain ⟨KC, hb51⟩ := alB wr #[.int .i64 (hiW x), .int .u64 (loW x), .int .i64 (hiW y), .int .u64 (loW y), .int .i64 (hiW u), .int .u64 (loW u), .int .i64 (hiW v), .int .u64 (loW v), .int .i64 t] 88
            have hnC := HB.out.size
            have nzC_Z := KZ.out.lt
            have nzC_S := KS.out.lt
            have nzC_B := KB.out.lt
            replace HB := hT HB hb51
            replace KZ := hK KZ hb51
            replace KS := hK KS hb51
            replace KB := hK KB hb51
            replace HBR := Lib.hid (HBR.out.trans (hb51.mono (Nat.le_trans h31 HBR.out.size)))
            clear yS_0 yS_1 yS_2 yS_3 yS_4 yS_5 yS_6 yS_z
            clear hb51
            generalize wr.alloc (.cells #[.int .i64 (hiW x), .int .u64 (loW x), .int .i64 (hiW y), .int .u64 (loW y), .int .i64 (hiW u), .int .u64 (loW u), .int .i64 (hiW v), .int .u64 (loW v), .int .i64 t] 88) = w51 at *
            generalize wr.heap.size = bC at *
            have neC_Z : bC ≠ w.heap.size := by omega
            have neC_S : bC ≠ bS := by omega
            have neC_B : bC ≠ bB := by omega
            clear nzC_Z nzC_S nzC_B
            clear c0 c1 c2 c3 c4 c5 c6 c7 c8 clt
            refine (RE2.out _).mono ?_
            rintro e52 w52 ⟨rfl, hb52⟩
            replace HB := hT HB hb52
            replace KZ := hK KZ hb52
            replace KS := hK KS hb52
            replace KB := hK KB hb52
            replace KC := hK KC hb52
            replace HBR := Lib.hid (HBR.out.trans (hb52.mono (Nat.le_trans h31 HBR.out.size)))
            clear hb52
            clear RE2
            rcases RB with RB | rfl
            · obtain ⟨⟨rx, ry⟩, re⟩ := R
              simp only at RB
              subst RB
              have HWN2 := Lib.hid (HWN.out rfl)
              have MX2 := Lib.hid MX.out
              have MY2 := Lib.hid MY.out
              clear ER HWN MX MY
              obtain ⟨yB_0, yB_1, yB_2, yB_3, yB_z, yB_f0, yB_f1, yB_f2, yB_f3⟩ := blf4 KB
              go_wp2
              have hs := st2 w52 bB 2 (.int .i64 (max m1 rx)) 3 (.int .i64 (max m2 ry))
              replace KZ := oB hs KZ (by omega)
              replace KS := oB hs KS (by omega)
              replace KB := Lib.hid (blk_set (blk_set KB.out (j := 2) (by simp) (.int .i64 (max m1 rx))) (j := 3) (by simp) (.int .i64 (max m2 ry)))
              replace KC := oB hs KC (by omega)
              replace HB := oH hs HB (by omega)
              replace HBR := oH hs HBR (Nat.le_refl _)
              clear hs
              clear yB_0 yB_1 yB_2 yB_3 yB_z yB_f0 yB_f1 yB_f2 yB_f3
              generalize (w52.setCell ⟨bB, 2, none⟩ (.int .i64 (max m1 rx))).setCell ⟨bB, 3, none⟩ (.int .i64 (max m2 ry)) = w53 at *
              simp only [List.set] at KB
              exact ⟨⟨k + 1, by go_num, by omega, HBR, by rw [MX2.out, MY2.out]; exact KB, HWN2⟩, by simp [intOf]; omega⟩
            · have HV := Lib.hid (ER.out (by simp))
              clear ER HWN MX MY
              obtain ⟨yZ_0, yZ_1, yZ_2, yZ_3, yZ_z, yZ_f0, yZ_f1, yZ_f2, yZ_f3⟩ := blf4 KZ
              go_wp2
              have hs := st4 w52 w.heap.size 0 (.int .i64 0) 1 (.int .i64 0) 2 (.int .i64 0) 3 (.int .i64 0)
              replace KZ := Lib.hid (blk_set (blk_set (blk_set (blk_set KZ.out (j := 0) (by simp) (.int .i64 0)) (j := 1) (by simp) (.int .i64 0)) (j := 2) (by simp) (.int .i64 0)) (j := 3) (by simp) (.int .i64 0))
              replace KS := oB hs KS (by omega)
              replace KB := oB hs KB (by omega)
              replace KC := oB hs KC (by omega)
              replace HB := oH hs HB (by omega)
              clear hs
              clear yZ_0 yZ_1 yZ_2 yZ_3 yZ_z yZ_f0 yZ_f1 yZ_f2 yZ_f3
              generalize (((w52.setCell ⟨w.heap.size, 0, none⟩ (.int .i64 0)).setCell ⟨w.heap.size, 1, none⟩ (.int .i64 0)).setCell ⟨w.heap.size, 2, none⟩ (.int .i64 0)).setCell ⟨w.heap.size, 3, none⟩ (.int .i64 0) = w53 at *
              simp only [List.set] at KZ
              obtain ⟨yZ_0, yZ_1, yZ_2, yZ_3, yZ_z⟩ := blk4 KZ
              refine bodyPost_ret (v := .tuple #[.agg #[.int .i64 0, .int .i64 0, .int .i64 0, .int .i64 0], .int .i64 2]) (by simp [results, Tryz.results12, go_sem, yZ_0, yZ_1, yZ_2, yZ_3]) rfl ⟨by rw [HV.out]; rfl, HB.out⟩
          · obtain rfl : k = K.length := by omega
            rw [List.take_length] at KB
            have HV := Lib.hid (EV3.out HR.out HW.out)
            generalize maxF (mxF l cx cy) K = m1 at *
            generalize maxF (myF l cx cy) K = m2 at *
            obtain ⟨yZ_0, yZ_1, yZ_2, yZ_3, yZ_z, yZ_f0, yZ_f1, yZ_f2, yZ_f3⟩ := blf4 KZ
            obtain ⟨yB_0, yB_1, yB_2, yB_3, yB_z⟩ := blk4 KB
            go_wp2
            have hs := st4 wr w.heap.size 0 (.int .i64 cx) 1 (.int .i64 cy) 2 (.int .i64 m1) 3 (.int .i64 m2)
            replace KZ := Lib.hid (blk_set (blk_set (blk_set (blk_set KZ.out (j := 0) (by simp) (.int .i64 cx)) (j := 1) (by simp) (.int .i64 cy)) (j := 2) (by simp) (.int .i64 m1)) (j := 3) (by simp) (.int .i64 m2))
            replace KS := oB hs KS (by omega)
            replace KB := oB hs KB (by omega)
            replace HB := oH hs HB (by omega)
            clear hs
            clear yZ_0 yZ_1 yZ_2 yZ_3 yZ_z yZ_f0 yZ_f1 yZ_f2 yZ_f3 yB_0 yB_1 yB_2 yB_3 yB_z
            generalize (((wr.setCell ⟨w.heap.size, 0, none⟩ (.int .i64 cx)).setCell ⟨w.heap.size, 1, none⟩ (.int .i64 cy)).setCell ⟨w.heap.size, 2, none⟩ (.int .i64 m1)).setCell ⟨w.heap.size, 3, none⟩ (.int .i64 m2) = w51 at *
            simp only [List.set] at KZ
            obtain ⟨yZ_0, yZ_1, yZ_2, yZ_3, yZ_z⟩ := blk4 KZ
            refine bodyPost_ret (v := .tuple #[.agg #[.int .i64 cx, .int .i64 cy, .int .i64 m1, .int .i64 m2], .int .i64 0]) (by simp [results, Tryz.results12, go_sem, yZ_0, yZ_1, yZ_2, yZ_3]) rfl ⟨by rw [HV.out]; rfl, HB.out⟩
  · have SO := Lib.hid fun w h => sol_bad l (.slice p l.length cap) w h hs
    have HV : Hid (levF l = (box0, solE l)) := Lib.hid (by unfold levF; rw [if_neg hs])
    have g : (solE l != 0) = true := by simpa using hs
    have g' : (solE l == 0) = false := by simpa using hs
    clear hs
    generalize solE l = c at *
    have H0 := Lib.hid h
    obtain ⟨KZ, HB⟩ := ent1 w #[.int .i64 0, .int .i64 0, .int .i64 0, .int .i64 0] 26
    go_enter Tryz.func12, Tryz.ntmps12
    clear h
    go_wp2_with fail
    generalize w.alloc (.cells #[.int .i64 0, .int .i64 0, .int .i64 0, .int .i64 0] 26) = w0 at *
    refine (SO.out _ (H0.out.below HB.out)).mono ?_
    rintro e1 w1 ⟨rfl, hb1⟩
    replace HB := hT HB hb1
    replace KZ := hK KZ hb1
    clear hb1
    obtain ⟨yZ_0, yZ_1, yZ_2, yZ_3, yZ_z, yZ_f0, yZ_f1, yZ_f2, yZ_f3⟩ := blf4 KZ
    go_wp2
    have hs := st4 w1 w.heap.size 0 (.int .i64 0) 1 (.int .i64 0) 2 (.int .i64 0) 3 (.int .i64 0)
    replace KZ := Lib.hid (blk_set (blk_set (blk_set (blk_set KZ.out (j := 0) (by simp) (.int .i64 0)) (j := 1) (by simp) (.int .i64 0)) (j := 2) (by simp) (.int .i64 0)) (j := 3) (by simp) (.int .i64 0))
    replace HB := oH hs HB (by omega)
    clear hs
    clear yZ_0 yZ_1 yZ_2 yZ_3 yZ_z yZ_f0 yZ_f1 yZ_f2 yZ_f3
    generalize (((w1.setCell ⟨w.heap.size, 0, none⟩ (.int .i64 0)).setCell ⟨w.heap.size, 1, none⟩ (.int .i64 0)).setCell ⟨w.heap.size, 2, none⟩ (.int .i64 0)).setCell ⟨w.heap.size, 3, none⟩ (.int .i64 0) = w2 at *
    simp only [List.set] at KZ
    obtain ⟨KS, hb3⟩ := alB w2 #[.int .i64 0, .int .u64 0, .int .i64 0, .int .u64 0, .int .i64 0, .int .i64 0, .int .i64 0] 81
    have hnS := HB.out.size
    have nzS_Z := KZ.out.lt
    replace HB := hT HB hb3
    replace KZ := hK KZ hb3
    clear hb3
    generalize w2.alloc (.cells #[.int .i64 0, .int .u64 0, .int .i64 0, .int .u64 0, .int .i64 0, .int .i64 0, .int .i64 0] 81) = w3 at *
    generalize w2.heap.size = bS at *
    have neS_Z : bS ≠ w.heap.size := by omega
    clear nzS_Z
    obtain ⟨yZ_0, yZ_1, yZ_2, yZ_3, yZ_z⟩ := blk4 KZ
    refine bodyPost_ret (v := .tuple #[.agg #[.int .i64 0, .int .i64 0, .int .i64 0, .int .i64 0], .int .i64 c]) (by simp [results, Tryz.results12, go_sem, yZ_0, yZ_1, yZ_2, yZ_3]) rfl ⟨by rw [HV.out]; rfl, HB.out⟩
end Go.Proofs.YtidelghgjibndaaGreat
namespace Go.Proofs.YtidelghgjibndaaGreat
set_option linter.unusedVariables false
open Go.RowKit
set_option maxHeartbeats 40000000 in
set_option maxRecDepth 100000 in
theorem fix_any (l : List Ms) (v : Value) (a : Bx4) (w : World) (h : LstAt l v w) : Calls Tryz.prog 35 #[v, .agg #[.int .i64 a.cx, .int .i64 a.cy, .int .i64 a.x, .int .i64 a.y]] w fun e w' => e = .returned (.tuple #[.agg #[.int .i64 (fixF l a).1.1.cx, .int .i64 (fixF l a).1.1.cy, .int .i64 (fixF l a).1.1.x, .int .i64 (fixF l a).1.1.y], .int .i64 (fixF l a).1.2, .bool (fixF l a).2]) ∧ Below w.heap.size w w' := by
  have EV0 : fixF l a = if (S44.fltF l).2 = 0 then (if (levF (woL l (S44.fltF l).1)).2 = 0 then (((mrgF a (toB (levF (woL l (S44.fltF l).1)).1)).1, (S44.fltF l).1), decide ((mrgF a (toB (levF (woL l (S44.fltF l).1)).1)).2 = 0)) else ((bx0, 0), false)) else ((bx0, 0), false) := rfl
  have FL := Lib.hid fun w h => S44.flt_any l v w h
  unfold S44.FlP at FL
  have WL := Lib.hid fun (h : (S44.fltF l).2 = 0) => show l.length ≤ 18 from Nat.le_trans (okL_of (flt_chk2 h)).len (by omega)
  generalize fixF l a = q at *
  generalize S44.fltF l = R at *
  obtain ⟨k, e⟩ := R
  simp only at FL WL EV0
  have LV := Lib.hid fun u w h => lev_any (woL l k) u w h
  generalize levF (woL l k) = R at *
  obtain ⟨⟨c0, c1, c2, c3⟩, el⟩ := R
  unfold toB at EV0
  unfold boxV at LV
  simp only at LV EV0
  have MG := Lib.hid fun w => merge_any a ⟨c0, c1, c2, c3⟩ w
  have EV1 := Lib.hid EV0
  clear EV0
  have EV0 := EV1
  clear EV1
  obtain ⟨ax, ay, a1, a2⟩ := a
  simp only at MG
  obtain ⟨KP, KZ, HB⟩ := ent2 w #[.int .i64 ax, .int .i64 ay, .int .i64 a1, .int .i64 a2] 26 #[.int .i64 0, .int .i64 0, .int .i64 0, .int .i64 0] 26
  have HL := Lib.hid (h.below (((Below.refl w.heap.size w).alloc (Nat.le_refl _) (.cells #[.int .i64 ax, .int .i64 ay, .int .i64 a1, .int .i64 a2] 26)).alloc (by simp) (.cells #[.int .i64 0, .int .i64 0, .int .i64 0, .int .i64 0] 26)))
  go_enter Tryz.func35, Tryz.ntmps35
  go_wp2_with fail
  generalize (w.alloc (.cells #[.int .i64 ax, .int .i64 ay, .int .i64 a1, .int .i64 a2] 26)).alloc (.cells #[.int .i64 0, .int .i64 0, .int .i64 0, .int .i64 0] 26) = w0 at *
  refine (FL.out _ HL.out).mono ?_
  rintro e1 w1 ⟨rfl, hb1⟩
  replace HB := hT HB hb1
  replace KP := hK KP hb1
  replace KZ := hK KZ hb1
  replace HL := Lib.hid (HL.out.below hb1)
  clear hb1
  by_cases he : e = 0
  · subst he
    have LN := WL.out rfl
    replace EV0 := Lib.hid (EV0.out.trans (if_pos rfl))
    clear WL
    go_wp2_with fail
    refine (wo_any l k v _ HL.out LN).mono ?_
    rintro e34 w34 ⟨⟨u2, rfl, ho2⟩, hb34⟩
    replace HB := hT HB hb34
    replace KP := hK KP hb34
    replace KZ := hK KZ hb34
    replace HL := Lib.hid (HL.out.below hb34)
    clear hb34
    have OL2 := Lib.hid ho2.lst
    clear ho2 LN
    have LV2 := Lib.hid fun w h => LV.out u2 w h
    clear LV
    go_wp2_with fail
    refine (LV2.out _ OL2.out).mono ?_
    rintro e35 w35 ⟨rfl, hb35⟩
    replace HB := hT HB hb35
    replace KP := hK KP hb35
    replace KZ := hK KZ hb35
    replace OL2 := Lib.hid (OL2.out.below hb35)
    clear hb35
    clear LV2
    go_upto_region 5 with (fail)
    obtain ⟨KL, hb36⟩ := alB w35 #[.int .i64 c0, .int .i64 c1, .int .i64 c2, .int .i64 c3] 26
    have hnL := HB.out.size
    have nzL_P := KP.out.lt
    have nzL_Z := KZ.out.lt
    replace HB := hT HB hb36
    replace KP := hK KP hb36
    replace KZ := hK KZ hb36
    replace OL2 := Lib.hid (OL2.out.below hb36)
    clear hb36
    generalize w35.alloc (.cells #[.int .i64 c0, .int .i64 c1, .int .i64 c2, .int .i64 c3] 26) = w36 at *
    generalize w35.heap.size = bL at *
    have neL_P : bL ≠ w.heap.size := by omega
    have neL_Z : bL ≠ (w.heap.size + 1) := by omega
    clear nzL_P nzL_Z
    by_cases hl : el = 0
    · subst hl
      replace EV0 := Lib.hid (EV0.out.trans (if_pos rfl))
      have MG2 := MG.out
      generalize mrgF ⟨ax, ay, a1, a2⟩ ⟨c0, c1, c2, c3⟩ = R at *
      obtain ⟨⟨d0, d1, d2, d3⟩, em⟩ := R
      simp only at MG2
      have MG3 := Lib.hid MG2
      clear MG MG2
      obtain ⟨yP_0, yP_1, yP_2, yP_3, yP_z⟩ := blk4 KP
      obtain ⟨yL_0, yL_1, yL_2, yL_3, yL_z⟩ := blk4 KL
      go_wp2_with fail
      refine (MG3.out _).mono ?_
      rintro e37 w37 ⟨rfl, hb37⟩
      replace HB := hT HB hb37
      replace KP := hK KP hb37
      replace KZ := hK KZ hb37
      replace KL := hK KL hb37
      replace OL2 := Lib.hid (OL2.out.below hb37)
      clear yP_0 yP_1 yP_2 yP_3 yP_z yL_0 yL_1 yL_2 yL_3 yL_z
      clear hb37
      clear MG3
      go_upto_region 8 with (fail)
      obtain ⟨KC, hb38⟩ := alB w37 #[.int .i64 d0, .int .i64 d1, .int .i64 d2, .int .i64 d3] 26
      have hnC := HB.out.size
      have nzC_P := KP.out.lt
      have nzC_Z := KZ.out.lt
      have nzC_L := KL.out.lt
      replace HB := hT HB hb38
      replace KP := hK KP hb38
      replace KZ := hK KZ hb38
      replace KL := hK KL hb38
      replace OL2 := Lib.hid (OL2.out.below hb38)
      clear hb38
      generalize w37.alloc (.cells #[.int .i64 d0, .int .i64 d1, .int .i64 d2, .int .i64 d3] 26) = w38 at *
      generalize w37.heap.size = bC at *
      have neC_P : bC ≠ w.heap.size := by omega
      have neC_Z : bC ≠ (w.heap.size + 1) := by omega
      have neC_L : bC ≠ bL := by omega
      clear nzC_P nzC_Z nzC_L
      by_cases hm : em = 0
      · subst hm
        have EV := EV0
        clear EV0
        obtain ⟨yZ_0, yZ_1, yZ_2, yZ_3, yZ_z, yZ_f0, yZ_f1, yZ_f2, yZ_f3⟩ := blf4 KZ
        obtain ⟨yC_0, yC_1, yC_2, yC_3, yC_z⟩ := blk4 KC
        go_wp2
        have hs := st4 w38 (w.heap.size + 1) 0 (.int .i64 d0) 1 (.int .i64 d1) 2 (.int .i64 d2) 3 (.int .i64 d3)
        replace KP := oB hs KP (by omega)
        replace KZ := Lib.hid (blk_set (blk_set (blk_set (blk_set KZ.out (j := 0) (by simp) (.int .i64 d0)) (j := 1) (by simp) (.int .i64 d1)) (j := 2) (by simp) (.int .i64 d2)) (j := 3) (by simp) (.int .i64 d3))
        replace KL := oB hs KL (by omega)
        replace KC := oB hs KC (by omega)
        replace HB := oH hs HB (by omega)
        clear hs
        clear yZ_0 yZ_1 yZ_2 yZ_3 yZ_z yZ_f0 yZ_f1 yZ_f2 yZ_f3 yC_0 yC_1 yC_2 yC_3 yC_z
        generalize (((w38.setCell ⟨(w.heap.size + 1), 0, none⟩ (.int .i64 d0)).setCell ⟨(w.heap.size + 1), 1, none⟩ (.int .i64 d1)).setCell ⟨(w.heap.size + 1), 2, none⟩ (.int .i64 d2)).setCell ⟨(w.heap.size + 1), 3, none⟩ (.int .i64 d3) = w39 at *
        simp only [List.set] at KZ
        obtain ⟨yZ_0, yZ_1, yZ_2, yZ_3, yZ_z⟩ := blk4 KZ
        refine bodyPost_ret (v := .tuple #[.agg #[.int .i64 d0, .int .i64 d1, .int .i64 d2, .int .i64 d3], .int .i64 k, .bool true]) (by simp [results, Tryz.results35, go_sem, yZ_0, yZ_1, yZ_2, yZ_3]) rfl ⟨by first | (rw [EV.out]; done) | (rw [EV.out]; rfl), HB.out⟩
      · have gm : (em == 0) = false := by simpa using hm
        have EV := Lib.hid (EV0.out.trans (by rw [show decide (em = 0) = false by simpa using hm]))
        clear EV0 hm
        obtain ⟨yZ_0, yZ_1, yZ_2, yZ_3, yZ_z, yZ_f0, yZ_f1, yZ_f2, yZ_f3⟩ := blf4 KZ
        obtain ⟨yC_0, yC_1, yC_2, yC_3, yC_z⟩ := blk4 KC
        go_wp2
        have hs := st4 w38 (w.heap.size + 1) 0 (.int .i64 d0) 1 (.int .i64 d1) 2 (.int .i64 d2) 3 (.int .i64 d3)
        replace KP := oB hs KP (by omega)
        replace KZ := Lib.hid (blk_set (blk_set (blk_set (blk_set KZ.out (j := 0) (by simp) (.int .i64 d0)) (j := 1) (by simp) (.int .i64 d1)) (j := 2) (by simp) (.int .i64 d2)) (j := 3) (by simp) (.int .i64 d3))
        replace KL := oB hs KL (by omega)
        replace KC := oB hs KC (by omega)
        replace HB := oH hs HB (by omega)
        clear hs
        clear yZ_0 yZ_1 yZ_2 yZ_3 yZ_z yZ_f0 yZ_f1 yZ_f2 yZ_f3 yC_0 yC_1 yC_2 yC_3 yC_z
        generalize (((w38.setCell ⟨(w.heap.size + 1), 0, none⟩ (.int .i64 d0)).setCell ⟨(w.heap.size + 1), 1, none⟩ (.int .i64 d1)).setCell ⟨(w.heap.size + 1), 2, none⟩ (.int .i64 d2)).setCell ⟨(w.heap.size + 1), 3, none⟩ (.int .i64 d3) = w39 at *
        simp only [List.set] at KZ
        obtain ⟨yZ_0, yZ_1, yZ_2, yZ_3, yZ_z⟩ := blk4 KZ
        refine bodyPost_ret (v := .tuple #[.agg #[.int .i64 d0, .int .i64 d1, .int .i64 d2, .int .i64 d3], .int .i64 k, .bool false]) (by simp [results, Tryz.results35, go_sem, yZ_0, yZ_1, yZ_2, yZ_3]) rfl ⟨by first | (rw [EV.out]; done) | (rw [EV.out]; rfl), HB.out⟩
    · have EV := Lib.hid (EV0.out.trans (if_neg hl))
      have gl : (el != 0) = true := by simpa using hl
      clear EV0 hl MG
      obtain ⟨yZ_0, yZ_1, yZ_2, yZ_3, yZ_z, yZ_f0, yZ_f1, yZ_f2, yZ_f3⟩ := blf4 KZ
      go_wp2
      have hs := st4 w36 (w.heap.size + 1) 0 (.int .i64 0) 1 (.int .i64 0) 2 (.int .i64 0) 3 (.int .i64 0)
      replace KP := oB hs KP (by omega)
      replace KZ := Lib.hid (blk_set (blk_set (blk_set (blk_set KZ.out (j := 0) (by simp) (.int .i64 0)) (j := 1) (by simp) (.int .i64 0)) (j := 2) (by simp) (.int .i64 0)) (j := 3) (by simp) (.int .i64 0))
      replace KL := oB hs KL (by omega)
      replace HB := oH hs HB (by omega)
      clear hs
      clear yZ_0 yZ_1 yZ_2 yZ_3 yZ_z yZ_f0 yZ_f1 yZ_f2 yZ_f3
      generalize (((w36.setCell ⟨(w.heap.size + 1), 0, none⟩ (.int .i64 0)).setCell ⟨(w.heap.size + 1), 1, none⟩ (.int .i64 0)).setCell ⟨(w.heap.size + 1), 2, none⟩ (.int .i64 0)).setCell ⟨(w.heap.size + 1), 3, none⟩ (.int .i64 0) = w37 at *
      simp only [List.set] at KZ
      obtain ⟨yZ_0, yZ_1, yZ_2, yZ_3, yZ_z⟩ := blk4 KZ
      refine bodyPost_ret (v := .tuple #[.agg #[.int .i64 0, .int .i64 0, .int .i64 0, .int .i64 0], .int .i64 0, .bool false]) (by simp [results, Tryz.results35, go_sem, yZ_0, yZ_1, yZ_2, yZ_3]) rfl ⟨by rw [EV.out]; rfl, HB.out⟩
  · have EV := Lib.hid (EV0.out.trans (if_neg he))
    have ge : (e != 0) = true := by simpa using he
    clear EV0 he WL LV
    obtain ⟨yZ_0, yZ_1, yZ_2, yZ_3, yZ_z, yZ_f0, yZ_f1, yZ_f2, yZ_f3⟩ := blf4 KZ
    go_wp2
    have hs := st4 w1 (w.heap.size + 1) 0 (.int .i64 0) 1 (.int .i64 0) 2 (.int .i64 0) 3 (.int .i64 0)
    replace KP := oB hs KP (by omega)
    replace KZ := Lib.hid (blk_set (blk_set (blk_set (blk_set KZ.out (j := 0) (by simp) (.int .i64 0)) (j := 1) (by simp) (.int .i64 0)) (j := 2) (by simp) (.int .i64 0)) (j := 3) (by simp) (.int .i64 0))
    replace HB := oH hs HB (by omega)
    clear hs
    clear yZ_0 yZ_1 yZ_2 yZ_3 yZ_z yZ_f0 yZ_f1 yZ_f2 yZ_f3
    generalize (((w1.setCell ⟨(w.heap.size + 1), 0, none⟩ (.int .i64 0)).setCell ⟨(w.heap.size + 1), 1, none⟩ (.int .i64 0)).setCell ⟨(w.heap.size + 1), 2, none⟩ (.int .i64 0)).setCell ⟨(w.heap.size + 1), 3, none⟩ (.int .i64 0) = w2 at *
    simp only [List.set] at KZ
    obtain ⟨yZ_0, yZ_1, yZ_2, yZ_3, yZ_z⟩ := blk4 KZ
    refine bodyPost_ret (v := .tuple #[.agg #[.int .i64 0, .int .i64 0, .int .i64 0, .int .i64 0], .int .i64 0, .bool false]) (by simp [results, Tryz.results35, go_sem, yZ_0, yZ_1, yZ_2, yZ_3]) rfl ⟨by rw [EV.out]; rfl, HB.out⟩
end Go.Proofs.YtidelghgjibndaaGreat
namespace Go.Proofs.YtidelghgjibndaaGreat
set_option linter.unusedVariables false
open Go.ChangeShapes Go.WideShapes Go.ChangeAt Go.RowKit Go.Joins

theorem cells_of_navstate : Tryz.prog.cellsOf 41 = 6 := by kernel_rfl
theorem cells_of_velocity : Tryz.prog.cellsOf 43 = 2 := by kernel_rfl

structure Pt where
  x : Int
  y : Int
def nthP (l : List Pt) (i : Nat) : Pt := l.getD i ⟨0, 0⟩
structure PtsAt (l : List Pt) (b o : Nat) (w : World) : Prop where
  lt : b < w.heap.size
  c0 : ∀ i, i < l.length → w.cell? ⟨b, o + i * 2, none⟩ = some (.int .i64 (nthP l i).x)
  c1 : ∀ i, i < l.length → w.cell? ⟨b, o + i * 2 + 1, none⟩ = some (.int .i64 (nthP l i).y)
theorem PtsAt.below {l : List Pt} {b o : Nat} {w w' : World} (h : PtsAt l b o w) (hb : Below w.heap.size w w') : PtsAt l b o w' :=
  ⟨Nat.lt_of_lt_of_le h.lt hb.size, fun i hi => (hb.cell (p := ⟨b, o + i * 2, none⟩) h.lt).trans (h.c0 i hi), fun i hi => (hb.cell (p := ⟨b, o + i * 2 + 1, none⟩) h.lt).trans (h.c1 i hi)⟩
def PlAt (l : List Pt) (v : Value) (w : World) : Prop := (v = .slice none 0 0 ∧ l = []) ∨ ∃ b o cap, v = .slice (some ⟨b, o, none⟩) l.length cap ∧ l.length ≤ cap ∧ cap ≤ 9223372036854775807 ∧ PtsAt l b o w
theorem PlAt.below {l : List Pt} {v : Value} {w w' : World} (h : PlAt l v w) (hb : Below w.heap.size w w') : PlAt l v w' := by
  rcases h with h | ⟨b, o, cap, h1, h2, h3, h4⟩
  · exact .inl h
  · exact .inr ⟨b, o, cap, h1, h2, h3, h4.below hb⟩
theorem pl_form {l : List Pt} {v : Value} {w : World} (h : PlAt l v w) : ∃ p cap, v = .slice p l.length cap := by
  rcases h with ⟨rfl, rfl⟩ | ⟨b, o, cap, rfl, _⟩
  · exact ⟨none, 0, rfl⟩
  · exact ⟨_, _, rfl⟩
theorem pl_at {l : List Pt} {p : Option Addr} {cap : Nat} {w : World} (h : PlAt l (.slice p l.length cap) w) {k : Nat} (q : k < l.length) : ∃ b o, p = some ⟨b, o, none⟩ ∧ l.length ≤ cap ∧ cap ≤ 9223372036854775807 ∧ PtsAt l b o w := by
  rcases h with ⟨_, rfl⟩ | ⟨b, o, cap', e, h2, h3, h4⟩
  · exact absurd q (by simp)
  · injection e with e1 e2 e3
    subst e3
    exact ⟨b, o, e1, h2, h3, h4⟩
theorem cells_of_navin : Tryz.prog.cellsOf 45 = 6 := by kernel_rfl
theorem cells_of_reports : Tryz.prog.cellsOf 22 = 1 := by kernel_rfl

section
variable {H : Type} {enc : TypeId × Value → H} {W : World} {base : Nat} {spare : Nat → Bool} {held : Bool} {b0 : Nat}

set_option maxRecDepth 100000 in
theorem trod_navstate {n : Nat} {c0 c1 c2 c3 c4 c5 : Value} {y : DataW H × List MemPlace} (h : DataW.trod enc Tryz.prog W base spare held n 41 [c0, c1, c2, c3, c4, c5] = some y) :
    ∃ a0 a1 a2 a3 a4 a5 : Int, c0 = .int .i64 a0 ∧ c1 = .int .i64 a1 ∧ c2 = .int .i64 a2 ∧ c3 = .int .i64 a3 ∧ c4 = .int .i64 a4 ∧ c5 = .int .i64 a5 ∧ y = (.agg [.agg [.agg [.lit (.int .i64 a0), .lit (.int .i64 a1)], .lit (.int .i64 a2), .lit (.int .i64 a3)], .lit (.int .i64 a4), .lit (.int .i64 a5)], []) ∧ (Lit.int .i64 a0).wf = true ∧ (Lit.int .i64 a1).wf = true ∧ (Lit.int .i64 a2).wf = true ∧ (Lit.int .i64 a3).wf = true ∧ (Lit.int .i64 a4).wf = true ∧ (Lit.int .i64 a5).wf = true := by
  obtain ⟨xs, m, _, hx, _, hlen, hg⟩ := DataW.trod_struct Tryz.underlying41 h
  match xs, hlen with
  | [y0, y1, y2], _ =>
    have h0 : DataW.trod enc Tryz.prog W base spare held m 26 (([c0, c1, c2, c3, c4, c5].drop 0).take (Tryz.prog.cellsOf 26)) = some y0 := hg 0 _ rfl
    rw [cells_of_box] at h0
    have g0 : DataW.trod enc Tryz.prog W base spare held m 26 [c0, c1, c2, c3] = some y0 := h0
    have h1 : DataW.trod enc Tryz.prog W base spare held m 2 (([c0, c1, c2, c3, c4, c5].drop 4).take (Tryz.prog.cellsOf 2)) = some y1 := hg 1 _ rfl
    rw [cells_of_int64] at h1
    have g1 : DataW.trod enc Tryz.prog W base spare held m 2 [c4] = some y1 := h1
    have h2 : DataW.trod enc Tryz.prog W base spare held m 3 (([c0, c1, c2, c3, c4, c5].drop 5).take (Tryz.prog.cellsOf 3)) = some y2 := hg 2 _ rfl
    rw [cells_of_int] at h2
    have g2 : DataW.trod enc Tryz.prog W base spare held m 3 [c5] = some y2 := h2
    obtain ⟨a0, a1, a2, a3, rfl, rfl, rfl, rfl, r0, w0, w1, w2, w3⟩ := trod_box g0
    obtain ⟨a4, e4, r1, w4⟩ := DataW.trod_int Tryz.underlying2 g1
    obtain rfl : c4 = .int .i64 a4 := by simpa using e4
    obtain ⟨a5, e5, r2, w5⟩ := DataW.trod_int Tryz.underlying3 g2
    obtain rfl : c5 = .int .i64 a5 := by simpa using e5
    subst r0 r1 r2
    exact ⟨a0, a1, a2, a3, a4, a5, rfl, rfl, rfl, rfl, rfl, rfl, hx, w0, w1, w2, w3, w4, w5⟩
set_option maxRecDepth 100000 in
theorem trod_navstate_mk {a0 a1 a2 a3 a4 a5 : Int} (m : Nat) (w0 : (Lit.int .i64 a0).wf = true) (w1 : (Lit.int .i64 a1).wf = true) (w2 : (Lit.int .i64 a2).wf = true) (w3 : (Lit.int .i64 a3).wf = true) (w4 : (Lit.int .i64 a4).wf = true) (w5 : (Lit.int .i64 a5).wf = true) :
    DataW.trod enc Tryz.prog W base spare held (m + 4) 41 [.int .i64 a0, .int .i64 a1, .int .i64 a2, .int .i64 a3, .int .i64 a4, .int .i64 a5] = some (.agg [.agg [.agg [.lit (.int .i64 a0), .lit (.int .i64 a1)], .lit (.int .i64 a2), .lit (.int .i64 a3)], .lit (.int .i64 a4), .lit (.int .i64 a5)], []) := by
  have i0 := trod_box_mk (enc := enc) (W := W) (base := base) (spare := spare) (held := held) m w0 w1 w2 w3
  have i1 := trod_int_mk (enc := enc) (w := W) (base := base) (spare := spare) (held := held) (m + 2) Tryz.underlying2 w4
  have i2 := trod_int_mk (enc := enc) (w := W) (base := base) (spare := spare) (held := held) (m + 2) Tryz.underlying3 w5
  have := trod_struct_mk (enc := enc) (w := W) (base := base) (spare := spare) (held := held) (n := m + 3) (cs := [.int .i64 a0, .int .i64 a1, .int .i64 a2, .int .i64 a3, .int .i64 a4, .int .i64 a5])
    (xs := [(.agg [.agg [.lit (.int .i64 a0), .lit (.int .i64 a1)], .lit (.int .i64 a2), .lit (.int .i64 a3)], []), (.lit (.int .i64 a4), []), (.lit (.int .i64 a5), [])]) Tryz.underlying41 (by rw [cells_of_navstate]; rfl)
    (by simp [cells_of_box, cells_of_int, cells_of_int64, i0, i1, i2])
  simpa using this
set_option maxRecDepth 100000 in
theorem open_navstate {v : Value} {d : DataW H} {p : List MemPlace} (hv : Value.okWide Tryz.prog W .any b0 41 v) (h : DataW.Trod enc Tryz.prog W base spare held 41 v d p) :
    ∃ a0 a1 a2 a3 a4 a5 : Int, v = .agg #[.int .i64 a0, .int .i64 a1, .int .i64 a2, .int .i64 a3, .int .i64 a4, .int .i64 a5] ∧ d = .agg [.agg [.agg [.lit (.int .i64 a0), .lit (.int .i64 a1)], .lit (.int .i64 a2), .lit (.int .i64 a3)], .lit (.int .i64 a4), .lit (.int .i64 a5)] ∧ p = [] ∧ (Lit.int .i64 a0).wf = true ∧ (Lit.int .i64 a1).wf = true ∧ (Lit.int .i64 a2).wf = true ∧ (Lit.int .i64 a3).wf = true ∧ (Lit.int .i64 a4).wf = true ∧ (Lit.int .i64 a5).wf = true := by
  obtain ⟨cs, rfl, hsz⟩ := okWide_struct Tryz.underlying41 hv
  obtain ⟨l⟩ := cs
  match l, hsz.trans cells_of_navstate with
  | [c0, c1, c2, c3, c4, c5], _ =>
    obtain ⟨fuel, hf⟩ := h
    have hf' : DataW.trod enc Tryz.prog W base spare held fuel 41 [c0, c1, c2, c3, c4, c5] = some (d, p) := hf
    obtain ⟨a0, a1, a2, a3, a4, a5, rfl, rfl, rfl, rfl, rfl, rfl, hy, w0, w1, w2, w3, w4, w5⟩ := trod_navstate hf'
    simp only [Prod.mk.injEq] at hy
    exact ⟨a0, a1, a2, a3, a4, a5, rfl, hy.1, hy.2, w0, w1, w2, w3, w4, w5⟩
set_option maxRecDepth 100000 in
theorem shut_navstate {a0 a1 a2 a3 a4 a5 : Int} (w0 : (Lit.int .i64 a0).wf = true) (w1 : (Lit.int .i64 a1).wf = true) (w2 : (Lit.int .i64 a2).wf = true) (w3 : (Lit.int .i64 a3).wf = true) (w4 : (Lit.int .i64 a4).wf = true) (w5 : (Lit.int .i64 a5).wf = true) :
    DataW.Trod enc Tryz.prog W base spare held 41 (.agg #[.int .i64 a0, .int .i64 a1, .int .i64 a2, .int .i64 a3, .int .i64 a4, .int .i64 a5]) (.agg [.agg [.agg [.lit (.int .i64 a0), .lit (.int .i64 a1)], .lit (.int .i64 a2), .lit (.int .i64 a3)], .lit (.int .i64 a4), .lit (.int .i64 a5)]) [] :=
  ⟨4, trod_navstate_mk (enc := enc) (W := W) (base := base) (spare := spare) (held := held) 0 w0 w1 w2 w3 w4 w5⟩
set_option maxRecDepth 100000 in
theorem trod_velocity {n : Nat} {c0 c1 : Value} {y : DataW H × List MemPlace} (h : DataW.trod enc Tryz.prog W base spare held n 43 [c0, c1] = some y) :
    ∃ a0 a1 : Int, c0 = .int .i64 a0 ∧ c1 = .int .i64 a1 ∧ y = (.agg [.lit (.int .i64 a0), .lit (.int .i64 a1)], []) ∧ (Lit.int .i64 a0).wf = true ∧ (Lit.int .i64 a1).wf = true := by
  obtain ⟨xs, m, _, hx, _, hlen, hg⟩ := DataW.trod_struct Tryz.underlying43 h
  match xs, hlen with
  | [y0, y1], _ =>
    have h0 : DataW.trod enc Tryz.prog W base spare held m 2 (([c0, c1].drop 0).take (Tryz.prog.cellsOf 2)) = some y0 := hg 0 _ rfl
    rw [cells_of_int64] at h0
    have g0 : DataW.trod enc Tryz.prog W base spare held m 2 [c0] = some y0 := h0
    have h1 : DataW.trod enc Tryz.prog W base spare held m 2 (([c0, c1].drop 1).take (Tryz.prog.cellsOf 2)) = some y1 := hg 1 _ rfl
    rw [cells_of_int64] at h1
    have g1 : DataW.trod enc Tryz.prog W base spare held m 2 [c1] = some y1 := h1
    obtain ⟨a0, e0, r0, w0⟩ := DataW.trod_int Tryz.underlying2 g0
    obtain rfl : c0 = .int .i64 a0 := by simpa using e0
    obtain ⟨a1, e1, r1, w1⟩ := DataW.trod_int Tryz.underlying2 g1
    obtain rfl : c1 = .int .i64 a1 := by simpa using e1
    subst r0 r1
    exact ⟨a0, a1, rfl, rfl, hx, w0, w1⟩
set_option maxRecDepth 100000 in
theorem trod_velocity_mk {a0 a1 : Int} (m : Nat) (w0 : (Lit.int .i64 a0).wf = true) (w1 : (Lit.int .i64 a1).wf = true) :
    DataW.trod enc Tryz.prog W base spare held (m + 2) 43 [.int .i64 a0, .int .i64 a1] = some (.agg [.lit (.int .i64 a0), .lit (.int .i64 a1)], []) := by
  have i0 := trod_int_mk (enc := enc) (w := W) (base := base) (spare := spare) (held := held) m Tryz.underlying2 w0
  have i1 := trod_int_mk (enc := enc) (w := W) (base := base) (spare := spare) (held := held) m Tryz.underlying2 w1
  have := trod_struct_mk (enc := enc) (w := W) (base := base) (spare := spare) (held := held) (n := m + 1) (cs := [.int .i64 a0, .int .i64 a1])
    (xs := [(.lit (.int .i64 a0), []), (.lit (.int .i64 a1), [])]) Tryz.underlying43 (by rw [cells_of_velocity]; rfl)
    (by simp [cells_of_int64, i0, i1])
  simpa using this
set_option maxRecDepth 100000 in
theorem open_velocity {v : Value} {d : DataW H} {p : List MemPlace} (hv : Value.okWide Tryz.prog W .any b0 43 v) (h : DataW.Trod enc Tryz.prog W base spare held 43 v d p) :
    ∃ a0 a1 : Int, v = .agg #[.int .i64 a0, .int .i64 a1] ∧ d = .agg [.lit (.int .i64 a0), .lit (.int .i64 a1)] ∧ p = [] ∧ (Lit.int .i64 a0).wf = true ∧ (Lit.int .i64 a1).wf = true := by
  obtain ⟨cs, rfl, hsz⟩ := okWide_struct Tryz.underlying43 hv
  obtain ⟨l⟩ := cs
  match l, hsz.trans cells_of_velocity with
  | [c0, c1], _ =>
    obtain ⟨fuel, hf⟩ := h
    have hf' : DataW.trod enc Tryz.prog W base spare held fuel 43 [c0, c1] = some (d, p) := hf
    obtain ⟨a0, a1, rfl, rfl, hy, w0, w1⟩ := trod_velocity hf'
    simp only [Prod.mk.injEq] at hy
    exact ⟨a0, a1, rfl, hy.1, hy.2, w0, w1⟩
set_option maxRecDepth 100000 in
theorem shut_velocity {a0 a1 : Int} (w0 : (Lit.int .i64 a0).wf = true) (w1 : (Lit.int .i64 a1).wf = true) :
    DataW.Trod enc Tryz.prog W base spare held 43 (.agg #[.int .i64 a0, .int .i64 a1]) (.agg [.lit (.int .i64 a0), .lit (.int .i64 a1)]) [] :=
  ⟨2, trod_velocity_mk (enc := enc) (W := W) (base := base) (spare := spare) (held := held) 0 w0 w1⟩
instance : Inhabited Pt := ⟨⟨0, 0⟩⟩
set_option maxRecDepth 100000 in
theorem open_points {v : Value} {d : DataW H} {p : List MemPlace} (hv : Value.okWide Tryz.prog W .any b0 27 v) (h : DataW.Trod enc Tryz.prog W 0 (fun _ => true) true 27 v d p) :
    ∃ l : List Pt, PlAt l v W ∧ ∀ i, i < l.length → (-9223372036854775808 ≤ (nthP l i).x ∧ (nthP l i).x ≤ 9223372036854775807) ∧ (-9223372036854775808 ≤ (nthP l i).y ∧ (nthP l i).y ≤ 9223372036854775807) := by
  have hok := hv
  simp only [Value.okWide, Tryz.underlying27, Cell.okWide] at hok
  obtain ⟨fuel, hf⟩ := h
  obtain ⟨ao, len, cap, rfl⟩ := okWide_slice Tryz.underlying27 hv
  rcases Go.Deep.open_slice Tryz.underlying27 hf with ⟨hc, _⟩ | ⟨a, len', cap', m, n, D, Pl, hc, _, hlc, _, hm, _, hi⟩
  · have hc' : [Value.slice ao len cap] = [Value.slice none 0 0] := hc
    exact ⟨[], .inl ⟨List.cons.inj hc' |>.1, rfl⟩, fun i hi => absurd hi (by simp)⟩
  · have hc0 : [Value.slice ao len cap] = [Value.slice (some a) len' cap'] := hc
    have hc' := (List.cons.inj hc0).1
    clear hc0
    cases hc'
    simp only [if_true] at hm
    subst hm
    have hhas : len ≤ m ∧ (m : Int) ≤ IntKind.i64.max ∧ W.has Tryz.prog .any b0 a 24 m := by simpa [Cell.ok, Tryz.underlying27] using hok
    obtain ⟨_, hmax, _, hsp, row, cells, hsh, _⟩ := hhas
    have hlt : a.block < W.heap.size := by
      unfold World.shape? at hsh
      split at hsh
      · rename_i q
        exact (Array.getElem?_eq_some_iff.1 q).1
      · cases hsh
    have key : ∀ i, i < len → ∃ x : Pt, ((-9223372036854775808 ≤ x.x ∧ x.x ≤ 9223372036854775807) ∧ (-9223372036854775808 ≤ x.y ∧ x.y ≤ 9223372036854775807)) ∧ W.cell? ⟨a.block, a.off + i * 2, none⟩ = some (.int .i64 x.x) ∧ W.cell? ⟨a.block, a.off + i * 2 + 1, none⟩ = some (.int .i64 x.y) := by
      intro i hil
      obtain ⟨cs, hcs, ht⟩ := hi i (by omega)
      rw [cells_of_point] at hcs
      obtain ⟨_, hl, hat⟩ := World.cells?_some hcs
      match cs, hl with
      | [c0, c1], _ =>
        obtain ⟨a0, a1, rfl, rfl, _, k0, k1⟩ := trod_point ht
        have ad : ∀ j, (a.add (i * 2)).add j = ⟨a.block, a.off + i * 2 + j, none⟩ := fun j => by
          rw [Go.Deep.add_add]
          unfold Addr.add
          obtain ⟨ab, af, asp⟩ := a
          simp only at hsp
          subst hsp
          split
          · rename_i e
            simp only [Addr.mk.injEq, and_true, true_and]
            omega
          · simp only [Addr.mk.injEq, and_true, true_and]
            omega
        refine ⟨⟨a0, a1⟩, ⟨bd64 k0, bd64 k1⟩, ?_, ?_⟩
        · have := hat 0 (by omega); rw [ad] at this; exact this
        · have := hat 1 (by omega); rw [ad] at this; exact this
    obtain ⟨f, hf⟩ := Go.Deep.choose_lt key
    have hlen : ((List.range len).map f).length = len := by simp
    have hn : ∀ i, i < len → nthP ((List.range len).map f) i = f i := fun i hil => by
      unfold nthP
      rw [List.getD_eq_getElem?_getD, List.getElem?_map, List.getElem?_range hil]
      rfl
    obtain ⟨ab, af, asp⟩ := a
    simp only at hsp
    subst hsp
    refine ⟨(List.range len).map f, .inr ⟨ab, af, m, by rw [hlen], by rw [hlen]; exact hlc, by simp [IntKind.max, IntKind.signed, IntKind.bits] at hmax; omega, hlt, ?_, ?_⟩, fun i hil => ?_⟩
    rotate_left 2
    · rw [hlen] at hil
      rw [hn i hil]
      exact (hf i hil).1
    all_goals
      intro i hil
      rw [hlen] at hil
      rw [hn i hil]
    · exact (hf i hil).2.1
    · exact (hf i hil).2.2
set_option maxRecDepth 100000 in
theorem open_navin {v : Value} {d : DataW H} {p : List MemPlace} (hv : Value.okWide Tryz.prog W .any b0 45 v) (h : DataW.Trod enc Tryz.prog W base spare held 45 v d p) :
    ∃ (a0 : Int) (r : Value) (a2 a3 a4 a5 : Int), v = .agg #[.int .i64 a0, r, .int .i64 a2, .int .i64 a3, .int .i64 a4, .int .i64 a5] := by
  obtain ⟨cs, rfl, hsz⟩ := okWide_struct Tryz.underlying45 hv
  obtain ⟨l⟩ := cs
  match l, hsz.trans cells_of_navin with
  | [c0, c1, c2, c3, c4, c5], _ =>
    obtain ⟨fuel, hf⟩ := h
    have hf' : DataW.trod enc Tryz.prog W base spare held fuel 45 [c0, c1, c2, c3, c4, c5] = some (d, p) := hf
    obtain ⟨xs, m, _, hx, _, hlen, hg⟩ := DataW.trod_struct Tryz.underlying45 hf'
    match xs, hlen with
    | [y0, y1, y2, y3, y4], _ =>
      have h0 : DataW.trod enc Tryz.prog W base spare held m 2 (([c0, c1, c2, c3, c4, c5].drop 0).take (Tryz.prog.cellsOf 2)) = some y0 := hg 0 _ rfl
      rw [cells_of_int64] at h0
      have g0 : DataW.trod enc Tryz.prog W base spare held m 2 [c0] = some y0 := h0
      have h2 : DataW.trod enc Tryz.prog W base spare held m 43 (([c0, c1, c2, c3, c4, c5].drop 2).take (Tryz.prog.cellsOf 43)) = some y2 := hg 2 _ rfl
      rw [cells_of_velocity] at h2
      have g2 : DataW.trod enc Tryz.prog W base spare held m 43 [c2, c3] = some y2 := h2
      have h3 : DataW.trod enc Tryz.prog W base spare held m 2 (([c0, c1, c2, c3, c4, c5].drop 4).take (Tryz.prog.cellsOf 2)) = some y3 := hg 3 _ rfl
      rw [cells_of_int64] at h3
      have g3 : DataW.trod enc Tryz.prog W base spare held m 2 [c4] = some y3 := h3
      have h4 : DataW.trod enc Tryz.prog W base spare held m 2 (([c0, c1, c2, c3, c4, c5].drop 5).take (Tryz.prog.cellsOf 2)) = some y4 := hg 4 _ rfl
      rw [cells_of_int64] at h4
      have g4 : DataW.trod enc Tryz.prog W base spare held m 2 [c5] = some y4 := h4
      obtain ⟨a0, e0, _, _⟩ := DataW.trod_int Tryz.underlying2 g0
      obtain rfl : c0 = .int .i64 a0 := by simpa using e0
      obtain ⟨a2, a3, rfl, rfl, _, _, _⟩ := trod_velocity g2
      obtain ⟨a4, e4, _, _⟩ := DataW.trod_int Tryz.underlying2 g3
      obtain rfl : c4 = .int .i64 a4 := by simpa using e4
      obtain ⟨a5, e5, _, _⟩ := DataW.trod_int Tryz.underlying2 g4
      obtain rfl : c5 = .int .i64 a5 := by simpa using e5
      exact ⟨a0, c1, a2, a3, a4, a5, rfl⟩
end
end Go.Proofs.YtidelghgjibndaaGreat
namespace Go.Proofs.YtidelghgjibndaaGreat
set_option linter.unusedVariables false
open Go.ChangeShapes Go.WideShapes Go.ChangeAt Go.RowKit Go.Joins

/-- a slice that reads as reports -/
def RlG (l : List Rp) (v : Value) (w : World) : Prop := ∃ p cap, v = .slice p l.length cap ∧ (l.length ≤ cap ∧ cap ≤ 9223372036854775807) ∧ ∀ k, k < l.length → ∃ b o, p = some ⟨b, o, none⟩ ∧ RpAt l b o w
theorem RlG.below {l : List Rp} {v : Value} {w w' : World} (h : RlG l v w) (hb : Below w.heap.size w w') : RlG l v w' := by
  obtain ⟨p, cap, e, hc, h⟩ := h
  exact ⟨p, cap, e, hc, fun k hk => by obtain ⟨b, o, e, r⟩ := h k hk; exact ⟨b, o, e, r.below hb⟩⟩
theorem rg_form {l : List Rp} {v : Value} {w : World} (h : RlG l v w) : ∃ p cap, v = .slice p l.length cap := by
  obtain ⟨p, cap, e, _⟩ := h
  exact ⟨p, cap, e⟩
theorem rg_cap {l : List Rp} {p : Option Addr} {n cap : Nat} {w : World} (h : RlG l (.slice p n cap) w) : n = l.length ∧ l.length ≤ cap ∧ cap ≤ 9223372036854775807 := by
  obtain ⟨p', cap', e, hc, _⟩ := h
  injection e with e1 e2 e3
  subst e3
  exact ⟨e2, hc⟩
theorem rg_at {l : List Rp} {p : Option Addr} {cap : Nat} {w : World} (h : RlG l (.slice p l.length cap) w) {k : Nat} (q : k < l.length) : ∃ b o, p = some ⟨b, o, none⟩ ∧ l.length ≤ cap ∧ cap ≤ 9223372036854775807 ∧ RpAt l b o w := by
  obtain ⟨p', cap', e, hc, h⟩ := h
  injection e with e1 e2 e3
  subst e1 e3
  obtain ⟨b, o, e, r⟩ := h k q
  exact ⟨b, o, e, hc.1, hc.2, r⟩
theorem rg_of {l : List Rp} {v : Value} {w : World} (h : RlAt l v w) : RlG l v w := by
  rcases h with ⟨rfl, rfl⟩ | ⟨b, o, cap, rfl, h2, h3, h4⟩
  · exact ⟨none, 0, rfl, ⟨Nat.le_refl _, by omega⟩, fun k hk => absurd hk (by simp)⟩
  · exact ⟨_, _, rfl, ⟨h2, h3⟩, fun k hk => ⟨b, o, rfl, h4⟩⟩
theorem rg_nil (w : World) : RlG [] (.slice none 0 0) w := ⟨none, 0, rfl, ⟨Nat.le_refl _, by omega⟩, fun k hk => absurd hk (by simp)⟩
theorem nthR_take {l : List Rp} {n i : Nat} (hi : i < (l.take n).length) : i < l.length ∧ nthR (l.take n) i = nthR l i := by
  rw [List.length_take] at hi
  refine ⟨by omega, ?_⟩
  unfold nthR
  rw [List.getD_eq_getElem?_getD, List.getD_eq_getElem?_getD, List.getElem?_take, if_pos (by omega)]
theorem rps_take {l : List Rp} {b o : Nat} {w : World} (h : RpAt l b o w) (n : Nat) : RpAt (l.take n) b o w :=
  ⟨h.lt, fun i hi => by rw [(nthR_take hi).2]; exact h.c0 i (nthR_take hi).1, fun i hi => by rw [(nthR_take hi).2]; exact h.c1 i (nthR_take hi).1, fun i hi => by rw [(nthR_take hi).2]; exact h.c2 i (nthR_take hi).1, fun i hi => by rw [(nthR_take hi).2]; exact h.c3 i (nthR_take hi).1, fun i hi => by rw [(nthR_take hi).2]; exact h.c4 i (nthR_take hi).1, fun i hi => by rw [(nthR_take hi).2]; exact h.c5 i (nthR_take hi).1, fun i hi => by rw [(nthR_take hi).2]; exact h.c6 i (nthR_take hi).1, fun i hi => by rw [(nthR_take hi).2]; exact h.c7 i (nthR_take hi).1⟩
theorem rg_take {l : List Rp} {p : Option Addr} {cap : Nat} {w : World} (h : RlG l (.slice p l.length cap) w) {n : Nat} (hn : n ≤ l.length) : RlG (l.take n) (.slice p n cap) w := by
  obtain ⟨p', cap', e, hc, h⟩ := h
  injection e with e1 e2 e3
  subst e1 e3
  have hl : (l.take n).length = n := by rw [List.length_take]; omega
  refine ⟨p, cap, by rw [hl], ⟨by omega, hc.2⟩, fun k hk => ?_⟩
  obtain ⟨b, o, e, r⟩ := h k (by omega)
  exact ⟨b, o, e, rps_take r n⟩
theorem cell_addr {W : World} {a : Addr} {v : Value} (h : W.cell? a = some v) : a.spot = none ∧ a.block < W.heap.size := by
  unfold World.cell? at h
  split at h
  · rename_i q
    split at h
    · cases h
    · rename_i hs
      exact ⟨by simpa using hs, (Array.getElem?_eq_some_iff.1 q).1⟩
  · cases h
theorem add_none {a : Addr} (hsp : a.spot = none) (i j : Nat) : (a.add i).add j = ⟨a.block, a.off + i + j, none⟩ := by
  rw [Go.Deep.add_add]
  unfold Addr.add
  obtain ⟨ab, af, asp⟩ := a
  simp only at hsp
  subst hsp
  split
  · rename_i e
    simp only [Addr.mk.injEq, and_true, true_and]
    omega
  · simp only [Addr.mk.injEq, and_true, true_and]
    omega
theorem max_le2 {n : Nat} (h : n ≤ maxLen) : n ≤ 9223372036854775807 := by unfold maxLen at h; omega
section
variable {H : Type} {enc : TypeId × Value → H} {W : World} {b0 : Nat}

set_option maxRecDepth 100000 in
theorem trod_reportsG {fuel : Nat} {c : Value} {y : DataW H × List MemPlace} (h : DataW.trod enc Tryz.prog W 0 (fun _ => true) true fuel 22 [c] = some y) :
    ∃ l : List Rp, RlG l c W ∧ ∀ i, i < l.length → 0 ≤ (nthR l i).k ∧ (nthR l i).k ≤ 255 := by
  rcases Go.Deep.open_slice Tryz.underlying22 h with ⟨hc, _⟩ | ⟨a, len, cap, m, n, D, Pl, hc, _, hlc, hcm, hm, _, hi⟩
  · obtain rfl : c = .slice none 0 0 := (List.cons.inj hc).1
    exact ⟨[], rg_nil W, fun i hi => absurd hi (by simp)⟩
  · obtain rfl : c = .slice (some a) len cap := (List.cons.inj hc).1
    simp only [if_true] at hm
    subst hm
    have cells : ∀ i, i < len → ∃ cs', cs'.length = 8 ∧ (∀ j (hj : j < 8), W.cell? ((a.add (i * 8)).add j) = cs'[j]?) ∧ DataW.trod enc Tryz.prog W 0 (fun _ => true) true n 68 cs' = some (D i, Pl i) := fun i hil => by
      obtain ⟨cs, hcs, ht⟩ := hi i (by omega)
      rw [cells_of_report] at hcs
      obtain ⟨_, hl, hat⟩ := World.cells?_some hcs
      exact ⟨cs, hl, fun j hj => by rw [hat j (by omega)], ht⟩
    have hsp : 0 < len → a.spot = none ∧ a.block < W.heap.size := fun hl => by
      obtain ⟨cs, hcl, hat, _⟩ := cells 0 hl
      have := hat 0 (by omega)
      rw [List.getElem?_eq_getElem (by omega)] at this
      exact cell_addr this
    have key : ∀ i, i < len → ∃ x : Rp, (0 ≤ x.k ∧ x.k ≤ 255) ∧ (a.spot = none ∧ a.block < W.heap.size) ∧ W.cell? ⟨a.block, a.off + i * 8, none⟩ = some (.int .i64 x.s) ∧ W.cell? ⟨a.block, a.off + i * 8 + 1, none⟩ = some (.int .u8 x.k) ∧ W.cell? ⟨a.block, a.off + i * 8 + 2, none⟩ = some (.int .i64 x.x) ∧ W.cell? ⟨a.block, a.off + i * 8 + 3, none⟩ = some (.int .i64 x.y) ∧ W.cell? ⟨a.block, a.off + i * 8 + 4, none⟩ = some (.int .i64 x.v) ∧ W.cell? ⟨a.block, a.off + i * 8 + 5, none⟩ = some (.int .i64 x.b) ∧ W.cell? ⟨a.block, a.off + i * 8 + 6, none⟩ = some (.int .i64 x.wt) ∧ W.cell? ⟨a.block, a.off + i * 8 + 7, none⟩ = some (.int .i64 x.t) := by
      intro i hil
      have hs := hsp (by omega)
      obtain ⟨cs, hl, hat, ht⟩ := cells i hil
      match cs, hl with
      | [c0, c1, c2, c3, c4, c5, c6, c7], _ =>
        obtain ⟨a0, a1, a2, a3, a4, a5, a6, a7, rfl, rfl, rfl, rfl, rfl, rfl, rfl, rfl, _, _, hk, _⟩ := trod_report ht
        have hk' : 0 ≤ a1 ∧ a1 ≤ 255 := by simp [Lit.wf, IntKind.min, IntKind.max, IntKind.signed, IntKind.bits] at hk; omega
        refine ⟨⟨a0, a1, a2, a3, a4, a5, a6, a7⟩, hk', hs, ?_, ?_, ?_, ?_, ?_, ?_, ?_, ?_⟩
        · have := hat 0 (by omega); rw [add_none hs.1] at this; exact this
        · have := hat 1 (by omega); rw [add_none hs.1] at this; exact this
        · have := hat 2 (by omega); rw [add_none hs.1] at this; exact this
        · have := hat 3 (by omega); rw [add_none hs.1] at this; exact this
        · have := hat 4 (by omega); rw [add_none hs.1] at this; exact this
        · have := hat 5 (by omega); rw [add_none hs.1] at this; exact this
        · have := hat 6 (by omega); rw [add_none hs.1] at this; exact this
        · have := hat 7 (by omega); rw [add_none hs.1] at this; exact this
    obtain ⟨f, hf⟩ := Go.Deep.choose_lt key
    have hlen : ((List.range len).map f).length = len := by simp
    have hn : ∀ i, i < len → nthR ((List.range len).map f) i = f i := fun i hil => by
      unfold nthR
      rw [List.getD_eq_getElem?_getD, List.getElem?_map, List.getElem?_range hil]
      rfl
    refine ⟨(List.range len).map f, ⟨some a, m, by rw [hlen], ⟨by rw [hlen]; exact hlc, max_le2 hcm⟩, fun k hk => ?_⟩, fun i hil => ?_⟩
    · rw [hlen] at hk
      have hs := (hf k hk).2.1
      obtain ⟨ab, af, asp⟩ := a
      simp only at hs
      obtain ⟨rfl, hlt⟩ := hs
      refine ⟨ab, af, rfl, hlt, ?_, ?_, ?_, ?_, ?_, ?_, ?_, ?_⟩
      all_goals
        intro i hil
        rw [hlen] at hil
        rw [hn i hil]
      · exact (hf i hil).2.2.1
      · exact (hf i hil).2.2.2.1
      · exact (hf i hil).2.2.2.2.1
      · exact (hf i hil).2.2.2.2.2.1
      · exact (hf i hil).2.2.2.2.2.2.1
      · exact (hf i hil).2.2.2.2.2.2.2.1
      · exact (hf i hil).2.2.2.2.2.2.2.2.1
      · exact (hf i hil).2.2.2.2.2.2.2.2.2
    · rw [hlen] at hil
      rw [hn i hil]
      exact (hf i hil).1
set_option maxRecDepth 100000 in
theorem trod_navinG {n : Nat} {c0 c1 c2 c3 c4 c5 : Value} {y : DataW H × List MemPlace} (h : DataW.trod enc Tryz.prog W 0 (fun _ => true) true n 45 [c0, c1, c2, c3, c4, c5] = some y) :
    ∃ (a0 a2 a3 a4 a5 : Int) (l : List Rp), c0 = .int .i64 a0 ∧ c2 = .int .i64 a2 ∧ c3 = .int .i64 a3 ∧ c4 = .int .i64 a4 ∧ c5 = .int .i64 a5 ∧ RlG l c1 W ∧ ∀ i, i < l.length → 0 ≤ (nthR l i).k ∧ (nthR l i).k ≤ 255 := by
  obtain ⟨xs, m, _, hx, _, hlen, hg⟩ := DataW.trod_struct Tryz.underlying45 h
  match xs, hlen with
  | [y0, y1, y2, y3, y4], _ =>
    have h0 : DataW.trod enc Tryz.prog W 0 (fun _ => true) true m 2 (([c0, c1, c2, c3, c4, c5].drop 0).take (Tryz.prog.cellsOf 2)) = some y0 := hg 0 _ rfl
    rw [cells_of_int64] at h0
    have g0 : DataW.trod enc Tryz.prog W 0 (fun _ => true) true m 2 [c0] = some y0 := h0
    have h1 : DataW.trod enc Tryz.prog W 0 (fun _ => true) true m 22 (([c0, c1, c2, c3, c4, c5].drop 1).take (Tryz.prog.cellsOf 22)) = some y1 := hg 1 _ rfl
    rw [cells_of_reports] at h1
    have g1 : DataW.trod enc Tryz.prog W 0 (fun _ => true) true m 22 [c1] = some y1 := h1
    have h2 : DataW.trod enc Tryz.prog W 0 (fun _ => true) true m 43 (([c0, c1, c2, c3, c4, c5].drop 2).take (Tryz.prog.cellsOf 43)) = some y2 := hg 2 _ rfl
    rw [cells_of_velocity] at h2
    have g2 : DataW.trod enc Tryz.prog W 0 (fun _ => true) true m 43 [c2, c3] = some y2 := h2
    have h3 : DataW.trod enc Tryz.prog W 0 (fun _ => true) true m 2 (([c0, c1, c2, c3, c4, c5].drop 4).take (Tryz.prog.cellsOf 2)) = some y3 := hg 3 _ rfl
    rw [cells_of_int64] at h3
    have g3 : DataW.trod enc Tryz.prog W 0 (fun _ => true) true m 2 [c4] = some y3 := h3
    have h4 : DataW.trod enc Tryz.prog W 0 (fun _ => true) true m 2 (([c0, c1, c2, c3, c4, c5].drop 5).take (Tryz.prog.cellsOf 2)) = some y4 := hg 4 _ rfl
    rw [cells_of_int64] at h4
    have g4 : DataW.trod enc Tryz.prog W 0 (fun _ => true) true m 2 [c5] = some y4 := h4
    obtain ⟨a0, e0, _, _⟩ := DataW.trod_int Tryz.underlying2 g0
    obtain rfl : c0 = .int .i64 a0 := by simpa using e0
    obtain ⟨l, hl, hk⟩ := trod_reportsG g1
    obtain ⟨a2, a3, rfl, rfl, _, _, _⟩ := trod_velocity g2
    obtain ⟨a4, e4, _, _⟩ := DataW.trod_int Tryz.underlying2 g3
    obtain rfl : c4 = .int .i64 a4 := by simpa using e4
    obtain ⟨a5, e5, _, _⟩ := DataW.trod_int Tryz.underlying2 g4
    obtain rfl : c5 = .int .i64 a5 := by simpa using e5
    exact ⟨a0, a2, a3, a4, a5, l, rfl, rfl, rfl, rfl, rfl, hl, hk⟩
set_option maxRecDepth 100000 in
theorem open_navinG {v : Value} {d : DataW H} {p : List MemPlace} (hv : Value.okWide Tryz.prog W .any b0 45 v) (h : DataW.Trod enc Tryz.prog W 0 (fun _ => true) true 45 v d p) :
    ∃ (a0 : Int) (r : Value) (a2 a3 a4 a5 : Int) (l : List Rp), v = .agg #[.int .i64 a0, r, .int .i64 a2, .int .i64 a3, .int .i64 a4, .int .i64 a5] ∧ RlG l r W ∧ ∀ i, i < l.length → 0 ≤ (nthR l i).k ∧ (nthR l i).k ≤ 255 := by
  obtain ⟨cs, rfl, hsz⟩ := okWide_struct Tryz.underlying45 hv
  obtain ⟨l⟩ := cs
  match l, hsz.trans cells_of_navin with
  | [c0, c1, c2, c3, c4, c5], _ =>
    obtain ⟨fuel, hf⟩ := h
    have hf' : DataW.trod enc Tryz.prog W 0 (fun _ => true) true fuel 45 [c0, c1, c2, c3, c4, c5] = some (d, p) := hf
    obtain ⟨a0, a2, a3, a4, a5, l, rfl, rfl, rfl, rfl, rfl, hl, hk⟩ := trod_navinG hf'
    exact ⟨a0, c1, a2, a3, a4, a5, l, rfl, hl, hk⟩
end
end Go.Proofs.YtidelghgjibndaaGreat
namespace Go.Proofs.YtidelghgjibndaaGreat
set_option linter.unusedVariables false
open Go.RowKit
def NwR (L : List Rp) (tk cx cy x y : Int) (W : World) (v5 v13 : Value) (wr : World) : Prop := ∃ k : Nat, v13 = .int .i64 k ∧ k ≤ L.length ∧ Hid (Below W.heap.size W wr) ∧ Hid (OM W.heap.size wr v5 (rowsT tk cx cy x y (L.take k)))
theorem below_om2 {B B' : Nat} {w : World} {v : Value} {l : List Ms} (hB : B ≤ B') (h : OM B' w v l) : OM B w v l := by
  unfold OM World.ownsRow at *
  obtain ⟨h1, h2⟩ := h
  refine ⟨h1, ?_⟩
  rcases h2 with h2 | ⟨g, cap, cur, e, hb, r⟩
  · exact .inl h2
  · exact .inr ⟨g, cap, cur, e, Nat.le_trans hB hb, r⟩
set_option maxHeartbeats 40000000 in
set_option maxRecDepth 100000 in
theorem nrows_any (L : List Rp) (v : Value) (tk ve vn dr rq cx cy x y : Int) (w : World) (h : RlG L v w) (hK : ∀ i, i < L.length → 0 ≤ (nthR L i).k ∧ (nthR L i).k ≤ 255) (hn : L.length ≤ 20000) :
    Calls Tryz.prog 36 #[.agg #[.int .i64 tk, v, .int .i64 ve, .int .i64 vn, .int .i64 dr, .int .i64 rq], .agg #[.int .i64 cx, .int .i64 cy, .int .i64 x, .int .i64 y]] w fun e w' => (∃ u, e = .returned u ∧ OM w.heap.size w' u (rowsT tk cx cy x y L)) ∧ Below w.heap.size w w' := by
  have KK := Lib.hid hK
  have HN := Lib.hid hn
  clear hK hn
  obtain ⟨p, cap, rfl⟩ := rg_form h
  have H0 := Lib.hid h
  obtain ⟨KI, KB, HB⟩ := ent2 w #[.int .i64 tk, .slice p L.length cap, .int .i64 ve, .int .i64 vn, .int .i64 dr, .int .i64 rq] 45 #[.int .i64 cx, .int .i64 cy, .int .i64 x, .int .i64 y] 26
  go_enter Tryz.func36, Tryz.ntmps36
  clear h
  have KI1 := KI
  have KB1 := KB
  have HB1 := HB
  have hI1 := KI.out.lt
  have hB1 := KB.out.lt
  go_wp2
  have hz1 : ((w.alloc (.cells #[.int .i64 tk, .slice p L.length cap, .int .i64 ve, .int .i64 vn, .int .i64 dr, .int .i64 rq] 45)).alloc (.cells #[.int .i64 cx, .int .i64 cy, .int .i64 x, .int .i64 y] 26)).heap.size = w.heap.size + 1 + 1 := by simp
  generalize (w.alloc (.cells #[.int .i64 tk, .slice p L.length cap, .int .i64 ve, .int .i64 vn, .int .i64 dr, .int .i64 rq] 45)).alloc (.cells #[.int .i64 cx, .int .i64 cy, .int .i64 x, .int .i64 y] 26) = w1 at *
  have h11 := HB.out.size
  go_loopw [5, 13] (NwR L tk cx cy x y w1) (fun _ i _ => L.length - (intOf i).toNat)
  case atStart => exact ⟨0, rfl, Nat.zero_le _, Lib.hid (Below.refl _ _), Lib.hid (World.ownsRow_nil _ _ _ _)⟩
  case round =>
    clear KI KB HB
    obtain ⟨k, rfl, hk, HBR, HO⟩ := hrel
    have KI := Lib.hid (blk_keep KI1.out HBR.out hI1)
    have KB := Lib.hid (blk_keep KB1.out HBR.out hB1)
    have HB := Lib.hid (HB1.out.trans (HBR.out.mono h11))
    by_cases q : k < L.length
    · have q' : decide (k < L.length) = true := by simpa using q
      obtain ⟨b, o, rfl, hcap, hmax, RA⟩ := rg_at (H0.out.below HB.out) q
      have HR := Lib.hid RA
      have c0 := RA.c0 k q
      have c1 := RA.c1 k q
      have c2 := RA.c2 k q
      have c3 := RA.c3 k q
      have c4 := RA.c4 k q
      have c5 := RA.c5 k q
      have c6 := RA.c6 k q
      have c7 := RA.c7 k q
      have clt := RA.lt
      clear RA
      have hkk := KK.out k q
      have SU := Lib.hid (rowsT_succ tk cx cy x y q)
      have LN := Lib.hid (show (rowsT tk cx cy x y (L.take k)).length ≤ 50000 by have h1 := rowsT_len tk cx cy x y (L.take k); have h2 := List.length_take_le k L; have := HN.out; omega)
      obtain ⟨rr, hrr⟩ : ∃ z, nthR L k = z := ⟨_, rfl⟩
      rw [hrr] at c0 c1 c2 c3 c4 c5 c6 c7 hkk SU
      clear hrr
      have RW := Lib.hid fun w => rowsN_any rr cx cy x y w hkk.1 hkk.2
      have N0 := Lib.hid fun h => rowT_other (tk := tk) (cx := cx) (cy := cy) (x := x) (y := y) (r := rr) h
      have N1 := Lib.hid fun h => rowT_bad (tk := tk) (cx := cx) (cy := cy) (x := x) (y := y) (r := rr) h
      have N2 := Lib.hid fun h => rowT_good (tk := tk) (cx := cx) (cy := cy) (x := x) (y := y) (r := rr) h
      have RL := Lib.hid (rowsN_len rr cx cy x y)
      have RG := Lib.hid (rowsN_good (r := rr) (cx := cx) (cy := cy) (bx := x) (b2 := y))
      clear hkk
      generalize rowT tk cx cy x y rr = rt at *
      obtain ⟨R, hR⟩ : ∃ z, rowsN rr cx cy x y = z := ⟨_, rfl⟩
      rw [hR] at RW N1 N2 RL RG
      clear hR
      obtain ⟨pl, en⟩ := R
      simp only at RW N1 N2 RL RG
      go_upto_region 5 with (fail)
      obtain ⟨KG, hb21⟩ := alB wr #[.int .i64 rr.s, .int .u8 rr.k, .int .i64 rr.x, .int .i64 rr.y, .int .i64 rr.v, .int .i64 rr.b, .int .i64 rr.wt, .int .i64 rr.t] 68
      have hnG := HB.out.size
      have nzG_I := KI.out.lt
      have nzG_B := KB.out.lt
      replace HB := hT HB hb21
      replace KI := hK KI hb21
      replace KB := hK KB hb21
      replace HO := Lib.hid (HO.out.below hb21)
      replace HR := Lib.hid (HR.out.below hb21)
      replace HBR := Lib.hid (HBR.out.trans (hb21.mono (Nat.le_trans (Nat.le_refl w1.heap.size) HBR.out.size)))
      clear hb21
      generalize wr.alloc (.cells #[.int .i64 rr.s, .int .u8 rr.k, .int .i64 rr.x, .int .i64 rr.y, .int .i64 rr.v, .int .i64 rr.b, .int .i64 rr.wt, .int .i64 rr.t] 68) = w21 at *
      generalize wr.heap.size = bG at *
      have neG_I : bG ≠ w.heap.size := by omega
      have neG_B : bG ≠ (w.heap.size + 1) := by omega
      clear nzG_I nzG_B
      clear c0 c1 c2 c3 c4 c5 c6 c7 clt
      by_cases ht : rr.t = tk
      · have g : (rr.t != tk) = false := by simpa using ht
        have N3 := Lib.hid (N2.out ht)
        clear N0 N2 ht
        obtain ⟨yI_0, yI_1, yI_2, yI_3, yI_4, yI_5, yI_z⟩ := blk6 KI
        obtain ⟨yB_0, yB_1, yB_2, yB_3, yB_z⟩ := blk4 KB
        obtain ⟨yG_0, yG_1, yG_2, yG_3, yG_4, yG_5, yG_6, yG_7, yG_z⟩ := blk8 KG
        go_wp2_with fail
        refine (RW.out _).mono ?_
        rintro e22 w22 ⟨ur, rfl, hrn, hb22⟩
        replace HB := hT HB hb22
        replace KI := hK KI hb22
        replace KB := hK KB hb22
        replace KG := hK KG hb22
        replace HO := Lib.hid (HO.out.below hb22)
        replace HR := Lib.hid (HR.out.below hb22)
        replace HBR := Lib.hid (HBR.out.trans (hb22.mono (Nat.le_trans (Nat.le_refl w1.heap.size) HBR.out.size)))
        clear yI_0 yI_1 yI_2 yI_3 yI_4 yI_5 yI_z yB_0 yB_1 yB_2 yB_3 yB_z yG_0 yG_1 yG_2 yG_3 yG_4 yG_5 yG_6 yG_7 yG_z
        clear hb22
        clear RW
        by_cases he : en = 0
        · subst he
          have hne := RG.out (by first | rfl | trivial)
          obtain ⟨kk, hur, hk2⟩ : ∃ kk : Nat, ur = .slice (some ⟨kk, 0, none⟩) pl.length pl.length ∧ w22.heap[kk]? = some (.cells (msC pl).toArray 59) := by
            rcases hrn with ⟨e, _⟩ | ⟨kk, _, e, _, h2⟩
            · exact absurd e hne
            · exact ⟨kk, e, h2⟩
          subst hur
          clear hrn RG
          have HK2 := Lib.hid hk2
          clear hk2
          have OL := Lib.hid (World.ownsRow.lt HO.out)
          go_wp2_with (at_builtin; refine Halt.mk ?_)
          unfold Halt
          refine wpList_oml rfl (.tmp 30) (.tmp 31) rfl w1.heap.size u5 (rowsT tk cx cy x y (L.take k)) rfl w22 HO.out kk pl rfl HK2.out (by have := LN.out; have := RL.out; omega) HBR.out.size ?_
          intro u2 w5 ho5 hg5 hat5
          clear hat5 HK2
          have HBR5 := Lib.hid (below_grown HBR.out hg5 HBR.out.size fun k hk => (OL.out k hk).1)
          have HB5 := Lib.hid (below_grown HB.out hg5 HB.out.size fun k hk => Nat.le_trans h11 (OL.out k hk).1)
          clear hg5
          obtain ⟨g5, cap5, hu2⟩ := Go.Joins.ownsRow_form ho5 (show 0 < (rowsT tk cx cy x y (L.take k) ++ pl).length by rw [List.length_append]; have := List.length_pos_iff.2 hne; omega)
          rw [← N3.out] at ho5 hu2
          rw [← SU.out] at ho5 hu2
          have HO6 := Lib.hid ho5
          obtain ⟨N5, hN5⟩ : ∃ N, (rowsT tk cx cy x y (L.take (k + 1))).length = N := ⟨_, rfl⟩
          rw [hN5] at hu2
          clear ho5 hN5
          subst hu2
          clear HO OL hne LN RL SU N1 N3 KG hnG neG_I neG_B HBR HB
          have HBR := HBR5
          go_wp2
          exact ⟨⟨k + 1, by go_num, by omega, HBR, HO6⟩, by simp [intOf]; omega⟩
        · have ge : (en == 0) = false := by simpa using he
          have HO6 := Lib.hid (show OM w1.heap.size w22 u5 (rowsT tk cx cy x y (L.take (k + 1))) from by rw [SU.out, N1.out he, List.append_nil]; exact HO.out)
          clear HO SU N1 N3 RG RL LN
          clear he hrn
          go_wp2
          exact ⟨⟨k + 1, by go_num, by omega, HBR, HO6⟩, by simp [intOf]; omega⟩
      · have g : (rr.t != tk) = true := by simpa using ht
        have HO6 := Lib.hid (show OM w1.heap.size w21 u5 (rowsT tk cx cy x y (L.take (k + 1))) from by rw [SU.out, N0.out ht, List.append_nil]; exact HO.out)
        clear HO SU N0 N1 N2 RG RL LN
        clear ht RW
        obtain ⟨yI_0, yI_1, yI_2, yI_3, yI_4, yI_5, yI_z⟩ := blk6 KI
        obtain ⟨yG_0, yG_1, yG_2, yG_3, yG_4, yG_5, yG_6, yG_7, yG_z⟩ := blk8 KG
        go_wp2
        exact ⟨⟨k + 1, by go_num, by omega, HBR, HO6⟩, by simp [intOf]; omega⟩
    · obtain rfl : k = L.length := by omega
      have q' : decide (L.length < L.length) = false := by simp
      have HO2 := Lib.hid (below_om2 h11 HO.out)
      rw [List.take_length] at HO2
      clear HO
      go_wp2
      go_ret
      exact ⟨⟨_, rfl, HO2.out⟩, HB.out⟩
end Go.Proofs.YtidelghgjibndaaGreat
namespace Go.Proofs.YtidelghgjibndaaGreat
set_option linter.unusedVariables false
open Go.RowKit
set_option maxHeartbeats 8000000 in
set_option maxRecDepth 100000 in
theorem ncheck_any (b : Bx4) (t m : Int) (w : World) : Calls Tryz.prog 34 #[.agg #[.int .i64 b.cx, .int .i64 b.cy, .int .i64 b.x, .int .i64 b.y, .int .i64 t, .int .i64 m]] w fun e w' => e = .returned (.int .i64 (chkS b t m)) ∧ Below w.heap.size w w' := by
  have VA0 := fun w => ival_any b w
  have EV0 : chkS b t m = if bxV b = true then (if 0 ≤ t ∧ t ≤ 1099511627776 ∧ 0 ≤ m ∧ m ≤ 1000 then 0 else 2) else 1 := rfl
  generalize chkS b t m = q at *
  cases hv : bxV b with
  | false =>
    rw [hv, if_neg (by decide)] at EV0
    rw [hv] at VA0
    have VA := Lib.hid VA0
    have EV := Lib.hid EV0
    clear EV0 VA0 hv
    obtain ⟨cx, cy, x, y⟩ := b
    simp only at VA
    obtain ⟨KS, HB⟩ := ent1 w #[.int .i64 cx, .int .i64 cy, .int .i64 x, .int .i64 y, .int .i64 t, .int .i64 m] 41
    go_enter Tryz.func34, Tryz.ntmps34
    go_wp2_with fail
    generalize w.alloc (.cells #[.int .i64 cx, .int .i64 cy, .int .i64 x, .int .i64 y, .int .i64 t, .int .i64 m] 41) = w0 at *
    refine (VA.out _).mono ?_
    rintro e1 w1 ⟨rfl, hb1⟩
    replace HB := hT HB hb1
    replace KS := hK KS hb1
    clear hb1
    go_wp2
    all_goals go_ret
    all_goals exact ⟨ret_int EV.out.symm, HB.out⟩
  | true =>
    rw [hv, if_pos rfl] at EV0
    rw [hv] at VA0
    have VA := Lib.hid VA0
    clear VA0 hv
    obtain ⟨cx, cy, x, y⟩ := b
    simp only at VA
    by_cases h0 : t < 0
    · have g0 : decide (t < 0) = true := by simpa using h0
      have EV := Lib.hid (EV0.trans (if_neg (by omega)))
      clear EV0 h0
      obtain ⟨KS, HB⟩ := ent1 w #[.int .i64 cx, .int .i64 cy, .int .i64 x, .int .i64 y, .int .i64 t, .int .i64 m] 41
      go_enter Tryz.func34, Tryz.ntmps34
      go_wp2_with fail
      generalize w.alloc (.cells #[.int .i64 cx, .int .i64 cy, .int .i64 x, .int .i64 y, .int .i64 t, .int .i64 m] 41) = w0 at *
      refine (VA.out _).mono ?_
      rintro e1 w1 ⟨rfl, hb1⟩
      replace HB := hT HB hb1
      replace KS := hK KS hb1
      clear hb1
      obtain ⟨yS_0, yS_1, yS_2, yS_3, yS_4, yS_5, yS_z⟩ := blk6 KS
      go_wp2
      all_goals go_ret
      all_goals exact ⟨ret_int EV.out.symm, HB.out⟩
    · have g0 : decide (t < 0) = false := by simpa using h0
      by_cases h1 : 1099511627776 < t
      · have g1 : decide (1099511627776 < t) = true := by simpa using h1
        have EV := Lib.hid (EV0.trans (if_neg (by omega)))
        clear EV0 h0 h1
        obtain ⟨KS, HB⟩ := ent1 w #[.int .i64 cx, .int .i64 cy, .int .i64 x, .int .i64 y, .int .i64 t, .int .i64 m] 41
        go_enter Tryz.func34, Tryz.ntmps34
        go_wp2_with fail
        generalize w.alloc (.cells #[.int .i64 cx, .int .i64 cy, .int .i64 x, .int .i64 y, .int .i64 t, .int .i64 m] 41) = w0 at *
        refine (VA.out _).mono ?_
        rintro e1 w1 ⟨rfl, hb1⟩
        replace HB := hT HB hb1
        replace KS := hK KS hb1
        clear hb1
        obtain ⟨yS_0, yS_1, yS_2, yS_3, yS_4, yS_5, yS_z⟩ := blk6 KS
        go_wp2
        all_goals go_ret
        all_goals exact ⟨ret_int EV.out.symm, HB.out⟩
      · have g1 : decide (1099511627776 < t) = false := by simpa using h1
        by_cases h2 : m < 0
        · have g2 : decide (m < 0) = true := by simpa using h2
          have EV := Lib.hid (EV0.trans (if_neg (by omega)))
          clear EV0 h0 h1 h2
          obtain ⟨KS, HB⟩ := ent1 w #[.int .i64 cx, .int .i64 cy, .int .i64 x, .int .i64 y, .int .i64 t, .int .i64 m] 41
          go_enter Tryz.func34, Tryz.ntmps34
          go_wp2_with fail
          generalize w.alloc (.cells #[.int .i64 cx, .int .i64 cy, .int .i64 x, .int .i64 y, .int .i64 t, .int .i64 m] 41) = w0 at *
          refine (VA.out _).mono ?_
          rintro e1 w1 ⟨rfl, hb1⟩
          replace HB := hT HB hb1
          replace KS := hK KS hb1
          clear hb1
          obtain ⟨yS_0, yS_1, yS_2, yS_3, yS_4, yS_5, yS_z⟩ := blk6 KS
          go_wp2
          all_goals go_ret
          all_goals exact ⟨ret_int EV.out.symm, HB.out⟩
        · have g2 : decide (m < 0) = false := by simpa using h2
          by_cases h3 : 1000 < m
          · have g3 : decide (1000 < m) = true := by simpa using h3
            have EV := Lib.hid (EV0.trans (if_neg (by omega)))
            clear EV0 h0 h1 h2 h3
            obtain ⟨KS, HB⟩ := ent1 w #[.int .i64 cx, .int .i64 cy, .int .i64 x, .int .i64 y, .int .i64 t, .int .i64 m] 41
            go_enter Tryz.func34, Tryz.ntmps34
            go_wp2_with fail
            generalize w.alloc (.cells #[.int .i64 cx, .int .i64 cy, .int .i64 x, .int .i64 y, .int .i64 t, .int .i64 m] 41) = w0 at *
            refine (VA.out _).mono ?_
            rintro e1 w1 ⟨rfl, hb1⟩
            replace HB := hT HB hb1
            replace KS := hK KS hb1
            clear hb1
            obtain ⟨yS_0, yS_1, yS_2, yS_3, yS_4, yS_5, yS_z⟩ := blk6 KS
            go_wp2
            all_goals go_ret
            all_goals exact ⟨ret_int EV.out.symm, HB.out⟩
          · have g3 : decide (1000 < m) = false := by simpa using h3
            have EV := Lib.hid (EV0.trans (if_pos (by omega)))
            clear EV0 h0 h1 h2 h3
            obtain ⟨KS, HB⟩ := ent1 w #[.int .i64 cx, .int .i64 cy, .int .i64 x, .int .i64 y, .int .i64 t, .int .i64 m] 41
            go_enter Tryz.func34, Tryz.ntmps34
            go_wp2_with fail
            generalize w.alloc (.cells #[.int .i64 cx, .int .i64 cy, .int .i64 x, .int .i64 y, .int .i64 t, .int .i64 m] 41) = w0 at *
            refine (VA.out _).mono ?_
            rintro e1 w1 ⟨rfl, hb1⟩
            replace HB := hT HB hb1
            replace KS := hK KS hb1
            clear hb1
            obtain ⟨yS_0, yS_1, yS_2, yS_3, yS_4, yS_5, yS_z⟩ := blk6 KS
            go_wp2
            all_goals go_ret
            all_goals exact ⟨ret_int EV.out.symm, HB.out⟩
def useB (lx ly rq : Int) : Bool := decide (lx ≤ rq) && decide (ly ≤ rq)
set_option maxHeartbeats 8000000 in
set_option maxRecDepth 100000 in
theorem usable_any (px py lx ly ex rq : Int) (us : Bool) (w : World) : Calls Tryz.prog 37 #[.agg #[.int .i64 px, .int .i64 py, .int .i64 lx, .int .i64 ly, .bool us, .int .i64 ex], .int .i64 rq] w fun e w' => e = .returned (.bool (useB lx ly rq)) ∧ Below w.heap.size w w' := by
  have EV0 : useB lx ly rq = (decide (lx ≤ rq) && decide (ly ≤ rq)) := rfl
  generalize useB lx ly rq = q at *
  cases h : decide (lx ≤ rq) <;> cases h2 : decide (ly ≤ rq) <;> rw [h, h2] at EV0 <;> simp at EV0
  all_goals
    have EV := Lib.hid EV0
    clear EV0
    obtain ⟨KE, HB⟩ := ent1 w #[.int .i64 px, .int .i64 py, .int .i64 lx, .int .i64 ly, .bool us, .int .i64 ex] 48
    go_enter Tryz.func37, Tryz.ntmps37
    go_wp2
    go_ret
    exact ⟨ret_b EV.out.symm, HB.out⟩
end Go.Proofs.YtidelghgjibndaaGreat
namespace Go.Proofs.YtidelghgjibndaaGreat
set_option linter.unusedVariables false
open Go.RowKit
set_option maxHeartbeats 40000000 in
set_option maxRecDepth 100000 in
theorem step_badR (b : Bx4) (t m tick ve vn dr rq : Int) (L : List Rp) (v : Value) (w : World) (h : RlG L v w) (hl : L.length ≤ 9223372036854775807) (he : stpE2 b t m tick ve vn dr rq L.length ≠ 0) :
    Calls Tryz.prog 15 #[.agg #[.int .i64 b.cx, .int .i64 b.cy, .int .i64 b.x, .int .i64 b.y, .int .i64 t, .int .i64 m], .agg #[.int .i64 tick, v, .int .i64 ve, .int .i64 vn, .int .i64 dr, .int .i64 rq]] w fun e w' => e = .returned (.tuple #[.agg #[.int .i64 0, .int .i64 0, .int .i64 0, .int .i64 0, .int .i64 0, .int .i64 0], .agg #[.int .i64 0, .int .i64 0, .int .i64 0, .int .i64 0, .bool false, .int .i64 0], .int .i64 (stpE2 b t m tick ve vn dr rq L.length)]) ∧ Below w.heap.size w w' := by
  obtain ⟨p, cap, rfl⟩ := rg_form h
  clear h
  have CK0 := fun w => ncheck_any b t m w
  have EV0 : stpE2 b t m tick ve vn dr rq L.length = if chkS b t m ≠ 0 then chkS b t m else if tick ≤ t then 16 else if 1099511627776 < tick ∨ rq < 0 ∨ 2000000 < rq then 2 else if 8 < L.length then 3 else (cstF b ve vn dr (tick - t)).2 := rfl
  have CO0 := fun w => coast_any b ve vn dr (tick - t) w
  have CB := cst_bad (b := b) (ve := ve) (vn := vn) (dr := dr) (tk := tick - t)
  have CS := chkS_ok (b := b) (t := t) (m := m)
  generalize stpE2 b t m tick ve vn dr rq L.length = q at *
  generalize L.length = n at *
  by_cases hc : chkS b t m = 0
  · obtain ⟨_, ⟨c0, c1⟩, _, _⟩ := CS hc
    clear CS
    rw [if_neg (by omega)] at EV0
    rw [hc] at CK0
    have CK := Lib.hid CK0
    clear CK0 hc
    by_cases h0 : tick ≤ t
    · have g0 : decide (tick ≤ t) = true := by simpa using h0
      have EV := Lib.hid (EV0.trans (if_pos h0))
      clear EV0 h0 CO0 CB he c0 c1
      obtain ⟨cx, cy, x, y⟩ := b
      simp only at CK
      obtain ⟨KS, KI, KA, KE, KC, HB⟩ := ent5 w #[.int .i64 cx, .int .i64 cy, .int .i64 x, .int .i64 y, .int .i64 t, .int .i64 m] 41 #[.int .i64 tick, .slice p n cap, .int .i64 ve, .int .i64 vn, .int .i64 dr, .int .i64 rq] 45 #[.int .i64 0, .int .i64 0, .int .i64 0, .int .i64 0, .int .i64 0, .int .i64 0] 41 #[.int .i64 0, .int .i64 0, .int .i64 0, .int .i64 0, .bool false, .int .i64 0] 48 #[.int .i64 0, .int .i64 0, .int .i64 0, .int .i64 0] 26
      go_enter Tryz.func15, Tryz.ntmps15
      go_wp2_with fail
      generalize ((((w.alloc (.cells #[.int .i64 cx, .int .i64 cy, .int .i64 x, .int .i64 y, .int .i64 t, .int .i64 m] 41)).alloc (.cells #[.int .i64 tick, .slice p n cap, .int .i64 ve, .int .i64 vn, .int .i64 dr, .int .i64 rq] 45)).alloc (.cells #[.int .i64 0, .int .i64 0, .int .i64 0, .int .i64 0, .int .i64 0, .int .i64 0] 41)).alloc (.cells #[.int .i64 0, .int .i64 0, .int .i64 0, .int .i64 0, .bool false, .int .i64 0] 48)).alloc (.cells #[.int .i64 0, .int .i64 0, .int .i64 0, .int .i64 0] 26) = w0 at *
      refine (CK.out _).mono ?_
      rintro e1 w1 ⟨rfl, hb1⟩
      replace HB := hT HB hb1
      replace KS := hK KS hb1
      replace KI := hK KI hb1
      replace KA := hK KA hb1
      replace KE := hK KE hb1
      replace KC := hK KC hb1
      clear hb1
      obtain ⟨yS_0, yS_1, yS_2, yS_3, yS_4, yS_5, yS_z⟩ := blk6 KS
      obtain ⟨yI_0, yI_1, yI_2, yI_3, yI_4, yI_5, yI_z⟩ := blk6 KI
      obtain ⟨yA_0, yA_1, yA_2, yA_3, yA_4, yA_5, yA_z, yA_f0, yA_f1, yA_f2, yA_f3, yA_f4, yA_f5⟩ := blf6 KA
      obtain ⟨yE_0, yE_1, yE_2, yE_3, yE_4, yE_5, yE_z, yE_f0, yE_f1, yE_f2, yE_f3, yE_f4, yE_f5⟩ := blf6 KE
      go_wp2
      have hs := st6 w1 (w.heap.size + 1 + 1) 0 (.int .i64 0) 1 (.int .i64 0) 2 (.int .i64 0) 3 (.int .i64 0) 4 (.int .i64 0) 5 (.int .i64 0)
      replace KS := oB hs KS (by omega)
      replace KI := oB hs KI (by omega)
      replace KA := Lib.hid (blk_set (blk_set (blk_set (blk_set (blk_set (blk_set KA.out (j := 0) (by simp) (.int .i64 0)) (j := 1) (by simp) (.int .i64 0)) (j := 2) (by simp) (.int .i64 0)) (j := 3) (by simp) (.int .i64 0)) (j := 4) (by simp) (.int .i64 0)) (j := 5) (by simp) (.int .i64 0))
      replace KE := oB hs KE (by omega)
      replace KC := oB hs KC (by omega)
      replace HB := oH hs HB (by omega)
      clear hs
      clear yS_0 yS_1 yS_2 yS_3 yS_4 yS_5 yS_z yI_0 yI_1 yI_2 yI_3 yI_4 yI_5 yI_z yA_0 yA_1 yA_2 yA_3 yA_4 yA_5 yA_z yA_f0 yA_f1 yA_f2 yA_f3 yA_f4 yA_f5 yE_0 yE_1 yE_2 yE_3 yE_4 yE_5 yE_z yE_f0 yE_f1 yE_f2 yE_f3 yE_f4 yE_f5
      simp only [List.set] at KA
      have hs := st6 ((((((w1.setCell ⟨(w.heap.size + 1 + 1), 0, none⟩ (.int .i64 0)).setCell ⟨(w.heap.size + 1 + 1), 1, none⟩ (.int .i64 0)).setCell ⟨(w.heap.size + 1 + 1), 2, none⟩ (.int .i64 0)).setCell ⟨(w.heap.size + 1 + 1), 3, none⟩ (.int .i64 0)).setCell ⟨(w.heap.size + 1 + 1), 4, none⟩ (.int .i64 0)).setCell ⟨(w.heap.size + 1 + 1), 5, none⟩ (.int .i64 0)) (w.heap.size + 1 + 1 + 1) 0 (.int .i64 0) 1 (.int .i64 0) 2 (.int .i64 0) 3 (.int .i64 0) 4 (.bool false) 5 (.int .i64 0)
      replace KS := oB hs KS (by omega)
      replace KI := oB hs KI (by omega)
      replace KA := oB hs KA (by omega)
      replace KE := Lib.hid (blk_set (blk_set (blk_set (blk_set (blk_set (blk_set KE.out (j := 0) (by simp) (.int .i64 0)) (j := 1) (by simp) (.int .i64 0)) (j := 2) (by simp) (.int .i64 0)) (j := 3) (by simp) (.int .i64 0)) (j := 4) (by simp) (.bool false)) (j := 5) (by simp) (.int .i64 0))
      replace KC := oB hs KC (by omega)
      replace HB := oH hs HB (by omega)
      clear hs
      generalize (((((((((((w1.setCell ⟨(w.heap.size + 1 + 1), 0, none⟩ (.int .i64 0)).setCell ⟨(w.heap.size + 1 + 1), 1, none⟩ (.int .i64 0)).setCell ⟨(w.heap.size + 1 + 1), 2, none⟩ (.int .i64 0)).setCell ⟨(w.heap.size + 1 + 1), 3, none⟩ (.int .i64 0)).setCell ⟨(w.heap.size + 1 + 1), 4, none⟩ (.int .i64 0)).setCell ⟨(w.heap.size + 1 + 1), 5, none⟩ (.int .i64 0)).setCell ⟨(w.heap.size + 1 + 1 + 1), 0, none⟩ (.int .i64 0)).setCell ⟨(w.heap.size + 1 + 1 + 1), 1, none⟩ (.int .i64 0)).setCell ⟨(w.heap.size + 1 + 1 + 1), 2, none⟩ (.int .i64 0)).setCell ⟨(w.heap.size + 1 + 1 + 1), 3, none⟩ (.int .i64 0)).setCell ⟨(w.heap.size + 1 + 1 + 1), 4, none⟩ (.bool false)).setCell ⟨(w.heap.size + 1 + 1 + 1), 5, none⟩ (.int .i64 0) = w3 at *
      simp only [List.set] at KE
      obtain ⟨yA_0, yA_1, yA_2, yA_3, yA_4, yA_5, yA_z⟩ := blk6 KA
      obtain ⟨yE_0, yE_1, yE_2, yE_3, yE_4, yE_5, yE_z⟩ := blk6 KE
      refine bodyPost_ret (v := .tuple #[.agg #[.int .i64 0, .int .i64 0, .int .i64 0, .int .i64 0, .int .i64 0, .int .i64 0], .agg #[.int .i64 0, .int .i64 0, .int .i64 0, .int .i64 0, .bool false, .int .i64 0], .int .i64 16]) (by simp [results, Tryz.results15, go_sem, yA_0, yA_1, yA_2, yA_3, yA_4, yA_5, yE_0, yE_1, yE_2, yE_3, yE_4, yE_5]) rfl ⟨by rw [EV.out], HB.out⟩
    · have g0 : decide (tick ≤ t) = false := by simpa using h0
      rw [if_neg h0] at EV0
      by_cases h1 : 1099511627776 < tick
      · have g1 : decide (1099511627776 < tick) = true := by simpa using h1
        have EV := Lib.hid (EV0.trans (if_pos (by omega)))
        clear EV0 h0 h1 CO0 CB he c0 c1
        obtain ⟨cx, cy, x, y⟩ := b
        simp only at CK
        obtain ⟨KS, KI, KA, KE, KC, HB⟩ := ent5 w #[.int .i64 cx, .int .i64 cy, .int .i64 x, .int .i64 y, .int .i64 t, .int .i64 m] 41 #[.int .i64 tick, .slice p n cap, .int .i64 ve, .int .i64 vn, .int .i64 dr, .int .i64 rq] 45 #[.int .i64 0, .int .i64 0, .int .i64 0, .int .i64 0, .int .i64 0, .int .i64 0] 41 #[.int .i64 0, .int .i64 0, .int .i64 0, .int .i64 0, .bool false, .int .i64 0] 48 #[.int .i64 0, .int .i64 0, .int .i64 0, .int .i64 0] 26
        go_enter Tryz.func15, Tryz.ntmps15
        go_wp2_with fail
        generalize ((((w.alloc (.cells #[.int .i64 cx, .int .i64 cy, .int .i64 x, .int .i64 y, .int .i64 t, .int .i64 m] 41)).alloc (.cells #[.int .i64 tick, .slice p n cap, .int .i64 ve, .int .i64 vn, .int .i64 dr, .int .i64 rq] 45)).alloc (.cells #[.int .i64 0, .int .i64 0, .int .i64 0, .int .i64 0, .int .i64 0, .int .i64 0] 41)).alloc (.cells #[.int .i64 0, .int .i64 0, .int .i64 0, .int .i64 0, .bool false, .int .i64 0] 48)).alloc (.cells #[.int .i64 0, .int .i64 0, .int .i64 0, .int .i64 0] 26) = w0 at *
        refine (CK.out _).mono ?_
        rintro e1 w1 ⟨rfl, hb1⟩
        replace HB := hT HB hb1
        replace KS := hK KS hb1
        replace KI := hK KI hb1
        replace KA := hK KA hb1
        replace KE := hK KE hb1
        replace KC := hK KC hb1
        clear hb1
        obtain ⟨yS_0, yS_1, yS_2, yS_3, yS_4, yS_5, yS_z⟩ := blk6 KS
        obtain ⟨yI_0, yI_1, yI_2, yI_3, yI_4, yI_5, yI_z⟩ := blk6 KI
        obtain ⟨yA_0, yA_1, yA_2, yA_3, yA_4, yA_5, yA_z, yA_f0, yA_f1, yA_f2, yA_f3, yA_f4, yA_f5⟩ := blf6 KA
        obtain ⟨yE_0, yE_1, yE_2, yE_3, yE_4, yE_5, yE_z, yE_f0, yE_f1, yE_f2, yE_f3, yE_f4, yE_f5⟩ := blf6 KE
        go_wp2
        have hs := st6 w1 (w.heap.size + 1 + 1) 0 (.int .i64 0) 1 (.int .i64 0) 2 (.int .i64 0) 3 (.int .i64 0) 4 (.int .i64 0) 5 (.int .i64 0)
        replace KS := oB hs KS (by omega)
        replace KI := oB hs KI (by omega)
        replace KA := Lib.hid (blk_set (blk_set (blk_set (blk_set (blk_set (blk_set KA.out (j := 0) (by simp) (.int .i64 0)) (j := 1) (by simp) (.int .i64 0)) (j := 2) (by simp) (.int .i64 0)) (j := 3) (by simp) (.int .i64 0)) (j := 4) (by simp) (.int .i64 0)) (j := 5) (by simp) (.int .i64 0))
        replace KE := oB hs KE (by omega)
        replace KC := oB hs KC (by omega)
        replace HB := oH hs HB (by omega)
        clear hs
        clear yS_0 yS_1 yS_2 yS_3 yS_4 yS_5 yS_z yI_0 yI_1 yI_2 yI_3 yI_4 yI_5 yI_z yA_0 yA_1 yA_2 yA_3 yA_4 yA_5 yA_z yA_f0 yA_f1 yA_f2 yA_f3 yA_f4 yA_f5 yE_0 yE_1 yE_2 yE_3 yE_4 yE_5 yE_z yE_f0 yE_f1 yE_f2 yE_f3 yE_f4 yE_f5
        simp only [List.set] at KA
        have hs := st6 ((((((w1.setCell ⟨(w.heap.size + 1 + 1), 0, none⟩ (.int .i64 0)).setCell ⟨(w.heap.size + 1 + 1), 1, none⟩ (.int .i64 0)).setCell ⟨(w.heap.size + 1 + 1), 2, none⟩ (.int .i64 0)).setCell ⟨(w.heap.size + 1 + 1), 3, none⟩ (.int .i64 0)).setCell ⟨(w.heap.size + 1 + 1), 4, none⟩ (.int .i64 0)).setCell ⟨(w.heap.size + 1 + 1), 5, none⟩ (.int .i64 0)) (w.heap.size + 1 + 1 + 1) 0 (.int .i64 0) 1 (.int .i64 0) 2 (.int .i64 0) 3 (.int .i64 0) 4 (.bool false) 5 (.int .i64 0)
        replace KS := oB hs KS (by omega)
        replace KI := oB hs KI (by omega)
        replace KA := oB hs KA (by omega)
        replace KE := Lib.hid (blk_set (blk_set (blk_set (blk_set (blk_set (blk_set KE.out (j := 0) (by simp) (.int .i64 0)) (j := 1) (by simp) (.int .i64 0)) (j := 2) (by simp) (.int .i64 0)) (j := 3) (by simp) (.int .i64 0)) (j := 4) (by simp) (.bool false)) (j := 5) (by simp) (.int .i64 0))
        replace KC := oB hs KC (by omega)
        replace HB := oH hs HB (by omega)
        clear hs
        generalize (((((((((((w1.setCell ⟨(w.heap.size + 1 + 1), 0, none⟩ (.int .i64 0)).setCell ⟨(w.heap.size + 1 + 1), 1, none⟩ (.int .i64 0)).setCell ⟨(w.heap.size + 1 + 1), 2, none⟩ (.int .i64 0)).setCell ⟨(w.heap.size + 1 + 1), 3, none⟩ (.int .i64 0)).setCell ⟨(w.heap.size + 1 + 1), 4, none⟩ (.int .i64 0)).setCell ⟨(w.heap.size + 1 + 1), 5, none⟩ (.int .i64 0)).setCell ⟨(w.heap.size + 1 + 1 + 1), 0, none⟩ (.int .i64 0)).setCell ⟨(w.heap.size + 1 + 1 + 1), 1, none⟩ (.int .i64 0)).setCell ⟨(w.heap.size + 1 + 1 + 1), 2, none⟩ (.int .i64 0)).setCell ⟨(w.heap.size + 1 + 1 + 1), 3, none⟩ (.int .i64 0)).setCell ⟨(w.heap.size + 1 + 1 + 1), 4, none⟩ (.bool false)).setCell ⟨(w.heap.size + 1 + 1 + 1), 5, none⟩ (.int .i64 0) = w3 at *
        simp only [List.set] at KE
        obtain ⟨yA_0, yA_1, yA_2, yA_3, yA_4, yA_5, yA_z⟩ := blk6 KA
        obtain ⟨yE_0, yE_1, yE_2, yE_3, yE_4, yE_5, yE_z⟩ := blk6 KE
        refine bodyPost_ret (v := .tuple #[.agg #[.int .i64 0, .int .i64 0, .int .i64 0, .int .i64 0, .int .i64 0, .int .i64 0], .agg #[.int .i64 0, .int .i64 0, .int .i64 0, .int .i64 0, .bool false, .int .i64 0], .int .i64 2]) (by simp [results, Tryz.results15, go_sem, yA_0, yA_1, yA_2, yA_3, yA_4, yA_5, yE_0, yE_1, yE_2, yE_3, yE_4, yE_5]) rfl ⟨by rw [EV.out], HB.out⟩
      · have g1 : decide (1099511627776 < tick) = false := by simpa using h1
        by_cases h2 : rq < 0
        · have g2 : decide (rq < 0) = true := by simpa using h2
          have EV := Lib.hid (EV0.trans (if_pos (by omega)))
          clear EV0 h0 h1 h2 CO0 CB he c0 c1
          obtain ⟨cx, cy, x, y⟩ := b
          simp only at CK
          obtain ⟨KS, KI, KA, KE, KC, HB⟩ := ent5 w #[.int .i64 cx, .int .i64 cy, .int .i64 x, .int .i64 y, .int .i64 t, .int .i64 m] 41 #[.int .i64 tick, .slice p n cap, .int .i64 ve, .int .i64 vn, .int .i64 dr, .int .i64 rq] 45 #[.int .i64 0, .int .i64 0, .int .i64 0, .int .i64 0, .int .i64 0, .int .i64 0] 41 #[.int .i64 0, .int .i64 0, .int .i64 0, .int .i64 0, .bool false, .int .i64 0] 48 #[.int .i64 0, .int .i64 0, .int .i64 0, .int .i64 0] 26
          go_enter Tryz.func15, Tryz.ntmps15
          go_wp2_with fail
          generalize ((((w.alloc (.cells #[.int .i64 cx, .int .i64 cy, .int .i64 x, .int .i64 y, .int .i64 t, .int .i64 m] 41)).alloc (.cells #[.int .i64 tick, .slice p n cap, .int .i64 ve, .int .i64 vn, .int .i64 dr, .int .i64 rq] 45)).alloc (.cells #[.int .i64 0, .int .i64 0, .int .i64 0, .int .i64 0, .int .i64 0, .int .i64 0] 41)).alloc (.cells #[.int .i64 0, .int .i64 0, .int .i64 0, .int .i64 0, .bool false, .int .i64 0] 48)).alloc (.cells #[.int .i64 0, .int .i64 0, .int .i64 0, .int .i64 0] 26) = w0 at *
          refine (CK.out _).mono ?_
          rintro e1 w1 ⟨rfl, hb1⟩
          replace HB := hT HB hb1
          replace KS := hK KS hb1
          replace KI := hK KI hb1
          replace KA := hK KA hb1
          replace KE := hK KE hb1
          replace KC := hK KC hb1
          clear hb1
          obtain ⟨yS_0, yS_1, yS_2, yS_3, yS_4, yS_5, yS_z⟩ := blk6 KS
          obtain ⟨yI_0, yI_1, yI_2, yI_3, yI_4, yI_5, yI_z⟩ := blk6 KI
          obtain ⟨yA_0, yA_1, yA_2, yA_3, yA_4, yA_5, yA_z, yA_f0, yA_f1, yA_f2, yA_f3, yA_f4, yA_f5⟩ := blf6 KA
          obtain ⟨yE_0, yE_1, yE_2, yE_3, yE_4, yE_5, yE_z, yE_f0, yE_f1, yE_f2, yE_f3, yE_f4, yE_f5⟩ := blf6 KE
          go_wp2
          have hs := st6 w1 (w.heap.size + 1 + 1) 0 (.int .i64 0) 1 (.int .i64 0) 2 (.int .i64 0) 3 (.int .i64 0) 4 (.int .i64 0) 5 (.int .i64 0)
          replace KS := oB hs KS (by omega)
          replace KI := oB hs KI (by omega)
          replace KA := Lib.hid (blk_set (blk_set (blk_set (blk_set (blk_set (blk_set KA.out (j := 0) (by simp) (.int .i64 0)) (j := 1) (by simp) (.int .i64 0)) (j := 2) (by simp) (.int .i64 0)) (j := 3) (by simp) (.int .i64 0)) (j := 4) (by simp) (.int .i64 0)) (j := 5) (by simp) (.int .i64 0))
          replace KE := oB hs KE (by omega)
          replace KC := oB hs KC (by omega)
          replace HB := oH hs HB (by omega)
          clear hs
          clear yS_0 yS_1 yS_2 yS_3 yS_4 yS_5 yS_z yI_0 yI_1 yI_2 yI_3 yI_4 yI_5 yI_z yA_0 yA_1 yA_2 yA_3 yA_4 yA_5 yA_z yA_f0 yA_f1 yA_f2 yA_f3 yA_f4 yA_f5 yE_0 yE_1 yE_2 yE_3 yE_4 yE_5 yE_z yE_f0 yE_f1 yE_f2 yE_f3 yE_f4 yE_f5
          simp only [List.set] at KA
          have hs := st6 ((((((w1.setCell ⟨(w.heap.size + 1 + 1), 0, none⟩ (.int .i64 0)).setCell ⟨(w.heap.size + 1 + 1), 1, none⟩ (.int .i64 0)).setCell ⟨(w.heap.size + 1 + 1), 2, none⟩ (.int .i64 0)).setCell ⟨(w.heap.size + 1 + 1), 3, none⟩ (.int .i64 0)).setCell ⟨(w.heap.size + 1 + 1), 4, none⟩ (.int .i64 0)).setCell ⟨(w.heap.size + 1 + 1), 5, none⟩ (.int .i64 0)) (w.heap.size + 1 + 1 + 1) 0 (.int .i64 0) 1 (.int .i64 0) 2 (.int .i64 0) 3 (.int .i64 0) 4 (.bool false) 5 (.int .i64 0)
          replace KS := oB hs KS (by omega)
          replace KI := oB hs KI (by omega)
          replace KA := oB hs KA (by omega)
          replace KE := Lib.hid (blk_set (blk_set (blk_set (blk_set (blk_set (blk_set KE.out (j := 0) (by simp) (.int .i64 0)) (j := 1) (by simp) (.int .i64 0)) (j := 2) (by simp) (.int .i64 0)) (j := 3) (by simp) (.int .i64 0)) (j := 4) (by simp) (.bool false)) (j := 5) (by simp) (.int .i64 0))
          replace KC := oB hs KC (by omega)
          replace HB := oH hs HB (by omega)
          clear hs
          generalize (((((((((((w1.setCell ⟨(w.heap.size + 1 + 1), 0, none⟩ (.int .i64 0)).setCell ⟨(w.heap.size + 1 + 1), 1, none⟩ (.int .i64 0)).setCell ⟨(w.heap.size + 1 + 1), 2, none⟩ (.int .i64 0)).setCell ⟨(w.heap.size + 1 + 1), 3, none⟩ (.int .i64 0)).setCell ⟨(w.heap.size + 1 + 1), 4, none⟩ (.int .i64 0)).setCell ⟨(w.heap.size + 1 + 1), 5, none⟩ (.int .i64 0)).setCell ⟨(w.heap.size + 1 + 1 + 1), 0, none⟩ (.int .i64 0)).setCell ⟨(w.heap.size + 1 + 1 + 1), 1, none⟩ (.int .i64 0)).setCell ⟨(w.heap.size + 1 + 1 + 1), 2, none⟩ (.int .i64 0)).setCell ⟨(w.heap.size + 1 + 1 + 1), 3, none⟩ (.int .i64 0)).setCell ⟨(w.heap.size + 1 + 1 + 1), 4, none⟩ (.bool false)).setCell ⟨(w.heap.size + 1 + 1 + 1), 5, none⟩ (.int .i64 0) = w3 at *
          simp only [List.set] at KE
          obtain ⟨yA_0, yA_1, yA_2, yA_3, yA_4, yA_5, yA_z⟩ := blk6 KA
          obtain ⟨yE_0, yE_1, yE_2, yE_3, yE_4, yE_5, yE_z⟩ := blk6 KE
          refine bodyPost_ret (v := .tuple #[.agg #[.int .i64 0, .int .i64 0, .int .i64 0, .int .i64 0, .int .i64 0, .int .i64 0], .agg #[.int .i64 0, .int .i64 0, .int .i64 0, .int .i64 0, .bool false, .int .i64 0], .int .i64 2]) (by simp [results, Tryz.results15, go_sem, yA_0, yA_1, yA_2, yA_3, yA_4, yA_5, yE_0, yE_1, yE_2, yE_3, yE_4, yE_5]) rfl ⟨by rw [EV.out], HB.out⟩
        · have g2 : decide (rq < 0) = false := by simpa using h2
          by_cases h3 : 2000000 < rq
          · have g3 : decide (2000000 < rq) = true := by simpa using h3
            have EV := Lib.hid (EV0.trans (if_pos (by omega)))
            clear EV0 h0 h1 h2 h3 CO0 CB he c0 c1
            obtain ⟨cx, cy, x, y⟩ := b
            simp only at CK
            obtain ⟨KS, KI, KA, KE, KC, HB⟩ := ent5 w #[.int .i64 cx, .int .i64 cy, .int .i64 x, .int .i64 y, .int .i64 t, .int .i64 m] 41 #[.int .i64 tick, .slice p n cap, .int .i64 ve, .int .i64 vn, .int .i64 dr, .int .i64 rq] 45 #[.int .i64 0, .int .i64 0, .int .i64 0, .int .i64 0, .int .i64 0, .int .i64 0] 41 #[.int .i64 0, .int .i64 0, .int .i64 0, .int .i64 0, .bool false, .int .i64 0] 48 #[.int .i64 0, .int .i64 0, .int .i64 0, .int .i64 0] 26
            go_enter Tryz.func15, Tryz.ntmps15
            go_wp2_with fail
            generalize ((((w.alloc (.cells #[.int .i64 cx, .int .i64 cy, .int .i64 x, .int .i64 y, .int .i64 t, .int .i64 m] 41)).alloc (.cells #[.int .i64 tick, .slice p n cap, .int .i64 ve, .int .i64 vn, .int .i64 dr, .int .i64 rq] 45)).alloc (.cells #[.int .i64 0, .int .i64 0, .int .i64 0, .int .i64 0, .int .i64 0, .int .i64 0] 41)).alloc (.cells #[.int .i64 0, .int .i64 0, .int .i64 0, .int .i64 0, .bool false, .int .i64 0] 48)).alloc (.cells #[.int .i64 0, .int .i64 0, .int .i64 0, .int .i64 0] 26) = w0 at *
            refine (CK.out _).mono ?_
            rintro e1 w1 ⟨rfl, hb1⟩
            replace HB := hT HB hb1
            replace KS := hK KS hb1
            replace KI := hK KI hb1
            replace KA := hK KA hb1
            replace KE := hK KE hb1
            replace KC := hK KC hb1
            clear hb1
            obtain ⟨yS_0, yS_1, yS_2, yS_3, yS_4, yS_5, yS_z⟩ := blk6 KS
            obtain ⟨yI_0, yI_1, yI_2, yI_3, yI_4, yI_5, yI_z⟩ := blk6 KI
            obtain ⟨yA_0, yA_1, yA_2, yA_3, yA_4, yA_5, yA_z, yA_f0, yA_f1, yA_f2, yA_f3, yA_f4, yA_f5⟩ := blf6 KA
            obtain ⟨yE_0, yE_1, yE_2, yE_3, yE_4, yE_5, yE_z, yE_f0, yE_f1, yE_f2, yE_f3, yE_f4, yE_f5⟩ := blf6 KE
            go_wp2
            have hs := st6 w1 (w.heap.size + 1 + 1) 0 (.int .i64 0) 1 (.int .i64 0) 2 (.int .i64 0) 3 (.int .i64 0) 4 (.int .i64 0) 5 (.int .i64 0)
            replace KS := oB hs KS (by omega)
            replace KI := oB hs KI (by omega)
            replace KA := Lib.hid (blk_set (blk_set (blk_set (blk_set (blk_set (blk_set KA.out (j := 0) (by simp) (.int .i64 0)) (j := 1) (by simp) (.int .i64 0)) (j := 2) (by simp) (.int .i64 0)) (j := 3) (by simp) (.int .i64 0)) (j := 4) (by simp) (.int .i64 0)) (j := 5) (by simp) (.int .i64 0))
            replace KE := oB hs KE (by omega)
            replace KC := oB hs KC (by omega)
            replace HB := oH hs HB (by omega)
            clear hs
            clear yS_0 yS_1 yS_2 yS_3 yS_4 yS_5 yS_z yI_0 yI_1 yI_2 yI_3 yI_4 yI_5 yI_z yA_0 yA_1 yA_2 yA_3 yA_4 yA_5 yA_z yA_f0 yA_f1 yA_f2 yA_f3 yA_f4 yA_f5 yE_0 yE_1 yE_2 yE_3 yE_4 yE_5 yE_z yE_f0 yE_f1 yE_f2 yE_f3 yE_f4 yE_f5
            simp only [List.set] at KA
            have hs := st6 ((((((w1.setCell ⟨(w.heap.size + 1 + 1), 0, none⟩ (.int .i64 0)).setCell ⟨(w.heap.size + 1 + 1), 1, none⟩ (.int .i64 0)).setCell ⟨(w.heap.size + 1 + 1), 2, none⟩ (.int .i64 0)).setCell ⟨(w.heap.size + 1 + 1), 3, none⟩ (.int .i64 0)).setCell ⟨(w.heap.size + 1 + 1), 4, none⟩ (.int .i64 0)).setCell ⟨(w.heap.size + 1 + 1), 5, none⟩ (.int .i64 0)) (w.heap.size + 1 + 1 + 1) 0 (.int .i64 0) 1 (.int .i64 0) 2 (.int .i64 0) 3 (.int .i64 0) 4 (.bool false) 5 (.int .i64 0)
            replace KS := oB hs KS (by omega)
            replace KI := oB hs KI (by omega)
            replace KA := oB hs KA (by omega)
            replace KE := Lib.hid (blk_set (blk_set (blk_set (blk_set (blk_set (blk_set KE.out (j := 0) (by simp) (.int .i64 0)) (j := 1) (by simp) (.int .i64 0)) (j := 2) (by simp) (.int .i64 0)) (j := 3) (by simp) (.int .i64 0)) (j := 4) (by simp) (.bool false)) (j := 5) (by simp) (.int .i64 0))
            replace KC := oB hs KC (by omega)
            replace HB := oH hs HB (by omega)
            clear hs
            generalize (((((((((((w1.setCell ⟨(w.heap.size + 1 + 1), 0, none⟩ (.int .i64 0)).setCell ⟨(w.heap.size + 1 + 1), 1, none⟩ (.int .i64 0)).setCell ⟨(w.heap.size + 1 + 1), 2, none⟩ (.int .i64 0)).setCell ⟨(w.heap.size + 1 + 1), 3, none⟩ (.int .i64 0)).setCell ⟨(w.heap.size + 1 + 1), 4, none⟩ (.int .i64 0)).setCell ⟨(w.heap.size + 1 + 1), 5, none⟩ (.int .i64 0)).setCell ⟨(w.heap.size + 1 + 1 + 1), 0, none⟩ (.int .i64 0)).setCell ⟨(w.heap.size + 1 + 1 + 1), 1, none⟩ (.int .i64 0)).setCell ⟨(w.heap.size + 1 + 1 + 1), 2, none⟩ (.int .i64 0)).setCell ⟨(w.heap.size + 1 + 1 + 1), 3, none⟩ (.int .i64 0)).setCell ⟨(w.heap.size + 1 + 1 + 1), 4, none⟩ (.bool false)).setCell ⟨(w.heap.size + 1 + 1 + 1), 5, none⟩ (.int .i64 0) = w3 at *
            simp only [List.set] at KE
            obtain ⟨yA_0, yA_1, yA_2, yA_3, yA_4, yA_5, yA_z⟩ := blk6 KA
            obtain ⟨yE_0, yE_1, yE_2, yE_3, yE_4, yE_5, yE_z⟩ := blk6 KE
            refine bodyPost_ret (v := .tuple #[.agg #[.int .i64 0, .int .i64 0, .int .i64 0, .int .i64 0, .int .i64 0, .int .i64 0], .agg #[.int .i64 0, .int .i64 0, .int .i64 0, .int .i64 0, .bool false, .int .i64 0], .int .i64 2]) (by simp [results, Tryz.results15, go_sem, yA_0, yA_1, yA_2, yA_3, yA_4, yA_5, yE_0, yE_1, yE_2, yE_3, yE_4, yE_5]) rfl ⟨by rw [EV.out], HB.out⟩
          · have g3 : decide (2000000 < rq) = false := by simpa using h3
            rw [if_neg (by omega)] at EV0
            by_cases h4 : 8 < n
            · have g4 : decide (8 < n) = true := by simpa using h4
              have g5 : decide ((8 : Int) < n) = true := by simp; omega
              have EV := Lib.hid (EV0.trans (if_pos h4))
              clear EV0 h0 h1 h2 h3 h4 CO0 CB he c0 c1
              obtain ⟨cx, cy, x, y⟩ := b
              simp only at CK
              obtain ⟨KS, KI, KA, KE, KC, HB⟩ := ent5 w #[.int .i64 cx, .int .i64 cy, .int .i64 x, .int .i64 y, .int .i64 t, .int .i64 m] 41 #[.int .i64 tick, .slice p n cap, .int .i64 ve, .int .i64 vn, .int .i64 dr, .int .i64 rq] 45 #[.int .i64 0, .int .i64 0, .int .i64 0, .int .i64 0, .int .i64 0, .int .i64 0] 41 #[.int .i64 0, .int .i64 0, .int .i64 0, .int .i64 0, .bool false, .int .i64 0] 48 #[.int .i64 0, .int .i64 0, .int .i64 0, .int .i64 0] 26
              go_enter Tryz.func15, Tryz.ntmps15
              go_wp2_with fail
              generalize ((((w.alloc (.cells #[.int .i64 cx, .int .i64 cy, .int .i64 x, .int .i64 y, .int .i64 t, .int .i64 m] 41)).alloc (.cells #[.int .i64 tick, .slice p n cap, .int .i64 ve, .int .i64 vn, .int .i64 dr, .int .i64 rq] 45)).alloc (.cells #[.int .i64 0, .int .i64 0, .int .i64 0, .int .i64 0, .int .i64 0, .int .i64 0] 41)).alloc (.cells #[.int .i64 0, .int .i64 0, .int .i64 0, .int .i64 0, .bool false, .int .i64 0] 48)).alloc (.cells #[.int .i64 0, .int .i64 0, .int .i64 0, .int .i64 0] 26) = w0 at *
              refine (CK.out _).mono ?_
              rintro e1 w1 ⟨rfl, hb1⟩
              replace HB := hT HB hb1
              replace KS := hK KS hb1
              replace KI := hK KI hb1
              replace KA := hK KA hb1
              replace KE := hK KE hb1
              replace KC := hK KC hb1
              clear hb1
              obtain ⟨yS_0, yS_1, yS_2, yS_3, yS_4, yS_5, yS_z⟩ := blk6 KS
              obtain ⟨yI_0, yI_1, yI_2, yI_3, yI_4, yI_5, yI_z⟩ := blk6 KI
              obtain ⟨yA_0, yA_1, yA_2, yA_3, yA_4, yA_5, yA_z, yA_f0, yA_f1, yA_f2, yA_f3, yA_f4, yA_f5⟩ := blf6 KA
              obtain ⟨yE_0, yE_1, yE_2, yE_3, yE_4, yE_5, yE_z, yE_f0, yE_f1, yE_f2, yE_f3, yE_f4, yE_f5⟩ := blf6 KE
              go_wp2
              have hs := st6 w1 (w.heap.size + 1 + 1) 0 (.int .i64 0) 1 (.int .i64 0) 2 (.int .i64 0) 3 (.int .i64 0) 4 (.int .i64 0) 5 (.int .i64 0)
              replace KS := oB hs KS (by omega)
              replace KI := oB hs KI (by omega)
              replace KA := Lib.hid (blk_set (blk_set (blk_set (blk_set (blk_set (blk_set KA.out (j := 0) (by simp) (.int .i64 0)) (j := 1) (by simp) (.int .i64 0)) (j := 2) (by simp) (.int .i64 0)) (j := 3) (by simp) (.int .i64 0)) (j := 4) (by simp) (.int .i64 0)) (j := 5) (by simp) (.int .i64 0))
              replace KE := oB hs KE (by omega)
              replace KC := oB hs KC (by omega)
              replace HB := oH hs HB (by omega)
              clear hs
              clear yS_0 yS_1 yS_2 yS_3 yS_4 yS_5 yS_z yI_0 yI_1 yI_2 yI_3 yI_4 yI_5 yI_z yA_0 yA_1 yA_2 yA_3 yA_4 yA_5 yA_z yA_f0 yA_f1 yA_f2 yA_f3 yA_f4 yA_f5 yE_0 yE_1 yE_2 yE_3 yE_4 yE_5 yE_z yE_f0 yE_f1 yE_f2 yE_f3 yE_f4 yE_f5
              simp only [List.set] at KA
              have hs := st6 ((((((w1.setCell ⟨(w.heap.size + 1 + 1), 0, none⟩ (.int .i64 0)).setCell ⟨(w.heap.size + 1 + 1), 1, none⟩ (.int .i64 0)).setCell ⟨(w.heap.size + 1 + 1), 2, none⟩ (.int .i64 0)).setCell ⟨(w.heap.size + 1 + 1), 3, none⟩ (.int .i64 0)).setCell ⟨(w.heap.size + 1 + 1), 4, none⟩ (.int .i64 0)).setCell ⟨(w.heap.size + 1 + 1), 5, none⟩ (.int .i64 0)) (w.heap.size + 1 + 1 + 1) 0 (.int .i64 0) 1 (.int .i64 0) 2 (.int .i64 0) 3 (.int .i64 0) 4 (.bool false) 5 (.int .i64 0)
              replace KS := oB hs KS (by omega)
              replace KI := oB hs KI (by omega)
              replace KA := oB hs KA (by omega)
              replace KE := Lib.hid (blk_set (blk_set (blk_set (blk_set (blk_set (blk_set KE.out (j := 0) (by simp) (.int .i64 0)) (j := 1) (by simp) (.int .i64 0)) (j := 2) (by simp) (.int .i64 0)) (j := 3) (by simp) (.int .i64 0)) (j := 4) (by simp) (.bool false)) (j := 5) (by simp) (.int .i64 0))
              replace KC := oB hs KC (by omega)
              replace HB := oH hs HB (by omega)
              clear hs
              generalize (((((((((((w1.setCell ⟨(w.heap.size + 1 + 1), 0, none⟩ (.int .i64 0)).setCell ⟨(w.heap.size + 1 + 1), 1, none⟩ (.int .i64 0)).setCell ⟨(w.heap.size + 1 + 1), 2, none⟩ (.int .i64 0)).setCell ⟨(w.heap.size + 1 + 1), 3, none⟩ (.int .i64 0)).setCell ⟨(w.heap.size + 1 + 1), 4, none⟩ (.int .i64 0)).setCell ⟨(w.heap.size + 1 + 1), 5, none⟩ (.int .i64 0)).setCell ⟨(w.heap.size + 1 + 1 + 1), 0, none⟩ (.int .i64 0)).setCell ⟨(w.heap.size + 1 + 1 + 1), 1, none⟩ (.int .i64 0)).setCell ⟨(w.heap.size + 1 + 1 + 1), 2, none⟩ (.int .i64 0)).setCell ⟨(w.heap.size + 1 + 1 + 1), 3, none⟩ (.int .i64 0)).setCell ⟨(w.heap.size + 1 + 1 + 1), 4, none⟩ (.bool false)).setCell ⟨(w.heap.size + 1 + 1 + 1), 5, none⟩ (.int .i64 0) = w3 at *
              simp only [List.set] at KE
              obtain ⟨yA_0, yA_1, yA_2, yA_3, yA_4, yA_5, yA_z⟩ := blk6 KA
              obtain ⟨yE_0, yE_1, yE_2, yE_3, yE_4, yE_5, yE_z⟩ := blk6 KE
              refine bodyPost_ret (v := .tuple #[.agg #[.int .i64 0, .int .i64 0, .int .i64 0, .int .i64 0, .int .i64 0, .int .i64 0], .agg #[.int .i64 0, .int .i64 0, .int .i64 0, .int .i64 0, .bool false, .int .i64 0], .int .i64 3]) (by simp [results, Tryz.results15, go_sem, yA_0, yA_1, yA_2, yA_3, yA_4, yA_5, yE_0, yE_1, yE_2, yE_3, yE_4, yE_5]) rfl ⟨by rw [EV.out], HB.out⟩
            · have g4 : decide (8 < n) = false := by simpa using h4
              have g5 : decide ((8 : Int) < n) = false := by simp; omega
              rw [if_neg h4] at EV0
              have sw : IntKind.i64.wrap (tick - t) = tick - t := IntWalk.i64_in _ (by omega)
              rw [EV0] at he
              have CB := CB he
              obtain ⟨r, hr⟩ : ∃ z, cstF b ve vn dr (tick - t) = z := ⟨_, rfl⟩
              rw [hr] at EV0 CO0 CB he
              clear hr h0 h1 h2 h3 h4 c0 c1
              obtain ⟨r, e⟩ := r
              simp only at EV0 CB he CO0
              subst CB
              have EV := Lib.hid EV0
              have ge : (e != 0) = true := by simpa using he
              have ge' : (e == 0) = false := by simpa using he
              unfold bx0 at CO0
              simp only at CO0
              clear EV0 he
              obtain ⟨cx, cy, x, y⟩ := b
              simp only at CK CO0
              have CO := Lib.hid CO0
              clear CO0
              obtain ⟨KS, KI, KA, KE, KC, HB⟩ := ent5 w #[.int .i64 cx, .int .i64 cy, .int .i64 x, .int .i64 y, .int .i64 t, .int .i64 m] 41 #[.int .i64 tick, .slice p n cap, .int .i64 ve, .int .i64 vn, .int .i64 dr, .int .i64 rq] 45 #[.int .i64 0, .int .i64 0, .int .i64 0, .int .i64 0, .int .i64 0, .int .i64 0] 41 #[.int .i64 0, .int .i64 0, .int .i64 0, .int .i64 0, .bool false, .int .i64 0] 48 #[.int .i64 0, .int .i64 0, .int .i64 0, .int .i64 0] 26
              go_enter Tryz.func15, Tryz.ntmps15
              go_wp2_with fail
              generalize ((((w.alloc (.cells #[.int .i64 cx, .int .i64 cy, .int .i64 x, .int .i64 y, .int .i64 t, .int .i64 m] 41)).alloc (.cells #[.int .i64 tick, .slice p n cap, .int .i64 ve, .int .i64 vn, .int .i64 dr, .int .i64 rq] 45)).alloc (.cells #[.int .i64 0, .int .i64 0, .int .i64 0, .int .i64 0, .int .i64 0, .int .i64 0] 41)).alloc (.cells #[.int .i64 0, .int .i64 0, .int .i64 0, .int .i64 0, .bool false, .int .i64 0] 48)).alloc (.cells #[.int .i64 0, .int .i64 0, .int .i64 0, .int .i64 0] 26) = w0 at *
              refine (CK.out _).mono ?_
              rintro e1 w1 ⟨rfl, hb1⟩
              replace HB := hT HB hb1
              replace KS := hK KS hb1
              replace KI := hK KI hb1
              replace KA := hK KA hb1
              replace KE := hK KE hb1
              replace KC := hK KC hb1
              clear hb1
              obtain ⟨yS_0, yS_1, yS_2, yS_3, yS_4, yS_5, yS_z⟩ := blk6 KS
              obtain ⟨yI_0, yI_1, yI_2, yI_3, yI_4, yI_5, yI_z⟩ := blk6 KI
              go_wp2_with fail
              refine (CO.out _).mono ?_
              rintro e2 w2 ⟨rfl, hb2⟩
              replace HB := hT HB hb2
              replace KS := hK KS hb2
              replace KI := hK KI hb2
              replace KA := hK KA hb2
              replace KE := hK KE hb2
              replace KC := hK KC hb2
              clear yS_0 yS_1 yS_2 yS_3 yS_4 yS_5 yS_z yI_0 yI_1 yI_2 yI_3 yI_4 yI_5 yI_z
              clear hb2
              obtain ⟨yA_0, yA_1, yA_2, yA_3, yA_4, yA_5, yA_z, yA_f0, yA_f1, yA_f2, yA_f3, yA_f4, yA_f5⟩ := blf6 KA
              obtain ⟨yE_0, yE_1, yE_2, yE_3, yE_4, yE_5, yE_z, yE_f0, yE_f1, yE_f2, yE_f3, yE_f4, yE_f5⟩ := blf6 KE
              obtain ⟨yC_0, yC_1, yC_2, yC_3, yC_z, yC_f0, yC_f1, yC_f2, yC_f3⟩ := blf4 KC
              go_wp2
              have hs := st4 w2 (w.heap.size + 1 + 1 + 1 + 1) 0 (.int .i64 0) 1 (.int .i64 0) 2 (.int .i64 0) 3 (.int .i64 0)
              replace KS := oB hs KS (by omega)
              replace KI := oB hs KI (by omega)
              replace KA := oB hs KA (by omega)
              replace KE := oB hs KE (by omega)
              replace KC := Lib.hid (blk_set (blk_set (blk_set (blk_set KC.out (j := 0) (by simp) (.int .i64 0)) (j := 1) (by simp) (.int .i64 0)) (j := 2) (by simp) (.int .i64 0)) (j := 3) (by simp) (.int .i64 0))
              replace HB := oH hs HB (by omega)
              clear hs
              clear yA_0 yA_1 yA_2 yA_3 yA_4 yA_5 yA_z yA_f0 yA_f1 yA_f2 yA_f3 yA_f4 yA_f5 yE_0 yE_1 yE_2 yE_3 yE_4 yE_5 yE_z yE_f0 yE_f1 yE_f2 yE_f3 yE_f4 yE_f5 yC_0 yC_1 yC_2 yC_3 yC_z yC_f0 yC_f1 yC_f2 yC_f3
              simp only [List.set] at KC
              have hs := st6 ((((w2.setCell ⟨(w.heap.size + 1 + 1 + 1 + 1), 0, none⟩ (.int .i64 0)).setCell ⟨(w.heap.size + 1 + 1 + 1 + 1), 1, none⟩ (.int .i64 0)).setCell ⟨(w.heap.size + 1 + 1 + 1 + 1), 2, none⟩ (.int .i64 0)).setCell ⟨(w.heap.size + 1 + 1 + 1 + 1), 3, none⟩ (.int .i64 0)) (w.heap.size + 1 + 1) 0 (.int .i64 0) 1 (.int .i64 0) 2 (.int .i64 0) 3 (.int .i64 0) 4 (.int .i64 0) 5 (.int .i64 0)
              replace KS := oB hs KS (by omega)
              replace KI := oB hs KI (by omega)
              replace KA := Lib.hid (blk_set (blk_set (blk_set (blk_set (blk_set (blk_set KA.out (j := 0) (by simp) (.int .i64 0)) (j := 1) (by simp) (.int .i64 0)) (j := 2) (by simp) (.int .i64 0)) (j := 3) (by simp) (.int .i64 0)) (j := 4) (by simp) (.int .i64 0)) (j := 5) (by simp) (.int .i64 0))
              replace KE := oB hs KE (by omega)
              replace KC := oB hs KC (by omega)
              replace HB := oH hs HB (by omega)
              clear hs
              simp only [List.set] at KA
              have hs := st6 ((((((((((w2.setCell ⟨(w.heap.size + 1 + 1 + 1 + 1), 0, none⟩ (.int .i64 0)).setCell ⟨(w.heap.size + 1 + 1 + 1 + 1), 1, none⟩ (.int .i64 0)).setCell ⟨(w.heap.size + 1 + 1 + 1 + 1), 2, none⟩ (.int .i64 0)).setCell ⟨(w.heap.size + 1 + 1 + 1 + 1), 3, none⟩ (.int .i64 0)).setCell ⟨(w.heap.size + 1 + 1), 0, none⟩ (.int .i64 0)).setCell ⟨(w.heap.size + 1 + 1), 1, none⟩ (.int .i64 0)).setCell ⟨(w.heap.size + 1 + 1), 2, none⟩ (.int .i64 0)).setCell ⟨(w.heap.size + 1 + 1), 3, none⟩ (.int .i64 0)).setCell ⟨(w.heap.size + 1 + 1), 4, none⟩ (.int .i64 0)).setCell ⟨(w.heap.size + 1 + 1), 5, none⟩ (.int .i64 0)) (w.heap.size + 1 + 1 + 1) 0 (.int .i64 0) 1 (.int .i64 0) 2 (.int .i64 0) 3 (.int .i64 0) 4 (.bool false) 5 (.int .i64 0)
              replace KS := oB hs KS (by omega)
              replace KI := oB hs KI (by omega)
              replace KA := oB hs KA (by omega)
              replace KE := Lib.hid (blk_set (blk_set (blk_set (blk_set (blk_set (blk_set KE.out (j := 0) (by simp) (.int .i64 0)) (j := 1) (by simp) (.int .i64 0)) (j := 2) (by simp) (.int .i64 0)) (j := 3) (by simp) (.int .i64 0)) (j := 4) (by simp) (.bool false)) (j := 5) (by simp) (.int .i64 0))
              replace KC := oB hs KC (by omega)
              replace HB := oH hs HB (by omega)
              clear hs
              generalize (((((((((((((((w2.setCell ⟨(w.heap.size + 1 + 1 + 1 + 1), 0, none⟩ (.int .i64 0)).setCell ⟨(w.heap.size + 1 + 1 + 1 + 1), 1, none⟩ (.int .i64 0)).setCell ⟨(w.heap.size + 1 + 1 + 1 + 1), 2, none⟩ (.int .i64 0)).setCell ⟨(w.heap.size + 1 + 1 + 1 + 1), 3, none⟩ (.int .i64 0)).setCell ⟨(w.heap.size + 1 + 1), 0, none⟩ (.int .i64 0)).setCell ⟨(w.heap.size + 1 + 1), 1, none⟩ (.int .i64 0)).setCell ⟨(w.heap.size + 1 + 1), 2, none⟩ (.int .i64 0)).setCell ⟨(w.heap.size + 1 + 1), 3, none⟩ (.int .i64 0)).setCell ⟨(w.heap.size + 1 + 1), 4, none⟩ (.int .i64 0)).setCell ⟨(w.heap.size + 1 + 1), 5, none⟩ (.int .i64 0)).setCell ⟨(w.heap.size + 1 + 1 + 1), 0, none⟩ (.int .i64 0)).setCell ⟨(w.heap.size + 1 + 1 + 1), 1, none⟩ (.int .i64 0)).setCell ⟨(w.heap.size + 1 + 1 + 1), 2, none⟩ (.int .i64 0)).setCell ⟨(w.heap.size + 1 + 1 + 1), 3, none⟩ (.int .i64 0)).setCell ⟨(w.heap.size + 1 + 1 + 1), 4, none⟩ (.bool false)).setCell ⟨(w.heap.size + 1 + 1 + 1), 5, none⟩ (.int .i64 0) = w5 at *
              simp only [List.set] at KE
              obtain ⟨yA_0, yA_1, yA_2, yA_3, yA_4, yA_5, yA_z⟩ := blk6 KA
              obtain ⟨yE_0, yE_1, yE_2, yE_3, yE_4, yE_5, yE_z⟩ := blk6 KE
              refine bodyPost_ret (v := .tuple #[.agg #[.int .i64 0, .int .i64 0, .int .i64 0, .int .i64 0, .int .i64 0, .int .i64 0], .agg #[.int .i64 0, .int .i64 0, .int .i64 0, .int .i64 0, .bool false, .int .i64 0], .int .i64 e]) (by simp [results, Tryz.results15, go_sem, yA_0, yA_1, yA_2, yA_3, yA_4, yA_5, yE_0, yE_1, yE_2, yE_3, yE_4, yE_5]) rfl ⟨by rw [EV.out], HB.out⟩
  · rw [if_pos hc] at EV0
    have EV := Lib.hid EV0
    have ge : (chkS b t m != 0) = true := by simpa using hc
    have ge' : (chkS b t m == 0) = false := by simpa using hc
    have CK := Lib.hid CK0
    clear EV0 CK0 hc CO0 CB he CS
    generalize chkS b t m = e at *
    obtain ⟨cx, cy, x, y⟩ := b
    simp only at CK
    obtain ⟨KS, KI, KA, KE, KC, HB⟩ := ent5 w #[.int .i64 cx, .int .i64 cy, .int .i64 x, .int .i64 y, .int .i64 t, .int .i64 m] 41 #[.int .i64 tick, .slice p n cap, .int .i64 ve, .int .i64 vn, .int .i64 dr, .int .i64 rq] 45 #[.int .i64 0, .int .i64 0, .int .i64 0, .int .i64 0, .int .i64 0, .int .i64 0] 41 #[.int .i64 0, .int .i64 0, .int .i64 0, .int .i64 0, .bool false, .int .i64 0] 48 #[.int .i64 0, .int .i64 0, .int .i64 0, .int .i64 0] 26
    go_enter Tryz.func15, Tryz.ntmps15
    go_wp2_with fail
    generalize ((((w.alloc (.cells #[.int .i64 cx, .int .i64 cy, .int .i64 x, .int .i64 y, .int .i64 t, .int .i64 m] 41)).alloc (.cells #[.int .i64 tick, .slice p n cap, .int .i64 ve, .int .i64 vn, .int .i64 dr, .int .i64 rq] 45)).alloc (.cells #[.int .i64 0, .int .i64 0, .int .i64 0, .int .i64 0, .int .i64 0, .int .i64 0] 41)).alloc (.cells #[.int .i64 0, .int .i64 0, .int .i64 0, .int .i64 0, .bool false, .int .i64 0] 48)).alloc (.cells #[.int .i64 0, .int .i64 0, .int .i64 0, .int .i64 0] 26) = w0 at *
    refine (CK.out _).mono ?_
    rintro e1 w1 ⟨rfl, hb1⟩
    replace HB := hT HB hb1
    replace KS := hK KS hb1
    replace KI := hK KI hb1
    replace KA := hK KA hb1
    replace KE := hK KE hb1
    replace KC := hK KC hb1
    clear hb1
    obtain ⟨yA_0, yA_1, yA_2, yA_3, yA_4, yA_5, yA_z, yA_f0, yA_f1, yA_f2, yA_f3, yA_f4, yA_f5⟩ := blf6 KA
    obtain ⟨yE_0, yE_1, yE_2, yE_3, yE_4, yE_5, yE_z, yE_f0, yE_f1, yE_f2, yE_f3, yE_f4, yE_f5⟩ := blf6 KE
    go_wp2
    have hs := st6 w1 (w.heap.size + 1 + 1) 0 (.int .i64 0) 1 (.int .i64 0) 2 (.int .i64 0) 3 (.int .i64 0) 4 (.int .i64 0) 5 (.int .i64 0)
    replace KS := oB hs KS (by omega)
    replace KI := oB hs KI (by omega)
    replace KA := Lib.hid (blk_set (blk_set (blk_set (blk_set (blk_set (blk_set KA.out (j := 0) (by simp) (.int .i64 0)) (j := 1) (by simp) (.int .i64 0)) (j := 2) (by simp) (.int .i64 0)) (j := 3) (by simp) (.int .i64 0)) (j := 4) (by simp) (.int .i64 0)) (j := 5) (by simp) (.int .i64 0))
    replace KE := oB hs KE (by omega)
    replace KC := oB hs KC (by omega)
    replace HB := oH hs HB (by omega)
    clear hs
    clear yA_0 yA_1 yA_2 yA_3 yA_4 yA_5 yA_z yA_f0 yA_f1 yA_f2 yA_f3 yA_f4 yA_f5 yE_0 yE_1 yE_2 yE_3 yE_4 yE_5 yE_z yE_f0 yE_f1 yE_f2 yE_f3 yE_f4 yE_f5
    simp only [List.set] at KA
    have hs := st6 ((((((w1.setCell ⟨(w.heap.size + 1 + 1), 0, none⟩ (.int .i64 0)).setCell ⟨(w.heap.size + 1 + 1), 1, none⟩ (.int .i64 0)).setCell ⟨(w.heap.size + 1 + 1), 2, none⟩ (.int .i64 0)).setCell ⟨(w.heap.size + 1 + 1), 3, none⟩ (.int .i64 0)).setCell ⟨(w.heap.size + 1 + 1), 4, none⟩ (.int .i64 0)).setCell ⟨(w.heap.size + 1 + 1), 5, none⟩ (.int .i64 0)) (w.heap.size + 1 + 1 + 1) 0 (.int .i64 0) 1 (.int .i64 0) 2 (.int .i64 0) 3 (.int .i64 0) 4 (.bool false) 5 (.int .i64 0)
    replace KS := oB hs KS (by omega)
    replace KI := oB hs KI (by omega)
    replace KA := oB hs KA (by omega)
    replace KE := Lib.hid (blk_set (blk_set (blk_set (blk_set (blk_set (blk_set KE.out (j := 0) (by simp) (.int .i64 0)) (j := 1) (by simp) (.int .i64 0)) (j := 2) (by simp) (.int .i64 0)) (j := 3) (by simp) (.int .i64 0)) (j := 4) (by simp) (.bool false)) (j := 5) (by simp) (.int .i64 0))
    replace KC := oB hs KC (by omega)
    replace HB := oH hs HB (by omega)
    clear hs
    generalize (((((((((((w1.setCell ⟨(w.heap.size + 1 + 1), 0, none⟩ (.int .i64 0)).setCell ⟨(w.heap.size + 1 + 1), 1, none⟩ (.int .i64 0)).setCell ⟨(w.heap.size + 1 + 1), 2, none⟩ (.int .i64 0)).setCell ⟨(w.heap.size + 1 + 1), 3, none⟩ (.int .i64 0)).setCell ⟨(w.heap.size + 1 + 1), 4, none⟩ (.int .i64 0)).setCell ⟨(w.heap.size + 1 + 1), 5, none⟩ (.int .i64 0)).setCell ⟨(w.heap.size + 1 + 1 + 1), 0, none⟩ (.int .i64 0)).setCell ⟨(w.heap.size + 1 + 1 + 1), 1, none⟩ (.int .i64 0)).setCell ⟨(w.heap.size + 1 + 1 + 1), 2, none⟩ (.int .i64 0)).setCell ⟨(w.heap.size + 1 + 1 + 1), 3, none⟩ (.int .i64 0)).setCell ⟨(w.heap.size + 1 + 1 + 1), 4, none⟩ (.bool false)).setCell ⟨(w.heap.size + 1 + 1 + 1), 5, none⟩ (.int .i64 0) = w3 at *
    simp only [List.set] at KE
    obtain ⟨yA_0, yA_1, yA_2, yA_3, yA_4, yA_5, yA_z⟩ := blk6 KA
    obtain ⟨yE_0, yE_1, yE_2, yE_3, yE_4, yE_5, yE_z⟩ := blk6 KE
    refine bodyPost_ret (v := .tuple #[.agg #[.int .i64 0, .int .i64 0, .int .i64 0, .int .i64 0, .int .i64 0, .int .i64 0], .agg #[.int .i64 0, .int .i64 0, .int .i64 0, .int .i64 0, .bool false, .int .i64 0], .int .i64 e]) (by simp [results, Tryz.results15, go_sem, yA_0, yA_1, yA_2, yA_3, yA_4, yA_5, yE_0, yE_1, yE_2, yE_3, yE_4, yE_5]) rfl ⟨by rw [EV.out], HB.out⟩
end Go.Proofs.YtidelghgjibndaaGreat
