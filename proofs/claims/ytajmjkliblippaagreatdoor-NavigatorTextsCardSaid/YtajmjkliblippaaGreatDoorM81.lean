/-
  Walks and laws of the layers below, gathered from several texts.
-/
import Derived.Test.YtajmjkliblippaaGreatDoorM64
import Derived.Test.YtajmjkliblippaaGreatDoorN6SnSmallPlain
import Derived.Test.YtajmjkliblippaaGreatDoorN6SnSensorFour
import Derived.Maps.AppendAt
import Derived.OwnWalk
import Derived.OneCell
import Derived.Deep.RegionHeld
import Derived.Lib.SmallJoins
import Derived.Deep.Onto
import Derived.Laws.OwnMore
namespace Go.Proofs.YtajmjkliblippaaGreatDoor
set_option linter.unusedVariables false
open Go.RowKit
def exW (l : List Ms) (k : Int) : Ex := ⟨solX (woL l k), solY (woL l k), noiX (woL l k), noiY (woL l k), detN (woL l k)⟩
def rowsL (l : List Ms) (ks : List Int) : List Ex := ks.map (exW l)
theorem rows_len (l : List Ms) (ks : List Int) : (rowsL l ks).length = ks.length := List.length_map ..
theorem take_int {ks : List Int} {k : Nat} (h : k < ks.length) : ks.take (k + 1) = ks.take k ++ [ks.getD k 0] := by
  rw [List.take_add_one, List.getD_eq_getElem?_getD, List.getElem?_eq_getElem h]
  rfl
theorem rows_succ (l : List Ms) {ks : List Int} {k : Nat} (h : k < ks.length) : rowsL l (ks.take (k + 1)) = rowsL l (ks.take k) ++ [exW l (ks.getD k 0)] := by
  unfold rowsL
  rw [take_int h, List.map_append]
  rfl
theorem rows_nth (l : List Ms) {ks : List Int} {k : Nat} (h : k < ks.length) : nthE (rowsL l ks) k = exW l (ks.getD k 0) := by
  rw [nthE_eq (by rw [rows_len]; exact h)]
  unfold rowsL
  rw [List.getElem_map, List.getD_eq_getElem?_getD, List.getElem?_eq_getElem h]
  rfl
/-- the parts that Level has gathered -/
def LvR1 (l : List Ms) (K : List Int) (W : World) (u s : Value) (wr : World) : Prop := ∃ k : Nat, s = .int .i64 k ∧ k ≤ K.length ∧ Hid (Below W.heap.size W wr) ∧ Hid (OE W.heap.size wr u (rowsL l (K.take k))) ∧ Hid (∀ i, i < k → detN (woL l (K.getD i 0)) ≠ 0)
def mxF (l : List Ms) (cx cy : Int) (k : Int) : Int := (reachF cx cy (woL l k)).1.1
def myF (l : List Ms) (cx cy : Int) (k : Int) : Int := (reachF cx cy (woL l k)).1.2
def LvR2 (l : List Ms) (K : List Int) (cx cy : Int) (bb : Nat) (W : World) (s : Value) (wr : World) : Prop := ∃ k : Nat, s = .int .i64 k ∧ k ≤ K.length ∧ Hid (Below bb W wr) ∧ Hid (Blk [.int .i64 cx, .int .i64 cy, .int .i64 (maxF (mxF l cx cy) (K.take k)), .int .i64 (maxF (myF l cx cy) (K.take k))] bb wr) ∧ Hid (∀ i, i < k → (reachF cx cy (woL l (K.getD i 0))).2 = 0)
theorem chk_wo {l : List Ms} (h : chkL l = 0) (k : Int) : chkL (woL l k) = 0 := by
  have o := (okL_of h).wo k
  exact chkL_of o.len o.ok
theorem getD_mem {K : List Int} {i : Nat} (h : i < K.length) : K.getD i 0 ∈ K := by
  rw [List.getD_eq_getElem?_getD, List.getElem?_eq_getElem h]
  exact List.getElem_mem h
theorem mem_getD {K : List Int} {x : Int} (h : x ∈ K) : ∃ i, i < K.length ∧ K.getD i 0 = x := by
  obtain ⟨i, hi, e⟩ := List.getElem_of_mem h
  exact ⟨i, hi, by rw [List.getD_eq_getElem?_getD, List.getElem?_eq_getElem hi]; exact e⟩
theorem blk_keep {vs : List Value} {b B : Nat} {W w' : World} (h : Blk vs b W) (hb : Below B W w') (hB : b < B) : Blk vs b w' :=
  ⟨Nat.lt_of_lt_of_le h.lt hb.size, fun i v e => (hb.cell (p := ⟨b, i, none⟩) hB).trans (h.c i v e), fun i v e => (hb.frozen (p := ⟨b, i, none⟩) hB).trans (h.f i v e)⟩
theorem ex_keep {l : List Ex} {g B : Nat} {w w' : World} (h : ExAt l g w) (hb : Below B w w') (hB : g < B) : ExAt l g w' :=
  ⟨Nat.lt_of_lt_of_le h.lt hb.size, fun i hi => (hb.cell (p := ⟨g, i * 9, none⟩) hB).trans (h.c0 i hi), fun i hi => (hb.cell (p := ⟨g, i * 9 + 1, none⟩) hB).trans (h.c1 i hi), fun i hi => (hb.cell (p := ⟨g, i * 9 + 2, none⟩) hB).trans (h.c2 i hi), fun i hi => (hb.cell (p := ⟨g, i * 9 + 3, none⟩) hB).trans (h.c3 i hi), fun i hi => (hb.cell (p := ⟨g, i * 9 + 4, none⟩) hB).trans (h.c4 i hi), fun i hi => (hb.cell (p := ⟨g, i * 9 + 5, none⟩) hB).trans (h.c5 i hi), fun i hi => (hb.cell (p := ⟨g, i * 9 + 6, none⟩) hB).trans (h.c6 i hi), fun i hi => (hb.cell (p := ⟨g, i * 9 + 7, none⟩) hB).trans (h.c7 i hi), fun i hi => (hb.cell (p := ⟨g, i * 9 + 8, none⟩) hB).trans (h.c8 i hi)⟩
theorem lev_rank {l : List Ms} (hs : solE l = 0) {k : Int} (h : k ∈ srcL l) (hd : detN (woL l k) = 0) : levF l = (box0, 14) := by
  unfold levF
  rw [if_pos hs, if_pos]
  exact List.any_eq_true.2 ⟨k, h, by unfold rankB; exact decide_eq_true hd⟩
theorem lev_wide {l : List Ms} (hs : solE l = 0) (hr : ∀ i, i < (srcL l).length → detN (woL l ((srcL l).getD i 0)) ≠ 0) {k : Int} (h : k ∈ srcL l) (hw : (reachF (cenX l) (cenY l) (woL l k)).2 ≠ 0) : levF l = (box0, 2) := by
  unfold levF
  rw [if_pos hs, if_neg, if_pos]
  · exact List.any_eq_true.2 ⟨k, h, by unfold wideB; exact decide_eq_true hw⟩
  · intro q
    obtain ⟨z, hz, e⟩ := List.any_eq_true.1 q
    obtain ⟨i, hi, rfl⟩ := mem_getD hz
    exact hr i hi (of_decide_eq_true e)
theorem lev_good {l : List Ms} (hs : solE l = 0) (hr : ∀ i, i < (srcL l).length → detN (woL l ((srcL l).getD i 0)) ≠ 0) (hw : ∀ i, i < (srcL l).length → (reachF (cenX l) (cenY l) (woL l ((srcL l).getD i 0))).2 = 0) :
    levF l = (⟨cenX l, cenY l, maxF (mxF l (cenX l) (cenY l)) (srcL l), maxF (myF l (cenX l) (cenY l)) (srcL l)⟩, 0) := by
  refine lev_val ⟨hs, fun k hk => ?_, fun k hk => ?_⟩
  · obtain ⟨i, hi, rfl⟩ := mem_getD hk
    exact hr i hi
  · obtain ⟨i, hi, rfl⟩ := mem_getD hk
    exact hw i hi
set_option maxHeartbeats 40000000 in
set_option maxRecDepth 100000 in
theorem lev_any (l : List Ms) (v : Value) (w : World) (h : LstAt l v w) :
    Calls Tryz.prog 61 #[v] w fun e w' => e = .returned (.tuple #[boxV (levF l).1, .int .i64 (levF l).2]) ∧ Below w.heap.size w w' := by
  obtain ⟨p, cap, rfl⟩ := lst_form h
  by_cases hs : solE l = 0
  · obtain ⟨hc, hd, hx, hy⟩ := sol_chk hs
    have SO := Lib.hid fun w h => sol_ok l (.slice p l.length cap) w h hs
    have L18 := Lib.hid (show l.length ≤ 18 by have := (okL_of hc).len; omega)
    have SR := Lib.hid fun w h => src_any l (.slice p l.length cap) w h L18.out
    have HC := Lib.hid hc
    have EV1 := Lib.hid fun k (h : k ∈ srcL l) hd => lev_rank hs h hd
    have EV2 := Lib.hid fun hr k (h : k ∈ srcL l) hw => lev_wide hs hr h hw
    have EV3 := Lib.hid fun hr hw => lev_good hs hr hw
    have RE := Lib.hid fun k (hd : detN (woL l k) ≠ 0) w => reachL_any ((okL_of hc).wo k) (det_pos (chk_wo hc k) hd) hx hy w
    have KM := Lib.hid fun k (h : k < (srcL l).length) => getD_mem h
    have KL := Lib.hid (show (srcL l).length ≤ 18 from Nat.le_trans (src_len l) L18.out)
    clear hs hc hd hx hy
    generalize solX l = X at *
    generalize solY l = Y at *
    generalize detN l = T at *
    generalize cenX l = cx at *
    generalize cenY l = cy at *
    obtain ⟨K, hK⟩ : ∃ x, srcL l = x := ⟨_, rfl⟩
    rw [hK] at SR KM EV1 EV2 EV3 KL
    clear hK
    have H0 := Lib.hid h
    obtain ⟨KZ, HB⟩ := ent1 w #[.int .i64 0, .int .i64 0, .int .i64 0, .int .i64 0] 25
    go_enter Tryz.func61, Tryz.ntmps61
    clear h
    go_wp2_with fail
    generalize w.alloc (.cells #[.int .i64 0, .int .i64 0, .int .i64 0, .int .i64 0] 25) = w0 at *
    refine (SO.out _ (H0.out.below HB.out)).mono ?_
    rintro e1 w1 ⟨rfl, hb1⟩
    replace HB := hT HB hb1
    replace KZ := hK KZ hb1
    clear hb1
    go_wp2_with fail
    obtain ⟨KS, hb2⟩ := alB w1 #[.int .i64 (hiW X), .int .u64 (loW X), .int .i64 (hiW Y), .int .u64 (loW Y), .int .i64 T, .int .i64 cx, .int .i64 cy] 114
    have hnS := HB.out.size
    have nzS_Z := KZ.out.lt
    replace HB := hT HB hb2
    replace KZ := hK KZ hb2
    clear hb2
    generalize w1.alloc (.cells #[.int .i64 (hiW X), .int .u64 (loW X), .int .i64 (hiW Y), .int .u64 (loW Y), .int .i64 T, .int .i64 cx, .int .i64 cy] 114) = w2 at *
    generalize w1.heap.size = bS at *
    have neS_Z : bS ≠ w.heap.size := by omega
    clear nzS_Z
    refine (SR.out _ (H0.out.below HB.out)).mono ?_
    rintro e9 w9 ⟨⟨us, rfl, hoi⟩, hb9⟩
    replace HB := hT HB hb9
    replace KZ := hK KZ hb9
    replace KS := hK KS hb9
    clear hb9
    obtain ⟨ps, caps, rfl, IK⟩ : ∃ ps caps, us = .slice ps K.length caps ∧ Hid (∀ k, k < K.length → ∃ g, ps = some ⟨g, 0, none⟩ ∧ K.length ≤ caps ∧ caps ≤ 9223372036854775807 ∧ IntsAt K g w9) := by
      rcases oi_cases hoi with ⟨rfl, e⟩ | ⟨g, cap', rfl, q1, q2, _, q4⟩
      · exact ⟨none, 0, by rw [e]; rfl, Lib.hid fun k hk => absurd hk (by rw [e]; simp)⟩
      · exact ⟨_, cap', rfl, Lib.hid fun k hk => ⟨g, rfl, q1, q2, q4⟩⟩
    clear hoi
    have HL9 := Lib.hid (H0.out.below HB.out)
    have hnS9 := HB.out.size
    go_wp2
    go_loopw [6, 28] (LvR1 l K w9) (fun _ i _ => K.length - (intOf i).toNat)
    case atStart => exact ⟨0, rfl, Nat.zero_le _, Lib.hid (Below.refl _ _), Lib.hid (World.ownsRow_nil _ _ _ _), Lib.hid fun i hi => absurd hi (by omega)⟩
    case round =>
      obtain ⟨k, rfl, hk, HBR, HO, HR⟩ := hrel
      by_cases q : k < K.length
      · replace KZ := Lib.hid (KZ.out.below HBR.out)
        replace KS := Lib.hid (KS.out.below HBR.out)
        replace HB := Lib.hid (HB.out.trans (HBR.out.mono HB.out.size))
        have q' : decide (k < K.length) = true := by simpa using q
        obtain ⟨gk, rfl, hk1, hk2, IA⟩ := IK.out k q
        have ck := (IA.below HBR.out).c k q
        have ckz := (IA.below HBR.out).lt
        clear IA
        have RS := Lib.hid (rows_succ l q)
        have MK := Lib.hid (KM.out k q)
        have RL := Lib.hid (show (rowsL l (K.take k)).length ≤ 100000 by rw [rows_len, List.length_take]; have := KL.out; omega)
        have WO := Lib.hid fun w h => wo_any l (K.getD k 0) (.slice p l.length cap) w h L18.out
        have SV := Lib.hid fun v w h => solve_any (woL l (K.getD k 0)) v w h (chk_wo HC.out _)
        have ER := Lib.hid fun hd => EV1.out _ (KM.out k q) hd
        have EX := Lib.hid (show exW l (K.getD k 0) = ⟨solX (woL l (K.getD k 0)), solY (woL l (K.getD k 0)), noiX (woL l (K.getD k 0)), noiY (woL l (K.getD k 0)), detN (woL l (K.getD k 0))⟩ from rfl)
        have HRD := Lib.hid fun (h : detN (woL l (K.getD k 0)) ≠ 0) i (hi : i < k + 1) => show detN (woL l (K.getD i 0)) ≠ 0 from by rcases Nat.lt_or_ge i k with a | a; exact HR.out i a; rw [show i = k by omega]; exact h
        have OL := Lib.hid (World.ownsRow.lt HO.out)
        have HO2 := Lib.hid (show OE w9.heap.size wr u6 (rowsL l (K.take k)) from HO.out)
        generalize exW l (K.getD k 0) = ex at *
        generalize hkk : K.getD k 0 = kk at *
        clear hkk
        have WE := Lib.hid (rfl : woL l kk = woL l kk)
        generalize woL l kk = lw at *
        clear WE
        go_wp2_with fail
        refine (WO.out _ (HL9.out.below HBR.out)).mono ?_
        rintro e21 w21 ⟨⟨uw, rfl, how⟩, hb21⟩
        have HW := Lib.hid (OM.lst how)
        have HBW := Lib.hid (HBR.out.trans (hb21.mono HBR.out.size))
        have HO3 := Lib.hid (HO2.out.below hb21)
        replace HB := hT HB hb21
        replace KZ := hK KZ hb21
        replace KS := hK KS hb21
        clear hb21
        clear how ck ckz
        go_wp2_with fail
        refine (SV.out _ _ HW.out).mono ?_
        rintro e22 w22 ⟨rfl, hb22⟩
        replace HBW := Lib.hid (HBW.out.trans (hb22.mono HBW.out.size))
        replace HO3 := Lib.hid (HO3.out.below hb22)
        replace HB := hT HB hb22
        replace KZ := hK KZ hb22
        replace KS := hK KS hb22
        clear hb22
        obtain ⟨x, y, u, v, t⟩ := ex
        have EX1 := EX.out
        injection EX1 with ex1 ex2 ex3 ex4 ex5
        rw [← ex5] at ER HRD
        rw [← ex1, ← ex2, ← ex3, ← ex4, ← ex5]
        clear ex1 ex2 ex3 ex4 ex5
        clear EX
        by_cases hd : t = 0
        · have g : (t == 0) = true := by simpa using hd
          have HV := Lib.hid (ER.out hd)
          clear hd
          obtain ⟨yZ_0, yZ_1, yZ_2, yZ_3, yZ_z, yZ_f0, yZ_f1, yZ_f2, yZ_f3⟩ := blf4 KZ
          go_wp2
          have hs := st4 w22 w.heap.size 0 (.int .i64 0) 1 (.int .i64 0) 2 (.int .i64 0) 3 (.int .i64 0)
          replace KZ := Lib.hid (blk_set (blk_set (blk_set (blk_set KZ.out (j := 0) (by simp) (.int .i64 0)) (j := 1) (by simp) (.int .i64 0)) (j := 2) (by simp) (.int .i64 0)) (j := 3) (by simp) (.int .i64 0))
          replace KS := oB hs KS (by omega)
          replace HB := oH hs HB (by omega)
          clear hs
          clear yZ_0 yZ_1 yZ_2 yZ_3 yZ_z yZ_f0 yZ_f1 yZ_f2 yZ_f3
          generalize (((w22.setCell ⟨w.heap.size, 0, none⟩ (.int .i64 0)).setCell ⟨w.heap.size, 1, none⟩ (.int .i64 0)).setCell ⟨w.heap.size, 2, none⟩ (.int .i64 0)).setCell ⟨w.heap.size, 3, none⟩ (.int .i64 0) = w23 at *
          simp only [List.set] at KZ
          obtain ⟨KE, hb24⟩ := alB w23 #[.int .i64 (hiW x), .int .u64 (loW x), .int .i64 (hiW y), .int .u64 (loW y), .int .i64 (hiW u), .int .u64 (loW u), .int .i64 (hiW v), .int .u64 (loW v), .int .i64 t] 119
          have hnE := HB.out.size
          have nzE_Z := KZ.out.lt
          have nzE_S := KS.out.lt
          replace HB := hT HB hb24
          replace KZ := hK KZ hb24
          replace KS := hK KS hb24
          clear hb24
          generalize w23.alloc (.cells #[.int .i64 (hiW x), .int .u64 (loW x), .int .i64 (hiW y), .int .u64 (loW y), .int .i64 (hiW u), .int .u64 (loW u), .int .i64 (hiW v), .int .u64 (loW v), .int .i64 t] 119) = w24 at *
          generalize w23.heap.size = bE at *
          have neE_Z : bE ≠ w.heap.size := by omega
          have neE_S : bE ≠ bS := by omega
          clear nzE_Z nzE_S
          obtain ⟨yZ_0, yZ_1, yZ_2, yZ_3, yZ_z⟩ := blk4 KZ
          refine bodyPost_ret (v := .tuple #[.agg #[.int .i64 0, .int .i64 0, .int .i64 0, .int .i64 0], .int .i64 14]) (by simp [results, Tryz.results61, go_sem, yZ_0, yZ_1, yZ_2, yZ_3]) rfl ⟨by rw [HV.out]; rfl, HB.out⟩
        · have g : (t == 0) = false := by simpa using hd
          have HRD2 := Lib.hid (HRD.out hd)
          clear hd
          have HA := Lib.hid ((Below.refl w22.heap.size w22).alloc (Nat.le_refl _) (.cells #[.int .i64 (hiW x), .int .u64 (loW x), .int .i64 (hiW y), .int .u64 (loW y), .int .i64 (hiW u), .int .u64 (loW u), .int .i64 (hiW v), .int .u64 (loW v), .int .i64 t] 119))
          have HS9 := Lib.hid (show w9.heap.size ≤ w22.heap.size from HBW.out.size)
          go_wp2_with (at_builtin; refine Halt.mk ?_)
          unfold Halt
          refine wpList_oe rfl (.tmp 40) (.tmp 42) rfl w9.heap.size u6 (rowsL l (K.take k)) rfl (w22.alloc (.cells #[.int .i64 (hiW x), .int .u64 (loW x), .int .i64 (hiW y), .int .u64 (loW y), .int .i64 (hiW u), .int .u64 (loW u), .int .i64 (hiW v), .int .u64 (loW v), .int .i64 t] 119)) (HO3.out.below HA.out) _ ⟨x, y, u, v, t⟩ 1 (by rw [World.size_alloc]; rfl) RL.out (by have := HS9.out; simp; omega) ?_
          intro u2 w5 ho5 hg5 hat5
          have HO5 : Hid (OE w9.heap.size w5 u2 (rowsL l (K.take (k + 1)))) := Lib.hid (by rw [RS.out]; exact ho5)
          have HB5 : Hid (Below w9.heap.size w9 w5) := Lib.hid (below_grown ((HBW.out.trans (HA.out.mono HS9.out)).alloc (by simp; have := HS9.out; omega) _) hg5 (by simp; have := HS9.out; omega) (fun k hk => (OL.out k hk).1))
          clear hg5 hat5
          obtain ⟨g5, cap5, hu2⟩ := Go.Joins.ownsRow_form ho5 (show 0 < (rowsL l (K.take k) ++ [(⟨x, y, u, v, t⟩ : Ex)]).length by rw [List.length_append, List.length_singleton]; omega)
          obtain ⟨N5, hN5⟩ : ∃ N, (rowsL l (K.take k) ++ [(⟨x, y, u, v, t⟩ : Ex)]).length = N := ⟨_, rfl⟩
          rw [hN5] at hu2
          clear ho5 hN5
          subst hu2
          go_wp2
          exact ⟨⟨k + 1, by go_num, by omega, HB5, HO5, HRD2⟩, by simp [intOf]; omega⟩
      · obtain rfl : k = K.length := by omega
        rw [List.take_length] at HO
        replace KZ := Lib.hid (KZ.out.below HBR.out)
        replace KS := Lib.hid (KS.out.below HBR.out)
        replace HB := Lib.hid (HB.out.trans (HBR.out.mono HB.out.size))
        obtain ⟨pe, cape, hpe⟩ := oe_form HO.out
        subst hpe
        rw [rows_len] at HO
        have EA := Lib.hid fun k (q : k < K.length) => oe_at (p := pe) (cap := cape) (l := rowsL l K) (by rw [rows_len]; exact HO.out) (k := k) (by rw [rows_len]; exact q)
        simp only [rows_len] at *
        clear HO hk q HL9 IK
        have EA2 : Hid (∀ k, k < K.length → ∃ g, pe = some ⟨g, 0, none⟩ ∧ K.length ≤ cape ∧ cape ≤ 9223372036854775807 ∧ g < wr.heap.size ∧ ExAt (rowsL l K) g (wr.alloc (.cells #[.int .i64 cx, .int .i64 cy, .int .i64 0, .int .i64 0] 25))) := Lib.hid fun k q => by
          obtain ⟨g, a1, a2, a3, a4⟩ := EA.out k q
          exact ⟨g, a1, a2, a3, a4.lt, a4.below ((Below.refl _ _).alloc (Nat.le_refl _) _)⟩
        clear EA HBR
        obtain ⟨yS_0, yS_1, yS_2, yS_3, yS_4, yS_5, yS_6, yS_z⟩ := blk7 KS
        go_wp2
        obtain ⟨KB, hb31⟩ := alB wr #[.int .i64 cx, .int .i64 cy, .int .i64 0, .int .i64 0] 25
        have hnB := HB.out.size
        have nzB_Z := KZ.out.lt
        have nzB_S := KS.out.lt
        replace HB := hT HB hb31
        replace KZ := hK KZ hb31
        replace KS := hK KS hb31
        clear yS_0 yS_1 yS_2 yS_3 yS_4 yS_5 yS_6 yS_z
        clear hb31
        generalize wr.alloc (.cells #[.int .i64 cx, .int .i64 cy, .int .i64 0, .int .i64 0] 25) = w31 at *
        generalize wr.heap.size = bB at *
        have neB_Z : bB ≠ w.heap.size := by omega
        have neB_S : bB ≠ bS := by omega
        have HZ0 := KZ
        have HS0 := KS
        have HB00 := HB
        have h31 := Nat.le_of_lt KB.out.lt
        go_loopw [50] (LvR2 l K cx cy bB w31) (fun i _ => K.length - (intOf i).toNat)
        case atStart => exact ⟨0, rfl, Nat.zero_le _, Lib.hid (Below.refl _ _), KB, Lib.hid fun i hi => absurd hi (by omega)⟩
        case round =>
          clear KB KZ KS HB
          obtain ⟨k, rfl, hk, HBR, KB, HW⟩ := hrel
          have KZ := Lib.hid (blk_keep HZ0.out HBR.out nzB_Z)
          have KS := Lib.hid (blk_keep HS0.out HBR.out nzB_S)
          have HB := Lib.hid (HB00.out.trans (HBR.out.mono hnB))
          by_cases q : k < K.length
          · have q' : decide (k < K.length) = true := by simpa using q
            obtain ⟨gk, rfl, hk1, hk2, glt, EAT⟩ := EA2.out k q
            have EAW := ex_keep EAT HBR.out glt
            have c0 := EAW.c0 k (by rw [rows_len]; exact q)
            rw [rows_nth l q] at c0
            have c1 := EAW.c1 k (by rw [rows_len]; exact q)
            rw [rows_nth l q] at c1
            have c2 := EAW.c2 k (by rw [rows_len]; exact q)
            rw [rows_nth l q] at c2
            have c3 := EAW.c3 k (by rw [rows_len]; exact q)
            rw [rows_nth l q] at c3
            have c4 := EAW.c4 k (by rw [rows_len]; exact q)
            rw [rows_nth l q] at c4
            have c5 := EAW.c5 k (by rw [rows_len]; exact q)
            rw [rows_nth l q] at c5
            have c6 := EAW.c6 k (by rw [rows_len]; exact q)
            rw [rows_nth l q] at c6
            have c7 := EAW.c7 k (by rw [rows_len]; exact q)
            rw [rows_nth l q] at c7
            have c8 := EAW.c8 k (by rw [rows_len]; exact q)
            rw [rows_nth l q] at c8
            have clt := EAW.lt
            clear EAT EAW
            have MX := Lib.hid (show maxF (mxF l cx cy) (K.take (k + 1)) = max (maxF (mxF l cx cy) (K.take k)) (reachF cx cy (woL l (K.getD k 0))).1.1 by rw [take_int q, max_snoc]; rfl)
            have MY := Lib.hid (show maxF (myF l cx cy) (K.take (k + 1)) = max (maxF (myF l cx cy) (K.take k)) (reachF cx cy (woL l (K.getD k 0))).1.2 by rw [take_int q, max_snoc]; rfl)
            have RE2 := Lib.hid fun w => RE.out (K.getD k 0) (HR.out k q) w
            have ER := Lib.hid fun hw => EV2.out HR.out (K.getD k 0) (KM.out k q) hw
            have RB := reach_bad cx cy (woL l (K.getD k 0))
            have HWN := Lib.hid fun (h : (reachF cx cy (woL l (K.getD k 0))).2 = 0) i (hi : i < k + 1) => show (reachF cx cy (woL l (K.getD i 0))).2 = 0 from by rcases Nat.lt_or_ge i k with a | a; exact HW.out i a; rw [show i = k by omega]; exact h
            generalize maxF (mxF l cx cy) (K.take k) = m1 at *
            generalize maxF (myF l cx cy) (K.take k) = m2 at *
            have EX : exW l (K.getD k 0) = ⟨solX (woL l (K.getD k 0)), solY (woL l (K.getD k 0)), noiX (woL l (K.getD k 0)), noiY (woL l (K.getD k 0)), detN (woL l (K.getD k 0))⟩ := rfl
            generalize exW l (K.getD k 0) = ex at *
            generalize woL l (K.getD k 0) = lw at *
            obtain ⟨x, y, u, v, t⟩ := ex
            injection EX with ex1 ex2 ex3 ex4 ex5
            rw [← ex1, ← ex2, ← ex3, ← ex4, ← ex5] at RE2
            simp only at c0 c1 c2 c3 c4 c5 c6 c7 c8
            clear ex1 ex2 ex3 ex4 ex5
            obtain ⟨R, hR⟩ : ∃ z, reachF cx cy lw = z := ⟨_, rfl⟩
            rw [hR] at RE2 ER RB HWN MX MY
            clear hR
            obtain ⟨yS_0, yS_1, yS_2, yS_3, yS_4, yS_5, yS_6, yS_z⟩ := blk7 KS
            go_wp2_with fail
            obtain ⟨KC, hb51⟩ := alB wr #[.int .i64 (hiW x), .int .u64 (loW x), .int .i64 (hiW y), .int .u64 (loW y), .int .i64 (hiW u), .int .u64 (loW u), .int .i64 (hiW v), .int .u64 (loW v), .int .i64 t] 119
            have hnC := HB.out.size
            have nzC_Z := KZ.out.lt
            have nzC_S := KS.out.lt
            have nzC_B := KB.out.lt
            replace HB := hT HB hb51
            replace KZ := hK KZ hb51
            replace KS := hK KS hb51
            replace KB := hK KB hb51
            replace HBR := Lib.hid (HBR.out.trans (hb51.mono (Nat.le_trans h31 HBR.out.size)))
            clear yS_0 yS_1 yS_2 yS_3 yS_4 yS_5 yS_6 yS_z
            clear hb51
            generalize wr.alloc (.cells #[.int .i64 (hiW x), .int .u64 (loW x), .int .i64 (hiW y), .int .u64 (loW y), .int .i64 (hiW u), .int .u64 (loW u), .int .i64 (hiW v), .int .u64 (loW v), .int .i64 t] 119) = w51 at *
            generalize wr.heap.size = bC at *
            have neC_Z : bC ≠ w.heap.size := by omega
            have neC_S : bC ≠ bS := by omega
            have neC_B : bC ≠ bB := by omega
            clear nzC_Z nzC_S nzC_B
            clear c0 c1 c2 c3 c4 c5 c6 c7 c8 clt
            refine (RE2.out _).mono ?_
            rintro e52 w52 ⟨rfl, hb52⟩
            replace HB := hT HB hb52
            replace KZ := hK KZ hb52
            replace KS := hK KS hb52
            replace KB := hK KB hb52
            replace KC := hK KC hb52
            replace HBR := Lib.hid (HBR.out.trans (hb52.mono (Nat.le_trans h31 HBR.out.size)))
            clear hb52
            clear RE2
            rcases RB with RB | rfl
            · obtain ⟨⟨rx, ry⟩, re⟩ := R
              simp only at RB
              subst RB
              have HWN2 := Lib.hid (HWN.out rfl)
              have MX2 := Lib.hid MX.out
              have MY2 := Lib.hid MY.out
              clear ER HWN MX MY
              obtain ⟨yB_0, yB_1, yB_2, yB_3, yB_z, yB_f0, yB_f1, yB_f2, yB_f3⟩ := blf4 KB
              go_wp2
              have hs := st2 w52 bB 2 (.int .i64 (max m1 rx)) 3 (.int .i64 (max m2 ry))
              replace KZ := oB hs KZ (by omega)
              replace KS := oB hs KS (by omega)
              replace KB := Lib.hid (blk_set (blk_set KB.out (j := 2) (by simp) (.int .i64 (max m1 rx))) (j := 3) (by simp) (.int .i64 (max m2 ry)))
              replace KC := oB hs KC (by omega)
              replace HB := oH hs HB (by omega)
              replace HBR := oH hs HBR (Nat.le_refl _)
              clear hs
              clear yB_0 yB_1 yB_2 yB_3 yB_z yB_f0 yB_f1 yB_f2 yB_f3
              generalize (w52.setCell ⟨bB, 2, none⟩ (.int .i64 (max m1 rx))).setCell ⟨bB, 3, none⟩ (.int .i64 (max m2 ry)) = w53 at *
              simp only [List.set] at KB
              exact ⟨⟨k + 1, by go_num, by omega, HBR, by rw [MX2.out, MY2.out]; exact KB, HWN2⟩, by simp [intOf]; omega⟩
            · have HV := Lib.hid (ER.out (by simp))
              clear ER HWN MX MY
              obtain ⟨yZ_0, yZ_1, yZ_2, yZ_3, yZ_z, yZ_f0, yZ_f1, yZ_f2, yZ_f3⟩ := blf4 KZ
              go_wp2
              have hs := st4 w52 w.heap.size 0 (.int .i64 0) 1 (.int .i64 0) 2 (.int .i64 0) 3 (.int .i64 0)
              replace KZ := Lib.hid (blk_set (blk_set (blk_set (blk_set KZ.out (j := 0) (by simp) (.int .i64 0)) (j := 1) (by simp) (.int .i64 0)) (j := 2) (by simp) (.int .i64 0)) (j := 3) (by simp) (.int .i64 0))
              replace KS := oB hs KS (by omega)
              replace KB := oB hs KB (by omega)
              replace KC := oB hs KC (by omega)
              replace HB := oH hs HB (by omega)
              clear hs
              clear yZ_0 yZ_1 yZ_2 yZ_3 yZ_z yZ_f0 yZ_f1 yZ_f2 yZ_f3
              generalize (((w52.setCell ⟨w.heap.size, 0, none⟩ (.int .i64 0)).setCell ⟨w.heap.size, 1, none⟩ (.int .i64 0)).setCell ⟨w.heap.size, 2, none⟩ (.int .i64 0)).setCell ⟨w.heap.size, 3, none⟩ (.int .i64 0) = w53 at *
              simp only [List.set] at KZ
              obtain ⟨yZ_0, yZ_1, yZ_2, yZ_3, yZ_z⟩ := blk4 KZ
              refine bodyPost_ret (v := .tuple #[.agg #[.int .i64 0, .int .i64 0, .int .i64 0, .int .i64 0], .int .i64 2]) (by simp [results, Tryz.results61, go_sem, yZ_0, yZ_1, yZ_2, yZ_3]) rfl ⟨by rw [HV.out]; rfl, HB.out⟩
          · obtain rfl : k = K.length := by omega
            rw [List.take_length] at KB
            have HV := Lib.hid (EV3.out HR.out HW.out)
            generalize maxF (mxF l cx cy) K = m1 at *
            generalize maxF (myF l cx cy) K = m2 at *
            obtain ⟨yZ_0, yZ_1, yZ_2, yZ_3, yZ_z, yZ_f0, yZ_f1, yZ_f2, yZ_f3⟩ := blf4 KZ
            obtain ⟨yB_0, yB_1, yB_2, yB_3, yB_z⟩ := blk4 KB
            go_wp2
            have hs := st4 wr w.heap.size 0 (.int .i64 cx) 1 (.int .i64 cy) 2 (.int .i64 m1) 3 (.int .i64 m2)
            replace KZ := Lib.hid (blk_set (blk_set (blk_set (blk_set KZ.out (j := 0) (by simp) (.int .i64 cx)) (j := 1) (by simp) (.int .i64 cy)) (j := 2) (by simp) (.int .i64 m1)) (j := 3) (by simp) (.int .i64 m2))
            replace KS := oB hs KS (by omega)
            replace KB := oB hs KB (by omega)
            replace HB := oH hs HB (by omega)
            clear hs
            clear yZ_0 yZ_1 yZ_2 yZ_3 yZ_z yZ_f0 yZ_f1 yZ_f2 yZ_f3 yB_0 yB_1 yB_2 yB_3 yB_z
            generalize (((wr.setCell ⟨w.heap.size, 0, none⟩ (.int .i64 cx)).setCell ⟨w.heap.size, 1, none⟩ (.int .i64 cy)).setCell ⟨w.heap.size, 2, none⟩ (.int .i64 m1)).setCell ⟨w.heap.size, 3, none⟩ (.int .i64 m2) = w51 at *
            simp only [List.set] at KZ
            obtain ⟨yZ_0, yZ_1, yZ_2, yZ_3, yZ_z⟩ := blk4 KZ
            refine bodyPost_ret (v := .tuple #[.agg #[.int .i64 cx, .int .i64 cy, .int .i64 m1, .int .i64 m2], .int .i64 0]) (by simp [results, Tryz.results61, go_sem, yZ_0, yZ_1, yZ_2, yZ_3]) rfl ⟨by rw [HV.out]; rfl, HB.out⟩
  · have SO := Lib.hid fun w h => sol_bad l (.slice p l.length cap) w h hs
    have HV : Hid (levF l = (box0, solE l)) := Lib.hid (by unfold levF; rw [if_neg hs])
    have g : (solE l != 0) = true := by simpa using hs
    have g' : (solE l == 0) = false := by simpa using hs
    clear hs
    generalize solE l = c at *
    have H0 := Lib.hid h
    obtain ⟨KZ, HB⟩ := ent1 w #[.int .i64 0, .int .i64 0, .int .i64 0, .int .i64 0] 25
    go_enter Tryz.func61, Tryz.ntmps61
    clear h
    go_wp2_with fail
    generalize w.alloc (.cells #[.int .i64 0, .int .i64 0, .int .i64 0, .int .i64 0] 25) = w0 at *
    refine (SO.out _ (H0.out.below HB.out)).mono ?_
    rintro e1 w1 ⟨rfl, hb1⟩
    replace HB := hT HB hb1
    replace KZ := hK KZ hb1
    clear hb1
    obtain ⟨yZ_0, yZ_1, yZ_2, yZ_3, yZ_z, yZ_f0, yZ_f1, yZ_f2, yZ_f3⟩ := blf4 KZ
    go_wp2
    have hs := st4 w1 w.heap.size 0 (.int .i64 0) 1 (.int .i64 0) 2 (.int .i64 0) 3 (.int .i64 0)
    replace KZ := Lib.hid (blk_set (blk_set (blk_set (blk_set KZ.out (j := 0) (by simp) (.int .i64 0)) (j := 1) (by simp) (.int .i64 0)) (j := 2) (by simp) (.int .i64 0)) (j := 3) (by simp) (.int .i64 0))
    replace HB := oH hs HB (by omega)
    clear hs
    clear yZ_0 yZ_1 yZ_2 yZ_3 yZ_z yZ_f0 yZ_f1 yZ_f2 yZ_f3
    generalize (((w1.setCell ⟨w.heap.size, 0, none⟩ (.int .i64 0)).setCell ⟨w.heap.size, 1, none⟩ (.int .i64 0)).setCell ⟨w.heap.size, 2, none⟩ (.int .i64 0)).setCell ⟨w.heap.size, 3, none⟩ (.int .i64 0) = w2 at *
    simp only [List.set] at KZ
    obtain ⟨KS, hb3⟩ := alB w2 #[.int .i64 0, .int .u64 0, .int .i64 0, .int .u64 0, .int .i64 0, .int .i64 0, .int .i64 0] 114
    have hnS := HB.out.size
    have nzS_Z := KZ.out.lt
    replace HB := hT HB hb3
    replace KZ := hK KZ hb3
    clear hb3
    generalize w2.alloc (.cells #[.int .i64 0, .int .u64 0, .int .i64 0, .int .u64 0, .int .i64 0, .int .i64 0, .int .i64 0] 114) = w3 at *
    generalize w2.heap.size = bS at *
    have neS_Z : bS ≠ w.heap.size := by omega
    clear nzS_Z
    obtain ⟨yZ_0, yZ_1, yZ_2, yZ_3, yZ_z⟩ := blk4 KZ
    refine bodyPost_ret (v := .tuple #[.agg #[.int .i64 0, .int .i64 0, .int .i64 0, .int .i64 0], .int .i64 c]) (by simp [results, Tryz.results61, go_sem, yZ_0, yZ_1, yZ_2, yZ_3]) rfl ⟨by rw [HV.out]; rfl, HB.out⟩
end Go.Proofs.YtajmjkliblippaaGreatDoor
namespace Go.Proofs.YtajmjkliblippaaGreatDoor
set_option linter.unusedVariables false
open Go.ChangeShapes Go.WideShapes Go.ChangeAt Go.RowKit Go.Joins

theorem cells_of_int : Tryz.prog.cellsOf 3 = 1 := by kernel_rfl
theorem cells_of_int64 : Tryz.prog.cellsOf 2 = 1 := by kernel_rfl
theorem cells_of_meas : Tryz.prog.cellsOf 71 = 6 := by kernel_rfl
theorem cells_of_point : Tryz.prog.cellsOf 23 = 2 := by kernel_rfl

section
variable {H : Type} {enc : TypeId × Value → H} {W : World} {base : Nat} {spare : Nat → Bool} {held : Bool} {b0 : Nat}

set_option maxRecDepth 100000 in
theorem trod_meas {n : Nat} {c0 c1 c2 c3 c4 c5 : Value} {y : DataW H × List MemPlace} (h : DataW.trod enc Tryz.prog W base spare held n 71 [c0, c1, c2, c3, c4, c5] = some y) :
    ∃ a0 a1 a2 a3 a4 a5 : Int, c0 = .int .i64 a0 ∧ c1 = .int .i64 a1 ∧ c2 = .int .i64 a2 ∧ c3 = .int .i64 a3 ∧ c4 = .int .i64 a4 ∧ c5 = .int .i64 a5 ∧ y = (.agg [.lit (.int .i64 a0), .lit (.int .i64 a1), .lit (.int .i64 a2), .lit (.int .i64 a3), .lit (.int .i64 a4), .lit (.int .i64 a5)], []) ∧ (Lit.int .i64 a0).wf = true ∧ (Lit.int .i64 a1).wf = true ∧ (Lit.int .i64 a2).wf = true ∧ (Lit.int .i64 a3).wf = true ∧ (Lit.int .i64 a4).wf = true ∧ (Lit.int .i64 a5).wf = true := by
  obtain ⟨xs, m, _, hx, _, hlen, hg⟩ := DataW.trod_struct Tryz.underlying71 h
  match xs, hlen with
  | [y0, y1, y2, y3, y4, y5], _ =>
    have h0 : DataW.trod enc Tryz.prog W base spare held m 3 (([c0, c1, c2, c3, c4, c5].drop 0).take (Tryz.prog.cellsOf 3)) = some y0 := hg 0 _ rfl
    rw [cells_of_int] at h0
    have g0 : DataW.trod enc Tryz.prog W base spare held m 3 [c0] = some y0 := h0
    have h1 : DataW.trod enc Tryz.prog W base spare held m 2 (([c0, c1, c2, c3, c4, c5].drop 1).take (Tryz.prog.cellsOf 2)) = some y1 := hg 1 _ rfl
    rw [cells_of_int64] at h1
    have g1 : DataW.trod enc Tryz.prog W base spare held m 2 [c1] = some y1 := h1
    have h2 : DataW.trod enc Tryz.prog W base spare held m 2 (([c0, c1, c2, c3, c4, c5].drop 2).take (Tryz.prog.cellsOf 2)) = some y2 := hg 2 _ rfl
    rw [cells_of_int64] at h2
    have g2 : DataW.trod enc Tryz.prog W base spare held m 2 [c2] = some y2 := h2
    have h3 : DataW.trod enc Tryz.prog W base spare held m 2 (([c0, c1, c2, c3, c4, c5].drop 3).take (Tryz.prog.cellsOf 2)) = some y3 := hg 3 _ rfl
    rw [cells_of_int64] at h3
    have g3 : DataW.trod enc Tryz.prog W base spare held m 2 [c3] = some y3 := h3
    have h4 : DataW.trod enc Tryz.prog W base spare held m 2 (([c0, c1, c2, c3, c4, c5].drop 4).take (Tryz.prog.cellsOf 2)) = some y4 := hg 4 _ rfl
    rw [cells_of_int64] at h4
    have g4 : DataW.trod enc Tryz.prog W base spare held m 2 [c4] = some y4 := h4
    have h5 : DataW.trod enc Tryz.prog W base spare held m 2 (([c0, c1, c2, c3, c4, c5].drop 5).take (Tryz.prog.cellsOf 2)) = some y5 := hg 5 _ rfl
    rw [cells_of_int64] at h5
    have g5 : DataW.trod enc Tryz.prog W base spare held m 2 [c5] = some y5 := h5
    obtain ⟨a0, e0, r0, w0⟩ := DataW.trod_int Tryz.underlying3 g0
    obtain rfl : c0 = .int .i64 a0 := by simpa using e0
    obtain ⟨a1, e1, r1, w1⟩ := DataW.trod_int Tryz.underlying2 g1
    obtain rfl : c1 = .int .i64 a1 := by simpa using e1
    obtain ⟨a2, e2, r2, w2⟩ := DataW.trod_int Tryz.underlying2 g2
    obtain rfl : c2 = .int .i64 a2 := by simpa using e2
    obtain ⟨a3, e3, r3, w3⟩ := DataW.trod_int Tryz.underlying2 g3
    obtain rfl : c3 = .int .i64 a3 := by simpa using e3
    obtain ⟨a4, e4, r4, w4⟩ := DataW.trod_int Tryz.underlying2 g4
    obtain rfl : c4 = .int .i64 a4 := by simpa using e4
    obtain ⟨a5, e5, r5, w5⟩ := DataW.trod_int Tryz.underlying2 g5
    obtain rfl : c5 = .int .i64 a5 := by simpa using e5
    subst r0 r1 r2 r3 r4 r5
    exact ⟨a0, a1, a2, a3, a4, a5, rfl, rfl, rfl, rfl, rfl, rfl, hx, w0, w1, w2, w3, w4, w5⟩
set_option maxRecDepth 100000 in
theorem trod_meas_mk {a0 a1 a2 a3 a4 a5 : Int} (m : Nat) (w0 : (Lit.int .i64 a0).wf = true) (w1 : (Lit.int .i64 a1).wf = true) (w2 : (Lit.int .i64 a2).wf = true) (w3 : (Lit.int .i64 a3).wf = true) (w4 : (Lit.int .i64 a4).wf = true) (w5 : (Lit.int .i64 a5).wf = true) :
    DataW.trod enc Tryz.prog W base spare held (m + 2) 71 [.int .i64 a0, .int .i64 a1, .int .i64 a2, .int .i64 a3, .int .i64 a4, .int .i64 a5] = some (.agg [.lit (.int .i64 a0), .lit (.int .i64 a1), .lit (.int .i64 a2), .lit (.int .i64 a3), .lit (.int .i64 a4), .lit (.int .i64 a5)], []) := by
  have i0 := trod_int_mk (enc := enc) (w := W) (base := base) (spare := spare) (held := held) m Tryz.underlying3 w0
  have i1 := trod_int_mk (enc := enc) (w := W) (base := base) (spare := spare) (held := held) m Tryz.underlying2 w1
  have i2 := trod_int_mk (enc := enc) (w := W) (base := base) (spare := spare) (held := held) m Tryz.underlying2 w2
  have i3 := trod_int_mk (enc := enc) (w := W) (base := base) (spare := spare) (held := held) m Tryz.underlying2 w3
  have i4 := trod_int_mk (enc := enc) (w := W) (base := base) (spare := spare) (held := held) m Tryz.underlying2 w4
  have i5 := trod_int_mk (enc := enc) (w := W) (base := base) (spare := spare) (held := held) m Tryz.underlying2 w5
  have := trod_struct_mk (enc := enc) (w := W) (base := base) (spare := spare) (held := held) (n := m + 1) (cs := [.int .i64 a0, .int .i64 a1, .int .i64 a2, .int .i64 a3, .int .i64 a4, .int .i64 a5])
    (xs := [(.lit (.int .i64 a0), []), (.lit (.int .i64 a1), []), (.lit (.int .i64 a2), []), (.lit (.int .i64 a3), []), (.lit (.int .i64 a4), []), (.lit (.int .i64 a5), [])]) Tryz.underlying71 (by rw [cells_of_meas]; rfl)
    (by simp [cells_of_int, cells_of_int64, i0, i1, i2, i3, i4, i5])
  simpa using this
set_option maxRecDepth 100000 in
theorem open_meas {v : Value} {d : DataW H} {p : List MemPlace} (hv : Value.okWide Tryz.prog W .any b0 71 v) (h : DataW.Trod enc Tryz.prog W base spare held 71 v d p) :
    ∃ a0 a1 a2 a3 a4 a5 : Int, v = .agg #[.int .i64 a0, .int .i64 a1, .int .i64 a2, .int .i64 a3, .int .i64 a4, .int .i64 a5] ∧ d = .agg [.lit (.int .i64 a0), .lit (.int .i64 a1), .lit (.int .i64 a2), .lit (.int .i64 a3), .lit (.int .i64 a4), .lit (.int .i64 a5)] ∧ p = [] ∧ (Lit.int .i64 a0).wf = true ∧ (Lit.int .i64 a1).wf = true ∧ (Lit.int .i64 a2).wf = true ∧ (Lit.int .i64 a3).wf = true ∧ (Lit.int .i64 a4).wf = true ∧ (Lit.int .i64 a5).wf = true := by
  obtain ⟨cs, rfl, hsz⟩ := okWide_struct Tryz.underlying71 hv
  obtain ⟨l⟩ := cs
  match l, hsz.trans cells_of_meas with
  | [c0, c1, c2, c3, c4, c5], _ =>
    obtain ⟨fuel, hf⟩ := h
    have hf' : DataW.trod enc Tryz.prog W base spare held fuel 71 [c0, c1, c2, c3, c4, c5] = some (d, p) := hf
    obtain ⟨a0, a1, a2, a3, a4, a5, rfl, rfl, rfl, rfl, rfl, rfl, hy, w0, w1, w2, w3, w4, w5⟩ := trod_meas hf'
    simp only [Prod.mk.injEq] at hy
    exact ⟨a0, a1, a2, a3, a4, a5, rfl, hy.1, hy.2, w0, w1, w2, w3, w4, w5⟩
set_option maxRecDepth 100000 in
theorem shut_meas {a0 a1 a2 a3 a4 a5 : Int} (w0 : (Lit.int .i64 a0).wf = true) (w1 : (Lit.int .i64 a1).wf = true) (w2 : (Lit.int .i64 a2).wf = true) (w3 : (Lit.int .i64 a3).wf = true) (w4 : (Lit.int .i64 a4).wf = true) (w5 : (Lit.int .i64 a5).wf = true) :
    DataW.Trod enc Tryz.prog W base spare held 71 (.agg #[.int .i64 a0, .int .i64 a1, .int .i64 a2, .int .i64 a3, .int .i64 a4, .int .i64 a5]) (.agg [.lit (.int .i64 a0), .lit (.int .i64 a1), .lit (.int .i64 a2), .lit (.int .i64 a3), .lit (.int .i64 a4), .lit (.int .i64 a5)]) [] :=
  ⟨2, trod_meas_mk (enc := enc) (W := W) (base := base) (spare := spare) (held := held) 0 w0 w1 w2 w3 w4 w5⟩
set_option maxRecDepth 100000 in
theorem trod_point {n : Nat} {c0 c1 : Value} {y : DataW H × List MemPlace} (h : DataW.trod enc Tryz.prog W base spare held n 23 [c0, c1] = some y) :
    ∃ a0 a1 : Int, c0 = .int .i64 a0 ∧ c1 = .int .i64 a1 ∧ y = (.agg [.lit (.int .i64 a0), .lit (.int .i64 a1)], []) ∧ (Lit.int .i64 a0).wf = true ∧ (Lit.int .i64 a1).wf = true := by
  obtain ⟨xs, m, _, hx, _, hlen, hg⟩ := DataW.trod_struct Tryz.underlying23 h
  match xs, hlen with
  | [y0, y1], _ =>
    have h0 : DataW.trod enc Tryz.prog W base spare held m 2 (([c0, c1].drop 0).take (Tryz.prog.cellsOf 2)) = some y0 := hg 0 _ rfl
    rw [cells_of_int64] at h0
    have g0 : DataW.trod enc Tryz.prog W base spare held m 2 [c0] = some y0 := h0
    have h1 : DataW.trod enc Tryz.prog W base spare held m 2 (([c0, c1].drop 1).take (Tryz.prog.cellsOf 2)) = some y1 := hg 1 _ rfl
    rw [cells_of_int64] at h1
    have g1 : DataW.trod enc Tryz.prog W base spare held m 2 [c1] = some y1 := h1
    obtain ⟨a0, e0, r0, w0⟩ := DataW.trod_int Tryz.underlying2 g0
    obtain rfl : c0 = .int .i64 a0 := by simpa using e0
    obtain ⟨a1, e1, r1, w1⟩ := DataW.trod_int Tryz.underlying2 g1
    obtain rfl : c1 = .int .i64 a1 := by simpa using e1
    subst r0 r1
    exact ⟨a0, a1, rfl, rfl, hx, w0, w1⟩
set_option maxRecDepth 100000 in
theorem trod_point_mk {a0 a1 : Int} (m : Nat) (w0 : (Lit.int .i64 a0).wf = true) (w1 : (Lit.int .i64 a1).wf = true) :
    DataW.trod enc Tryz.prog W base spare held (m + 2) 23 [.int .i64 a0, .int .i64 a1] = some (.agg [.lit (.int .i64 a0), .lit (.int .i64 a1)], []) := by
  have i0 := trod_int_mk (enc := enc) (w := W) (base := base) (spare := spare) (held := held) m Tryz.underlying2 w0
  have i1 := trod_int_mk (enc := enc) (w := W) (base := base) (spare := spare) (held := held) m Tryz.underlying2 w1
  have := trod_struct_mk (enc := enc) (w := W) (base := base) (spare := spare) (held := held) (n := m + 1) (cs := [.int .i64 a0, .int .i64 a1])
    (xs := [(.lit (.int .i64 a0), []), (.lit (.int .i64 a1), [])]) Tryz.underlying23 (by rw [cells_of_point]; rfl)
    (by simp [cells_of_int64, i0, i1])
  simpa using this
set_option maxRecDepth 100000 in
theorem open_point {v : Value} {d : DataW H} {p : List MemPlace} (hv : Value.okWide Tryz.prog W .any b0 23 v) (h : DataW.Trod enc Tryz.prog W base spare held 23 v d p) :
    ∃ a0 a1 : Int, v = .agg #[.int .i64 a0, .int .i64 a1] ∧ d = .agg [.lit (.int .i64 a0), .lit (.int .i64 a1)] ∧ p = [] ∧ (Lit.int .i64 a0).wf = true ∧ (Lit.int .i64 a1).wf = true := by
  obtain ⟨cs, rfl, hsz⟩ := okWide_struct Tryz.underlying23 hv
  obtain ⟨l⟩ := cs
  match l, hsz.trans cells_of_point with
  | [c0, c1], _ =>
    obtain ⟨fuel, hf⟩ := h
    have hf' : DataW.trod enc Tryz.prog W base spare held fuel 23 [c0, c1] = some (d, p) := hf
    obtain ⟨a0, a1, rfl, rfl, hy, w0, w1⟩ := trod_point hf'
    simp only [Prod.mk.injEq] at hy
    exact ⟨a0, a1, rfl, hy.1, hy.2, w0, w1⟩
set_option maxRecDepth 100000 in
theorem shut_point {a0 a1 : Int} (w0 : (Lit.int .i64 a0).wf = true) (w1 : (Lit.int .i64 a1).wf = true) :
    DataW.Trod enc Tryz.prog W base spare held 23 (.agg #[.int .i64 a0, .int .i64 a1]) (.agg [.lit (.int .i64 a0), .lit (.int .i64 a1)]) [] :=
  ⟨2, trod_point_mk (enc := enc) (W := W) (base := base) (spare := spare) (held := held) 0 w0 w1⟩
instance : Inhabited Ms := ⟨ms0⟩
set_option maxRecDepth 100000 in
/-- a parameter that is a slice of measurements -/
theorem open_list {v : Value} {d : DataW H} {p : List MemPlace} (hv : Value.okWide Tryz.prog W .any b0 50 v) (h : DataW.Trod enc Tryz.prog W 0 (fun _ => true) true 50 v d p) :
    ∃ l : List Ms, LstAt l v W := by
  have hok := hv
  simp only [Value.okWide, Tryz.underlying50, Cell.okWide] at hok
  obtain ⟨fuel, hf⟩ := h
  obtain ⟨ao, len, cap, rfl⟩ := okWide_slice Tryz.underlying50 hv
  rcases Go.Deep.open_slice Tryz.underlying50 hf with ⟨hc, _⟩ | ⟨a, len', cap', m, n, D, Pl, hc, _, hlc, _, hm, _, hi⟩
  · have hc' : [Value.slice ao len cap] = [Value.slice none 0 0] := hc
    exact ⟨[], .inl ⟨List.cons.inj hc' |>.1, rfl⟩⟩
  · have hc0 : [Value.slice ao len cap] = [Value.slice (some a) len' cap'] := hc
    have hc' := (List.cons.inj hc0).1
    clear hc0
    cases hc'
    simp only [if_true] at hm
    subst hm
    have hhas : len ≤ m ∧ (m : Int) ≤ IntKind.i64.max ∧ W.has Tryz.prog .any b0 a 71 m := by simpa [Cell.ok, Tryz.underlying50] using hok
    obtain ⟨_, hmax, _, hsp, row, cells, hsh, _⟩ := hhas
    have hlt : a.block < W.heap.size := by
      unfold World.shape? at hsh
      split at hsh
      · rename_i q
        exact (Array.getElem?_eq_some_iff.1 q).1
      · cases hsh
    have key : ∀ i, i < len → ∃ x : Ms, W.cell? ⟨a.block, a.off + i * 6, none⟩ = some (.int .i64 x.s) ∧ W.cell? ⟨a.block, a.off + i * 6 + 1, none⟩ = some (.int .i64 x.a) ∧ W.cell? ⟨a.block, a.off + i * 6 + 2, none⟩ = some (.int .i64 x.b) ∧ W.cell? ⟨a.block, a.off + i * 6 + 3, none⟩ = some (.int .i64 x.z) ∧ W.cell? ⟨a.block, a.off + i * 6 + 4, none⟩ = some (.int .i64 x.d) ∧ W.cell? ⟨a.block, a.off + i * 6 + 5, none⟩ = some (.int .i64 x.w) := by
      intro i hil
      obtain ⟨cs, hcs, ht⟩ := hi i (by omega)
      rw [cells_of_meas] at hcs
      obtain ⟨_, hl, hat⟩ := World.cells?_some hcs
      match cs, hl with
      | [c0, c1, c2, c3, c4, c5], _ =>
        obtain ⟨a0, a1, a2, a3, a4, a5, rfl, rfl, rfl, rfl, rfl, rfl, _⟩ := trod_meas ht
        have ad : ∀ j, (a.add (i * 6)).add j = ⟨a.block, a.off + i * 6 + j, none⟩ := fun j => by
          rw [Go.Deep.add_add]
          unfold Addr.add
          obtain ⟨ab, af, asp⟩ := a
          simp only at hsp
          subst hsp
          split
          · rename_i e
            simp only [Addr.mk.injEq, and_true, true_and]
            omega
          · simp only [Addr.mk.injEq, and_true, true_and]
            omega
        refine ⟨⟨a0, a1, a2, a3, a4, a5⟩, ?_, ?_, ?_, ?_, ?_, ?_⟩
        · have := hat 0 (by omega); rw [ad] at this; exact this
        · have := hat 1 (by omega); rw [ad] at this; exact this
        · have := hat 2 (by omega); rw [ad] at this; exact this
        · have := hat 3 (by omega); rw [ad] at this; exact this
        · have := hat 4 (by omega); rw [ad] at this; exact this
        · have := hat 5 (by omega); rw [ad] at this; exact this
    obtain ⟨f, hf⟩ := Go.Deep.choose_lt key
    have hlen : ((List.range len).map f).length = len := by simp
    have hn : ∀ i, i < len → nth ((List.range len).map f) i = f i := fun i hil => by
      unfold nth
      rw [List.getD_eq_getElem?_getD, List.getElem?_map, List.getElem?_range hil]
      rfl
    obtain ⟨ab, af, asp⟩ := a
    simp only at hsp
    subst hsp
    refine ⟨(List.range len).map f, .inr ⟨ab, af, m, by rw [hlen], by rw [hlen]; exact hlc, by simp [IntKind.max, IntKind.signed, IntKind.bits] at hmax; omega, hlt, ?_, ?_, ?_, ?_, ?_, ?_⟩⟩
    all_goals
      intro i hil
      rw [hlen] at hil
      rw [hn i hil]
    · exact (hf i hil).1
    · exact (hf i hil).2.1
    · exact (hf i hil).2.2.1
    · exact (hf i hil).2.2.2.1
    · exact (hf i hil).2.2.2.2.1
    · exact (hf i hil).2.2.2.2.2
end
end Go.Proofs.YtajmjkliblippaaGreatDoor
namespace Go.Proofs.YtajmjkliblippaaGreatDoor
set_option linter.unusedVariables false
open Go.ChangeShapes Go.WideShapes Go.ChangeAt Go.RowKit Go.Joins

/-- a report -/
structure Rp where
  s : Int
  k : Int
  x : Int
  y : Int
  v : Int
  b : Int
  wt : Int
  t : Int
def rp0 : Rp := ⟨0, 0, 0, 0, 0, 0, 0, 0⟩
def nthR (l : List Rp) (i : Nat) : Rp := l.getD i rp0
structure RpAt (l : List Rp) (b o : Nat) (w : World) : Prop where
  lt : b < w.heap.size
  c0 : ∀ i, i < l.length → w.cell? ⟨b, o + i * 8, none⟩ = some (.int .i64 (nthR l i).s)
  c1 : ∀ i, i < l.length → w.cell? ⟨b, o + i * 8 + 1, none⟩ = some (.int .u8 (nthR l i).k)
  c2 : ∀ i, i < l.length → w.cell? ⟨b, o + i * 8 + 2, none⟩ = some (.int .i64 (nthR l i).x)
  c3 : ∀ i, i < l.length → w.cell? ⟨b, o + i * 8 + 3, none⟩ = some (.int .i64 (nthR l i).y)
  c4 : ∀ i, i < l.length → w.cell? ⟨b, o + i * 8 + 4, none⟩ = some (.int .i64 (nthR l i).v)
  c5 : ∀ i, i < l.length → w.cell? ⟨b, o + i * 8 + 5, none⟩ = some (.int .i64 (nthR l i).b)
  c6 : ∀ i, i < l.length → w.cell? ⟨b, o + i * 8 + 6, none⟩ = some (.int .i64 (nthR l i).wt)
  c7 : ∀ i, i < l.length → w.cell? ⟨b, o + i * 8 + 7, none⟩ = some (.int .i64 (nthR l i).t)
theorem RpAt.below {l : List Rp} {b o : Nat} {w w' : World} (h : RpAt l b o w) (hb : Below w.heap.size w w') : RpAt l b o w' :=
  ⟨Nat.lt_of_lt_of_le h.lt hb.size, fun i hi => (hb.cell (p := ⟨b, o + i * 8, none⟩) h.lt).trans (h.c0 i hi), fun i hi => (hb.cell (p := ⟨b, o + i * 8 + 1, none⟩) h.lt).trans (h.c1 i hi), fun i hi => (hb.cell (p := ⟨b, o + i * 8 + 2, none⟩) h.lt).trans (h.c2 i hi), fun i hi => (hb.cell (p := ⟨b, o + i * 8 + 3, none⟩) h.lt).trans (h.c3 i hi), fun i hi => (hb.cell (p := ⟨b, o + i * 8 + 4, none⟩) h.lt).trans (h.c4 i hi), fun i hi => (hb.cell (p := ⟨b, o + i * 8 + 5, none⟩) h.lt).trans (h.c5 i hi), fun i hi => (hb.cell (p := ⟨b, o + i * 8 + 6, none⟩) h.lt).trans (h.c6 i hi), fun i hi => (hb.cell (p := ⟨b, o + i * 8 + 7, none⟩) h.lt).trans (h.c7 i hi)⟩
/-- a value is a slice that holds these reports -/
def RlAt (l : List Rp) (v : Value) (w : World) : Prop := (v = .slice none 0 0 ∧ l = []) ∨ ∃ b o cap, v = .slice (some ⟨b, o, none⟩) l.length cap ∧ l.length ≤ cap ∧ cap ≤ 9223372036854775807 ∧ RpAt l b o w
theorem RlAt.below {l : List Rp} {v : Value} {w w' : World} (h : RlAt l v w) (hb : Below w.heap.size w w') : RlAt l v w' := by
  rcases h with h | ⟨b, o, cap, h1, h2, h3, h4⟩
  · exact .inl h
  · exact .inr ⟨b, o, cap, h1, h2, h3, h4.below hb⟩
theorem rl_form {l : List Rp} {v : Value} {w : World} (h : RlAt l v w) : ∃ p cap, v = .slice p l.length cap := by
  rcases h with ⟨rfl, rfl⟩ | ⟨b, o, cap, rfl, _⟩
  · exact ⟨none, 0, rfl⟩
  · exact ⟨_, _, rfl⟩
theorem rl_at {l : List Rp} {p : Option Addr} {cap : Nat} {w : World} (h : RlAt l (.slice p l.length cap) w) {k : Nat} (q : k < l.length) : ∃ b o, p = some ⟨b, o, none⟩ ∧ l.length ≤ cap ∧ cap ≤ 9223372036854775807 ∧ RpAt l b o w := by
  rcases h with ⟨_, rfl⟩ | ⟨b, o, cap', e, h2, h3, h4⟩
  · exact absurd q (by simp)
  · injection e with e1 e2 e3
    subst e3
    exact ⟨b, o, e1, h2, h3, h4⟩
theorem cells_of_api_ReportKind : Tryz.prog.cellsOf 47 = 1 := by kernel_rfl
theorem cells_of_report : Tryz.prog.cellsOf 49 = 8 := by kernel_rfl
theorem cells_of_box : Tryz.prog.cellsOf 25 = 4 := by kernel_rfl

section
variable {H : Type} {enc : TypeId × Value → H} {W : World} {base : Nat} {spare : Nat → Bool} {held : Bool} {b0 : Nat}

set_option maxRecDepth 100000 in
theorem trod_report {n : Nat} {c0 c1 c2 c3 c4 c5 c6 c7 : Value} {y : DataW H × List MemPlace} (h : DataW.trod enc Tryz.prog W base spare held n 49 [c0, c1, c2, c3, c4, c5, c6, c7] = some y) :
    ∃ a0 a1 a2 a3 a4 a5 a6 a7 : Int, c0 = .int .i64 a0 ∧ c1 = .int .u8 a1 ∧ c2 = .int .i64 a2 ∧ c3 = .int .i64 a3 ∧ c4 = .int .i64 a4 ∧ c5 = .int .i64 a5 ∧ c6 = .int .i64 a6 ∧ c7 = .int .i64 a7 ∧ y = (.agg [.lit (.int .i64 a0), .lit (.int .u8 a1), .agg [.lit (.int .i64 a2), .lit (.int .i64 a3)], .lit (.int .i64 a4), .lit (.int .i64 a5), .lit (.int .i64 a6), .lit (.int .i64 a7)], []) ∧ (Lit.int .i64 a0).wf = true ∧ (Lit.int .u8 a1).wf = true ∧ (Lit.int .i64 a2).wf = true ∧ (Lit.int .i64 a3).wf = true ∧ (Lit.int .i64 a4).wf = true ∧ (Lit.int .i64 a5).wf = true ∧ (Lit.int .i64 a6).wf = true ∧ (Lit.int .i64 a7).wf = true := by
  obtain ⟨xs, m, _, hx, _, hlen, hg⟩ := DataW.trod_struct Tryz.underlying49 h
  match xs, hlen with
  | [y0, y1, y2, y3, y4, y5, y6], _ =>
    have h0 : DataW.trod enc Tryz.prog W base spare held m 3 (([c0, c1, c2, c3, c4, c5, c6, c7].drop 0).take (Tryz.prog.cellsOf 3)) = some y0 := hg 0 _ rfl
    rw [cells_of_int] at h0
    have g0 : DataW.trod enc Tryz.prog W base spare held m 3 [c0] = some y0 := h0
    have h1 : DataW.trod enc Tryz.prog W base spare held m 47 (([c0, c1, c2, c3, c4, c5, c6, c7].drop 1).take (Tryz.prog.cellsOf 47)) = some y1 := hg 1 _ rfl
    rw [cells_of_api_ReportKind] at h1
    have g1 : DataW.trod enc Tryz.prog W base spare held m 47 [c1] = some y1 := h1
    have h2 : DataW.trod enc Tryz.prog W base spare held m 23 (([c0, c1, c2, c3, c4, c5, c6, c7].drop 2).take (Tryz.prog.cellsOf 23)) = some y2 := hg 2 _ rfl
    rw [cells_of_point] at h2
    have g2 : DataW.trod enc Tryz.prog W base spare held m 23 [c2, c3] = some y2 := h2
    have h3 : DataW.trod enc Tryz.prog W base spare held m 2 (([c0, c1, c2, c3, c4, c5, c6, c7].drop 4).take (Tryz.prog.cellsOf 2)) = some y3 := hg 3 _ rfl
    rw [cells_of_int64] at h3
    have g3 : DataW.trod enc Tryz.prog W base spare held m 2 [c4] = some y3 := h3
    have h4 : DataW.trod enc Tryz.prog W base spare held m 2 (([c0, c1, c2, c3, c4, c5, c6, c7].drop 5).take (Tryz.prog.cellsOf 2)) = some y4 := hg 4 _ rfl
    rw [cells_of_int64] at h4
    have g4 : DataW.trod enc Tryz.prog W base spare held m 2 [c5] = some y4 := h4
    have h5 : DataW.trod enc Tryz.prog W base spare held m 2 (([c0, c1, c2, c3, c4, c5, c6, c7].drop 6).take (Tryz.prog.cellsOf 2)) = some y5 := hg 5 _ rfl
    rw [cells_of_int64] at h5
    have g5 : DataW.trod enc Tryz.prog W base spare held m 2 [c6] = some y5 := h5
    have h6 : DataW.trod enc Tryz.prog W base spare held m 2 (([c0, c1, c2, c3, c4, c5, c6, c7].drop 7).take (Tryz.prog.cellsOf 2)) = some y6 := hg 6 _ rfl
    rw [cells_of_int64] at h6
    have g6 : DataW.trod enc Tryz.prog W base spare held m 2 [c7] = some y6 := h6
    obtain ⟨a0, e0, r0, w0⟩ := DataW.trod_int Tryz.underlying3 g0
    obtain rfl : c0 = .int .i64 a0 := by simpa using e0
    obtain ⟨a1, e1, r1, w1⟩ := DataW.trod_int Tryz.underlying47 g1
    obtain rfl : c1 = .int .u8 a1 := by simpa using e1
    obtain ⟨a2, a3, rfl, rfl, r2, w2, w3⟩ := trod_point g2
    obtain ⟨a4, e4, r3, w4⟩ := DataW.trod_int Tryz.underlying2 g3
    obtain rfl : c4 = .int .i64 a4 := by simpa using e4
    obtain ⟨a5, e5, r4, w5⟩ := DataW.trod_int Tryz.underlying2 g4
    obtain rfl : c5 = .int .i64 a5 := by simpa using e5
    obtain ⟨a6, e6, r5, w6⟩ := DataW.trod_int Tryz.underlying2 g5
    obtain rfl : c6 = .int .i64 a6 := by simpa using e6
    obtain ⟨a7, e7, r6, w7⟩ := DataW.trod_int Tryz.underlying2 g6
    obtain rfl : c7 = .int .i64 a7 := by simpa using e7
    subst r0 r1 r2 r3 r4 r5 r6
    exact ⟨a0, a1, a2, a3, a4, a5, a6, a7, rfl, rfl, rfl, rfl, rfl, rfl, rfl, rfl, hx, w0, w1, w2, w3, w4, w5, w6, w7⟩
set_option maxRecDepth 100000 in
theorem trod_box {n : Nat} {c0 c1 c2 c3 : Value} {y : DataW H × List MemPlace} (h : DataW.trod enc Tryz.prog W base spare held n 25 [c0, c1, c2, c3] = some y) :
    ∃ a0 a1 a2 a3 : Int, c0 = .int .i64 a0 ∧ c1 = .int .i64 a1 ∧ c2 = .int .i64 a2 ∧ c3 = .int .i64 a3 ∧ y = (.agg [.agg [.lit (.int .i64 a0), .lit (.int .i64 a1)], .lit (.int .i64 a2), .lit (.int .i64 a3)], []) ∧ (Lit.int .i64 a0).wf = true ∧ (Lit.int .i64 a1).wf = true ∧ (Lit.int .i64 a2).wf = true ∧ (Lit.int .i64 a3).wf = true := by
  obtain ⟨xs, m, _, hx, _, hlen, hg⟩ := DataW.trod_struct Tryz.underlying25 h
  match xs, hlen with
  | [y0, y1, y2], _ =>
    have h0 : DataW.trod enc Tryz.prog W base spare held m 23 (([c0, c1, c2, c3].drop 0).take (Tryz.prog.cellsOf 23)) = some y0 := hg 0 _ rfl
    rw [cells_of_point] at h0
    have g0 : DataW.trod enc Tryz.prog W base spare held m 23 [c0, c1] = some y0 := h0
    have h1 : DataW.trod enc Tryz.prog W base spare held m 2 (([c0, c1, c2, c3].drop 2).take (Tryz.prog.cellsOf 2)) = some y1 := hg 1 _ rfl
    rw [cells_of_int64] at h1
    have g1 : DataW.trod enc Tryz.prog W base spare held m 2 [c2] = some y1 := h1
    have h2 : DataW.trod enc Tryz.prog W base spare held m 2 (([c0, c1, c2, c3].drop 3).take (Tryz.prog.cellsOf 2)) = some y2 := hg 2 _ rfl
    rw [cells_of_int64] at h2
    have g2 : DataW.trod enc Tryz.prog W base spare held m 2 [c3] = some y2 := h2
    obtain ⟨a0, a1, rfl, rfl, r0, w0, w1⟩ := trod_point g0
    obtain ⟨a2, e2, r1, w2⟩ := DataW.trod_int Tryz.underlying2 g1
    obtain rfl : c2 = .int .i64 a2 := by simpa using e2
    obtain ⟨a3, e3, r2, w3⟩ := DataW.trod_int Tryz.underlying2 g2
    obtain rfl : c3 = .int .i64 a3 := by simpa using e3
    subst r0 r1 r2
    exact ⟨a0, a1, a2, a3, rfl, rfl, rfl, rfl, hx, w0, w1, w2, w3⟩
set_option maxRecDepth 100000 in
theorem trod_box_mk {a0 a1 a2 a3 : Int} (m : Nat) (w0 : (Lit.int .i64 a0).wf = true) (w1 : (Lit.int .i64 a1).wf = true) (w2 : (Lit.int .i64 a2).wf = true) (w3 : (Lit.int .i64 a3).wf = true) :
    DataW.trod enc Tryz.prog W base spare held (m + 3) 25 [.int .i64 a0, .int .i64 a1, .int .i64 a2, .int .i64 a3] = some (.agg [.agg [.lit (.int .i64 a0), .lit (.int .i64 a1)], .lit (.int .i64 a2), .lit (.int .i64 a3)], []) := by
  have i0 := trod_point_mk (enc := enc) (W := W) (base := base) (spare := spare) (held := held) m w0 w1
  have i1 := trod_int_mk (enc := enc) (w := W) (base := base) (spare := spare) (held := held) (m + 1) Tryz.underlying2 w2
  have i2 := trod_int_mk (enc := enc) (w := W) (base := base) (spare := spare) (held := held) (m + 1) Tryz.underlying2 w3
  have := trod_struct_mk (enc := enc) (w := W) (base := base) (spare := spare) (held := held) (n := m + 2) (cs := [.int .i64 a0, .int .i64 a1, .int .i64 a2, .int .i64 a3])
    (xs := [(.agg [.lit (.int .i64 a0), .lit (.int .i64 a1)], []), (.lit (.int .i64 a2), []), (.lit (.int .i64 a3), [])]) Tryz.underlying25 (by rw [cells_of_box]; rfl)
    (by simp [cells_of_int64, cells_of_point, i0, i1, i2])
  simpa using this
set_option maxRecDepth 100000 in
theorem open_box {v : Value} {d : DataW H} {p : List MemPlace} (hv : Value.okWide Tryz.prog W .any b0 25 v) (h : DataW.Trod enc Tryz.prog W base spare held 25 v d p) :
    ∃ a0 a1 a2 a3 : Int, v = .agg #[.int .i64 a0, .int .i64 a1, .int .i64 a2, .int .i64 a3] ∧ d = .agg [.agg [.lit (.int .i64 a0), .lit (.int .i64 a1)], .lit (.int .i64 a2), .lit (.int .i64 a3)] ∧ p = [] ∧ (Lit.int .i64 a0).wf = true ∧ (Lit.int .i64 a1).wf = true ∧ (Lit.int .i64 a2).wf = true ∧ (Lit.int .i64 a3).wf = true := by
  obtain ⟨cs, rfl, hsz⟩ := okWide_struct Tryz.underlying25 hv
  obtain ⟨l⟩ := cs
  match l, hsz.trans cells_of_box with
  | [c0, c1, c2, c3], _ =>
    obtain ⟨fuel, hf⟩ := h
    have hf' : DataW.trod enc Tryz.prog W base spare held fuel 25 [c0, c1, c2, c3] = some (d, p) := hf
    obtain ⟨a0, a1, a2, a3, rfl, rfl, rfl, rfl, hy, w0, w1, w2, w3⟩ := trod_box hf'
    simp only [Prod.mk.injEq] at hy
    exact ⟨a0, a1, a2, a3, rfl, hy.1, hy.2, w0, w1, w2, w3⟩
set_option maxRecDepth 100000 in
theorem shut_box {a0 a1 a2 a3 : Int} (w0 : (Lit.int .i64 a0).wf = true) (w1 : (Lit.int .i64 a1).wf = true) (w2 : (Lit.int .i64 a2).wf = true) (w3 : (Lit.int .i64 a3).wf = true) :
    DataW.Trod enc Tryz.prog W base spare held 25 (.agg #[.int .i64 a0, .int .i64 a1, .int .i64 a2, .int .i64 a3]) (.agg [.agg [.lit (.int .i64 a0), .lit (.int .i64 a1)], .lit (.int .i64 a2), .lit (.int .i64 a3)]) [] :=
  ⟨3, trod_box_mk (enc := enc) (W := W) (base := base) (spare := spare) (held := held) 0 w0 w1 w2 w3⟩
instance : Inhabited Rp := ⟨rp0⟩
set_option maxRecDepth 100000 in
/-- a parameter that is a slice of reports -/
theorem open_reports {v : Value} {d : DataW H} {p : List MemPlace} (hv : Value.okWide Tryz.prog W .any b0 34 v) (h : DataW.Trod enc Tryz.prog W 0 (fun _ => true) true 34 v d p) :
    ∃ l : List Rp, RlAt l v W ∧ ∀ i, i < l.length → 0 ≤ (nthR l i).k ∧ (nthR l i).k ≤ 255 := by
  have hok := hv
  simp only [Value.okWide, Tryz.underlying34, Cell.okWide] at hok
  obtain ⟨fuel, hf⟩ := h
  obtain ⟨ao, len, cap, rfl⟩ := okWide_slice Tryz.underlying34 hv
  rcases Go.Deep.open_slice Tryz.underlying34 hf with ⟨hc, _⟩ | ⟨a, len', cap', m, n, D, Pl, hc, _, hlc, _, hm, _, hi⟩
  · have hc' : [Value.slice ao len cap] = [Value.slice none 0 0] := hc
    exact ⟨[], .inl ⟨List.cons.inj hc' |>.1, rfl⟩, fun i hi => absurd hi (by simp)⟩
  · have hc0 : [Value.slice ao len cap] = [Value.slice (some a) len' cap'] := hc
    have hc' := (List.cons.inj hc0).1
    clear hc0
    cases hc'
    simp only [if_true] at hm
    subst hm
    have hhas : len ≤ m ∧ (m : Int) ≤ IntKind.i64.max ∧ W.has Tryz.prog .any b0 a 49 m := by simpa [Cell.ok, Tryz.underlying34] using hok
    obtain ⟨_, hmax, _, hsp, row, cells, hsh, _⟩ := hhas
    have hlt : a.block < W.heap.size := by
      unfold World.shape? at hsh
      split at hsh
      · rename_i q
        exact (Array.getElem?_eq_some_iff.1 q).1
      · cases hsh
    have key : ∀ i, i < len → ∃ x : Rp, (0 ≤ x.k ∧ x.k ≤ 255) ∧ W.cell? ⟨a.block, a.off + i * 8, none⟩ = some (.int .i64 x.s) ∧ W.cell? ⟨a.block, a.off + i * 8 + 1, none⟩ = some (.int .u8 x.k) ∧ W.cell? ⟨a.block, a.off + i * 8 + 2, none⟩ = some (.int .i64 x.x) ∧ W.cell? ⟨a.block, a.off + i * 8 + 3, none⟩ = some (.int .i64 x.y) ∧ W.cell? ⟨a.block, a.off + i * 8 + 4, none⟩ = some (.int .i64 x.v) ∧ W.cell? ⟨a.block, a.off + i * 8 + 5, none⟩ = some (.int .i64 x.b) ∧ W.cell? ⟨a.block, a.off + i * 8 + 6, none⟩ = some (.int .i64 x.wt) ∧ W.cell? ⟨a.block, a.off + i * 8 + 7, none⟩ = some (.int .i64 x.t) := by
      intro i hil
      obtain ⟨cs, hcs, ht⟩ := hi i (by omega)
      rw [cells_of_report] at hcs
      obtain ⟨_, hl, hat⟩ := World.cells?_some hcs
      match cs, hl with
      | [c0, c1, c2, c3, c4, c5, c6, c7], _ =>
        obtain ⟨a0, a1, a2, a3, a4, a5, a6, a7, rfl, rfl, rfl, rfl, rfl, rfl, rfl, rfl, _, _, hk, _⟩ := trod_report ht
        have ad : ∀ j, (a.add (i * 8)).add j = ⟨a.block, a.off + i * 8 + j, none⟩ := fun j => by
          rw [Go.Deep.add_add]
          unfold Addr.add
          obtain ⟨ab, af, asp⟩ := a
          simp only at hsp
          subst hsp
          split
          · rename_i e
            simp only [Addr.mk.injEq, and_true, true_and]
            omega
          · simp only [Addr.mk.injEq, and_true, true_and]
            omega
        have hk' : 0 ≤ a1 ∧ a1 ≤ 255 := by simp [Lit.wf, IntKind.min, IntKind.max, IntKind.signed, IntKind.bits] at hk; omega
        refine ⟨⟨a0, a1, a2, a3, a4, a5, a6, a7⟩, hk', ?_, ?_, ?_, ?_, ?_, ?_, ?_, ?_⟩
        · have := hat 0 (by omega); rw [ad] at this; exact this
        · have := hat 1 (by omega); rw [ad] at this; exact this
        · have := hat 2 (by omega); rw [ad] at this; exact this
        · have := hat 3 (by omega); rw [ad] at this; exact this
        · have := hat 4 (by omega); rw [ad] at this; exact this
        · have := hat 5 (by omega); rw [ad] at this; exact this
        · have := hat 6 (by omega); rw [ad] at this; exact this
        · have := hat 7 (by omega); rw [ad] at this; exact this
    obtain ⟨f, hf⟩ := Go.Deep.choose_lt key
    have hlen : ((List.range len).map f).length = len := by simp
    have hn : ∀ i, i < len → nthR ((List.range len).map f) i = f i := fun i hil => by
      unfold nthR
      rw [List.getD_eq_getElem?_getD, List.getElem?_map, List.getElem?_range hil]
      rfl
    obtain ⟨ab, af, asp⟩ := a
    simp only at hsp
    subst hsp
    refine ⟨(List.range len).map f, .inr ⟨ab, af, m, by rw [hlen], by rw [hlen]; exact hlc, by simp [IntKind.max, IntKind.signed, IntKind.bits] at hmax; omega, hlt, ?_, ?_, ?_, ?_, ?_, ?_, ?_, ?_⟩, fun i hil => ?_⟩
    rotate_left 8
    · rw [hlen] at hil
      rw [hn i hil]
      exact (hf i hil).1
    all_goals
      intro i hil
      rw [hlen] at hil
      rw [hn i hil]
    · exact (hf i hil).2.1
    · exact (hf i hil).2.2.1
    · exact (hf i hil).2.2.2.1
    · exact (hf i hil).2.2.2.2.1
    · exact (hf i hil).2.2.2.2.2.1
    · exact (hf i hil).2.2.2.2.2.2.1
    · exact (hf i hil).2.2.2.2.2.2.2.1
    · exact (hf i hil).2.2.2.2.2.2.2.2
end
end Go.Proofs.YtajmjkliblippaaGreatDoor
namespace Go.Proofs.YtajmjkliblippaaGreatDoor
set_option linter.unusedVariables false
open Go.RowKit
def cvM (m : S41.Ms) : Ms := ⟨m.s, m.a, m.b, m.z, m.d, m.w⟩
def rowsN (r : Rp) (cx cy bx b2 : Int) : List Ms × Int := ((S41.rowsF r.s r.k r.x r.y r.v r.b r.wt r.t cx cy bx b2).1.map cvM, (S41.rowsF r.s r.k r.x r.y r.v r.b r.wt r.t cx cy bx b2).2)
theorem msC_cv (l : List S41.Ms) : l.flatMap S41.msV = msC (l.map cvM) := by
  unfold msC
  rw [List.flatMap_map]
  rfl
/-- the slice that Rows answers: in a block of its own -/
def RowN (w : World) (l : List Ms) (u : Value) (w' : World) : Prop :=
  (l = [] ∧ u = .slice none 0 0) ∨ ∃ k : Nat, l ≠ [] ∧ u = .slice (some ⟨k, 0, none⟩) l.length l.length ∧ w.heap.size ≤ k ∧ w'.heap[k]? = some (.cells (msC l).toArray 71)
theorem rowsN_any (r : Rp) (cx cy bx b2 : Int) (w : World) (k0 : 0 ≤ r.k) (k1 : r.k ≤ 255) :
    Calls Tryz.prog 20 #[.agg #[.int .i64 r.s, .int .u8 r.k, .int .i64 r.x, .int .i64 r.y, .int .i64 r.v, .int .i64 r.b, .int .i64 r.wt, .int .i64 r.t], .agg #[.int .i64 cx, .int .i64 cy, .int .i64 bx, .int .i64 b2]] w fun e w' => ∃ u, e = .returned (.tuple #[u, .int .i64 (rowsN r cx cy bx b2).2]) ∧ RowN w (rowsN r cx cy bx b2).1 u w' ∧ Below w.heap.size w w' :=
  (S41.rows_any r.s r.k r.x r.y r.v r.b r.wt r.t cx cy bx b2 w k0 k1).mono fun e w' ⟨u, h1, h2, h3⟩ => by
    refine ⟨u, h1, ?_, h3⟩
    unfold rowsN RowN
    rcases h2 with ⟨a, b⟩ | ⟨k, a, b, c, d⟩
    · exact .inl ⟨by simp only [a, List.map_nil], b⟩
    · exact .inr ⟨k, by simpa using a, by simpa using b, c, by rw [d, msC_cv]⟩
theorem rowsN_len (r : Rp) (cx cy bx b2 : Int) : (rowsN r cx cy bx b2).1.length ≤ 2 := by
  unfold rowsN
  rw [List.length_map]
  rcases S41.rows_small (s := r.s) (k := r.k) (x := r.x) (y := r.y) (v := r.v) (b := r.b) (wt := r.wt) (t := r.t) (cx := cx) (cy := cy) (bx := bx) (b2 := b2) with ⟨_, h⟩ | ⟨_, ⟨m, h, _⟩ | ⟨_, m, n, h, _⟩⟩ <;> rw [h] <;> simp
theorem rowsN_bad {r : Rp} {cx cy bx b2 : Int} (h0 : (rowsN r cx cy bx b2).2 ≠ 0) : (rowsN r cx cy bx b2).1 = [] := by
  unfold rowsN at *
  simp only at *
  rcases S41.rows_small (s := r.s) (k := r.k) (x := r.x) (y := r.y) (v := r.v) (b := r.b) (wt := r.wt) (t := r.t) (cx := cx) (cy := cy) (bx := bx) (b2 := b2) with ⟨_, h⟩ | ⟨h, _⟩
  · rw [h]; rfl
  · exact absurd h h0
theorem rowsN_good {r : Rp} {cx cy bx b2 : Int} (h0 : (rowsN r cx cy bx b2).2 = 0) : (rowsN r cx cy bx b2).1 ≠ [] := by
  unfold rowsN at *
  simp only at *
  rcases S41.rows_small (s := r.s) (k := r.k) (x := r.x) (y := r.y) (v := r.v) (b := r.b) (wt := r.wt) (t := r.t) (cx := cx) (cy := cy) (bx := bx) (b2 := b2) with ⟨h, _⟩ | ⟨_, ⟨m, h, _⟩ | ⟨_, m, n, h, _⟩⟩
  · exact absurd h0 h
  · rw [h]; simp
  · rw [h]; simp
theorem msC_one : ∀ (l : List Ms), ∀ u ∈ msC l, u.oneCell' = true := by
  intro l u hu
  unfold msC at hu
  obtain ⟨m, _, hm⟩ := List.mem_flatMap.1 hu
  simp only [List.mem_cons, List.not_mem_nil, or_false] at hm
  rcases hm with rfl | rfl | rfl | rfl | rfl | rfl <;> rfl
theorem wpList_oml {ops : Array Oper} {rest : List Oper} {o : Oper} {a : Act} {Q : Exit → Act → World → Prop} (hgd : o.guard = none) (s x : Operand)
    (ho : o.op = .call { callee := .builtin .append, args := #[s, x], argTypes := #[50, 50] })
    (B : Nat) (v : Value) (l : List Ms) (hs : a.eval s = v) (W : World) (h : OM B W v l) (k : Nat) (p : List Ms)
    (hx : a.eval x = .slice (some ⟨k, 0, none⟩) p.length p.length) (hk : W.heap[k]? = some (.cells (msC p).toArray 71)) (hl : l.length + p.length ≤ 100000) (hB : B ≤ W.heap.size)
    (H : ∀ v' w', OM B w' v' (l ++ p) → W.grownBy w' v.ownBlock → (v'.ownBlock = v.ownBlock ∨ v'.ownBlock = some W.heap.size) → wpList Tryz.prog ops Q rest (a.put o.dst v') w') :
    wpList Tryz.prog ops Q (o :: rest) a W := by
  obtain ⟨i0, hi, hz0, hz1, hz2⟩ := info_parts infoMeas
  refine wpList_append_own_at _ hgd s x 50 ho B 71 i0 (.agg #[.int .i64 0, .int .i64 0, .int .i64 0, .int .i64 0, .int .i64 0, .int .i64 0]) 6 48 Tryz.underlying50 hi hz0 hz1 hz2 rfl (by decide) v l.length (msC l) hs h ⟨k, 0, none⟩ p.length p.length (msC p) hx (by rw [msC_len]) ?_ (msC_one p) (by unfold maxLen; omega) (by omega) hB ?_
  · intro j u hu
    have hadd : (⟨k, 0, none⟩ : Addr).add j = ⟨k, j, none⟩ := by unfold Addr.add; split <;> simp_all
    rw [hadd]
    unfold World.cell?
    rw [hk]
    simpa using hu
  · intro v' w' ho' hg _ hat
    exact H v' w' (by unfold OM; rw [List.length_append, msC_append]; exact ho') hg hat
end Go.Proofs.YtajmjkliblippaaGreatDoor
namespace Go.Proofs.YtajmjkliblippaaGreatDoor.S44
set_option linter.unusedVariables false
open Go.RowKit
theorem mul_abs {x y X Y : Int} (h1 : -X ≤ x) (h2 : x ≤ X) (h3 : -Y ≤ y) (h4 : y ≤ Y) : -(X * Y) ≤ x * y ∧ x * y ≤ X * Y := by
  have a := Int.mul_nonneg (show 0 ≤ X - x by omega) (show 0 ≤ Y + y by omega)
  have b := Int.mul_nonneg (show 0 ≤ X + x by omega) (show 0 ≤ Y - y by omega)
  have c := Int.mul_nonneg (show 0 ≤ X - x by omega) (show 0 ≤ Y - y by omega)
  have d := Int.mul_nonneg (show 0 ≤ X + x by omega) (show 0 ≤ Y + y by omega)
  have e1 : (X - x) * (Y + y) + (X + x) * (Y - y) = 2 * (X * Y) - 2 * (x * y) := by grind
  have e2 : (X - x) * (Y - y) + (X + x) * (Y + y) = 2 * (X * Y) + 2 * (x * y) := by grind
  omega
/-- a measurement whose numbers are small enough for the corners -/
structure EdM (m : Ms) : Prop where
  a0 : -256 ≤ m.a
  a1 : m.a ≤ 256
  b0 : -256 ≤ m.b
  b1 : m.b ≤ 256
  z0 : -4294967296 ≤ m.z
  z1 : m.z ≤ 4294967296
  d0 : 0 ≤ m.d
  d1 : m.d ≤ 8589934592
theorem OkM.ed {m : Ms} (h : OkM m) : EdM m := ⟨h.a0, h.a1, h.b0, h.b1, h.z0, h.z1, h.d0, by have := h.d1; omega⟩
structure SmC (c : Int) : Prop where
  lo : -12884901888 ≤ c
  hi : c ≤ 12884901888
theorem edge_sm {m : Ms} (h : EdM m) (s : Bool) : SmC (edgeC m s) := by
  have := h.z0
  have := h.z1
  have := h.d0
  have := h.d1
  unfold edgeC
  cases s
  · exact ⟨by show -12884901888 ≤ m.z - m.d; omega, by show m.z - m.d ≤ 12884901888; omega⟩
  · exact ⟨by show -12884901888 ≤ m.z + m.d; omega, by show m.z + m.d ≤ 12884901888; omega⟩
/-- a corner whose numbers are small enough -/
structure SmP (p : Cr) : Prop where
  x0 : -6597069766656 ≤ p.x
  x1 : p.x ≤ 6597069766656
  y0 : -6597069766656 ≤ p.y
  y1 : p.y ≤ 6597069766656
  d0 : 0 ≤ p.d
  d1 : p.d ≤ 131072
theorem cross_sm {m n : Ms} (hm : EdM m) (hn : EdM n) {c e : Int} (hc : SmC c) (he : SmC e) : SmP (crossC m n c e) := by
  have p1 := mul_abs (X := 12884901888) (Y := 256) hc.lo hc.hi hn.b0 hn.b1
  have p2 := mul_abs (X := 12884901888) (Y := 256) he.lo he.hi hm.b0 hm.b1
  have p3 := mul_abs (X := 256) (Y := 12884901888) hm.a0 hm.a1 he.lo he.hi
  have p4 := mul_abs (X := 256) (Y := 12884901888) hn.a0 hn.a1 hc.lo hc.hi
  have p5 := mul_abs (X := 256) (Y := 256) hm.a0 hm.a1 hn.b0 hn.b1
  have p6 := mul_abs (X := 256) (Y := 256) hn.a0 hn.a1 hm.b0 hm.b1
  unfold crossC detM
  split
  · constructor <;> simp only <;> omega
  · constructor <;> simp only <;> omega
theorem edges_any (m : Ms) (w : World) (h : EdM m) :
    Calls Tryz.prog 137 #[.agg #[.int .i64 m.s, .int .i64 m.a, .int .i64 m.b, .int .i64 m.z, .int .i64 m.d, .int .i64 m.w]] w
      fun e w' => e = .returned (.agg #[.int .i64 m.a, .int .i64 m.b, .int .i64 (edgeC m false), .int .i64 m.a, .int .i64 m.b, .int .i64 (edgeC m true)]) ∧ Below w.heap.size w w' := by
  have z0 := h.z0
  have z1 := h.z1
  have d0 := h.d0
  have d1 := h.d1
  have E1 := Lib.hid (show edgeC m false = m.z - m.d from rfl)
  have E2 := Lib.hid (show edgeC m true = m.z + m.d from rfl)
  clear h
  generalize edgeC m false = c at *
  generalize edgeC m true = e at *
  obtain ⟨s, a, b, z, d, t⟩ := m
  simp only at z0 z1 d0 d1 E1 E2 ⊢
  go_enter Tryz.func137, Tryz.ntmps137
  go_wp2
  refine bodyPost_ret (v := .agg #[.int .i64 a, .int .i64 b, .int .i64 (z - d), .int .i64 a, .int .i64 b, .int .i64 (z + d)]) (by simp [results, Tryz.results137, go_sem]) rfl ⟨by rw [E1.out, E2.out], ?_⟩
  exact ((Below.refl w.heap.size w).alloc (by simp) _).alloc (by simp) _
theorem below_set3 {B n : Nat} {w w1 : World} (h : Below B w w1) (hB : B ≤ n) (u v x : Value) : Below B w (((w1.setCell ⟨n, 0, none⟩ u).setCell ⟨n, 1, none⟩ v).setCell ⟨n, 2, none⟩ x) :=
  ((h.setCell (p := ⟨n, 0, none⟩) hB u).setCell (p := ⟨n, 1, none⟩) hB v).setCell (p := ⟨n, 2, none⟩) hB x
/-- what meet gives -/
def meetF (m n : Ms) (c e : Int) : Cr × Bool := if detM m n = 0 then (⟨0, 0, 0⟩, false) else (crossC m n c e, true)
set_option maxHeartbeats 1000000 in
theorem meet_any (m n : Ms) (c e : Int) (w : World) (hm : EdM m) (hn : EdM n) (hc : SmC c) (he : SmC e) :
    Calls Tryz.prog 138 #[.agg #[.int .i64 m.a, .int .i64 m.b, .int .i64 c], .agg #[.int .i64 n.a, .int .i64 n.b, .int .i64 e]] w
      fun r w' => r = .returned (.tuple #[.agg #[.int .i64 (meetF m n c e).1.x, .int .i64 (meetF m n c e).1.y, .int .i64 (meetF m n c e).1.d], .bool (meetF m n c e).2]) ∧ Below w.heap.size w w' := by
  have p1 := mul_abs (X := 12884901888) (Y := 256) hc.lo hc.hi hn.b0 hn.b1
  have p2 := mul_abs (X := 12884901888) (Y := 256) he.lo he.hi hm.b0 hm.b1
  have p3 := mul_abs (X := 256) (Y := 12884901888) hm.a0 hm.a1 he.lo he.hi
  have p4 := mul_abs (X := 256) (Y := 12884901888) hn.a0 hn.a1 hc.lo hc.hi
  have p5 := mul_abs (X := 256) (Y := 256) hm.a0 hm.a1 hn.b0 hn.b1
  have p6 := mul_abs (X := 256) (Y := 256) hn.a0 hn.a1 hm.b0 hm.b1
  have E0 : meetF m n c e = if detM m n = 0 then (⟨0, 0, 0⟩, false) else (crossC m n c e, true) := rfl
  have ED : detM m n = m.a * n.b - n.a * m.b := rfl
  have EC : crossC m n c e = if detM m n < 0 then ⟨-(c * n.b - e * m.b), -(m.a * e - n.a * c), -detM m n⟩ else ⟨c * n.b - e * m.b, m.a * e - n.a * c, detM m n⟩ := rfl
  rw [ED] at E0 EC
  clear ED hm hn hc he
  generalize crossC m n c e = C at *
  generalize meetF m n c e = M at *
  obtain ⟨ms, a, b, mz, md, mw⟩ := m
  obtain ⟨ns, a', b', nz, nd, nw⟩ := n
  simp only at p1 p2 p3 p4 p5 p6 E0 EC ⊢
  obtain ⟨p10, p11⟩ := p1
  obtain ⟨p20, p21⟩ := p2
  obtain ⟨p30, p31⟩ := p3
  obtain ⟨p40, p41⟩ := p4
  obtain ⟨p50, p51⟩ := p5
  obtain ⟨p60, p61⟩ := p6
  have s1 : IntKind.i64.wrap (c * b') = c * b' := IntWalk.i64_in _ (by omega)
  have s2 : IntKind.i64.wrap (e * b) = e * b := IntWalk.i64_in _ (by omega)
  have s3 : IntKind.i64.wrap (a * e) = a * e := IntWalk.i64_in _ (by omega)
  have s4 : IntKind.i64.wrap (a' * c) = a' * c := IntWalk.i64_in _ (by omega)
  have s5 : IntKind.i64.wrap (c * b' - e * b) = c * b' - e * b := IntWalk.i64_in _ (by omega)
  have s6 : IntKind.i64.wrap (a * e - a' * c) = a * e - a' * c := IntWalk.i64_in _ (by omega)
  by_cases hz : a * b' - a' * b = 0
  · have g : (a * b' - a' * b == 0) = true := by simpa using hz
    have E := Lib.hid (E0.trans (if_pos hz))
    clear hz E0 EC
    go_enter Tryz.func138, Tryz.ntmps138
    go_wp2
    go_quiet (fail)
    clear s1 s2 s3 s4 s5 s6
    go_wp2
    refine bodyPost_ret (v := .tuple #[.agg #[.int .i64 0, .int .i64 0, .int .i64 0], .bool false]) (by simp [results, Tryz.results138, go_sem]) rfl ⟨by rw [E.out], ?_⟩
    exact below_set3 (below_drewN (((Below.refl w.heap.size w).alloc (by simp) _).alloc (by simp) _ |>.alloc (by simp; try omega) _) _) (by omega) _ _ _
  · have g : (a * b' - a' * b == 0) = false := by simpa using hz
    by_cases hn : a * b' - a' * b < 0
    · have g2 : decide (a * b' - a' * b < 0) = true := by simpa using hn
      have E := Lib.hid (E0.trans (if_neg hz))
      have EE := Lib.hid (EC.trans (if_pos hn))
      clear hz E0 EC hn
      go_enter Tryz.func138, Tryz.ntmps138
      go_wp2
      go_quiet (fail)
      clear s1 s2 s3 s4 s5 s6
      go_wp2
      refine bodyPost_ret (v := .tuple #[.agg #[.int .i64 (-(c * b' - e * b)), .int .i64 (-(a * e - a' * c)), .int .i64 (-(a * b' - a' * b))], .bool true]) (by simp [results, Tryz.results138, go_sem]) rfl ⟨by rw [E.out, EE.out], ?_⟩
      exact below_set3 (below_drewN (((Below.refl w.heap.size w).alloc (by simp) _).alloc (by simp) _ |>.alloc (by simp; try omega) _) _) (by omega) _ _ _
    · have g2 : decide (a * b' - a' * b < 0) = false := by simpa using hn
      have E := Lib.hid (E0.trans (if_neg hz))
      have EE := Lib.hid (EC.trans (if_neg hn))
      clear hz E0 EC hn
      go_enter Tryz.func138, Tryz.ntmps138
      go_wp2
      go_quiet (fail)
      clear s1 s2 s3 s4 s5 s6
      go_wp2
      refine bodyPost_ret (v := .tuple #[.agg #[.int .i64 (c * b' - e * b), .int .i64 (a * e - a' * c), .int .i64 (a * b' - a' * b)], .bool true]) (by simp [results, Tryz.results138, go_sem]) rfl ⟨by rw [E.out, EE.out], ?_⟩
      exact below_set3 (below_drewN (((Below.refl w.heap.size w).alloc (by simp) _).alloc (by simp) _ |>.alloc (by simp; try omega) _) _) (by omega) _ _ _
end Go.Proofs.YtajmjkliblippaaGreatDoor.S44
namespace Go.Proofs.YtajmjkliblippaaGreatDoor.S44
set_option linter.unusedVariables false
open Go.RowKit
def inB (p : Cr) (m : Ms) : Bool := decide (absI (gI m p.x p.y p.d) ≤ m.d * p.d)
def holdsB (l : List Ms) (p : Cr) : Bool := l.all (inB p)
def HoldR (l : List Ms) (p : Cr) (w : World) (v : Value) (wr : World) : Prop := ∃ k : Nat, v = .int .i64 k ∧ k ≤ l.length ∧ Hid (∀ i, i < k → inB p (nth l i) = true) ∧ Below w.heap.size w wr
set_option maxHeartbeats 2000000 in
theorem holds_some (l : List Ms) (p : Cr) (b o cap : Nat) (w : World) (h : MsAt l b o w) (hc : l.length ≤ cap) (hm : cap ≤ 9223372036854775807) (he : ∀ m ∈ l, EdM m) (hp : SmP p) :
    Calls Tryz.prog 139 #[.slice (some ⟨b, o, none⟩) l.length cap, .agg #[.int .i64 p.x, .int .i64 p.y, .int .i64 p.d]] w fun e w' => e = .returned (.bool (holdsB l p)) ∧ Below w.heap.size w w' := by
  have H := Lib.hid h
  have hlt := h.lt
  have HE := Lib.hid he
  have HP := Lib.hid hp
  clear h he hp
  go_enter Tryz.func139, Tryz.ntmps139
  go_wp2
  generalize hw0 : w.alloc (.cells #[.int .i64 p.x, .int .i64 p.y, .int .i64 p.d] 155) = w0 at *
  have y0 : w0.cell? ⟨w.heap.size, 0, none⟩ = some (.int .i64 p.x) := by rw [← hw0, World.cell?_alloc_at _ _ _ _ rfl]; rfl
  have y1 : w0.cell? ⟨w.heap.size, 1, none⟩ = some (.int .i64 p.y) := by rw [← hw0, World.cell?_alloc_at _ _ _ _ rfl]; rfl
  have y2 : w0.cell? ⟨w.heap.size, 2, none⟩ = some (.int .i64 p.d) := by rw [← hw0, World.cell?_alloc_at _ _ _ _ rfl]; rfl
  have hs0 : w.heap.size < w0.heap.size := by rw [← hw0]; simp
  have hb0 : Below w.heap.size w w0 := by rw [← hw0]; exact (Below.refl _ _).alloc (Nat.le_refl _) _
  have Y0 := Lib.hid y0
  have Y1 := Lib.hid y1
  have Y2 := Lib.hid y2
  have HB0 := Lib.hid hb0
  clear hw0 y0 y1 y2 hb0
  go_loopw [9] (HoldR l p w0) (fun i _ => l.length - (intOf i).toNat)
  case atStart => exact ⟨0, rfl, Nat.zero_le _, Lib.hid fun i hi => absurd hi (by omega), Below.refl _ _⟩
  case round =>
    obtain ⟨k, rfl, hk, hok, hbr⟩ := hrel
    have HB := Lib.hid hbr
    by_cases q : k < l.length
    · have q' : decide (k < l.length) = true := by simpa using q
      have M := H.out.keep (HB0.out.trans (hbr.mono HB0.out.size)) hlt
      have x0 := (hbr.cell (p := ⟨w.heap.size, 0, none⟩) hs0).trans Y0.out
      have x1 := (hbr.cell (p := ⟨w.heap.size, 1, none⟩) hs0).trans Y1.out
      have x2 := (hbr.cell (p := ⟨w.heap.size, 2, none⟩) hs0).trans Y2.out
      have hsr : w.heap.size < wr.heap.size := Nat.lt_of_lt_of_le hs0 hbr.size
      have c0 := M.c0 k q
      have c1 := M.c1 k q
      have c2 := M.c2 k q
      have c3 := M.c3 k q
      have c4 := M.c4 k q
      have c5 := M.c5 k q
      have ed := HE.out _ (nth_mem q)
      have hp := HP.out
      have EV := Lib.hid (show inB p (nth l k) = decide (absI ((nth l k).a * p.x + (nth l k).b * p.y - (nth l k).z * p.d) ≤ (nth l k).d * p.d) from rfl)
      have MEM := Lib.hid (nth_mem q)
      clear M hbr
      obtain ⟨p10, p11⟩ := mul_abs (X := 256) (Y := 6597069766656) ed.a0 ed.a1 hp.x0 hp.x1
      obtain ⟨p20, p21⟩ := mul_abs (X := 256) (Y := 6597069766656) ed.b0 ed.b1 hp.y0 hp.y1
      have d0 := hp.d0
      have d1 := hp.d1
      obtain ⟨p30, p31⟩ := mul_abs (X := 4294967296) (Y := 131072) ed.z0 ed.z1 (by omega) d1
      have dd0 := ed.d0
      have dd1 := ed.d1
      obtain ⟨p40, p41⟩ := mul_abs (X := 8589934592) (Y := 131072) (x := (nth l k).d) (by omega) dd1 (by omega) d1
      clear ed hp
      generalize hN : nth l k = m at *
      have HN := Lib.hid hN
      clear hN
      obtain ⟨ms, ma, mb, mz, md, mw⟩ := m
      obtain ⟨px, py, pd⟩ := p
      simp only at *
      have s1 : IntKind.i64.wrap (ma * px) = ma * px := IntWalk.i64_in _ (by omega)
      have s2 : IntKind.i64.wrap (mb * py) = mb * py := IntWalk.i64_in _ (by omega)
      have s3 : IntKind.i64.wrap (mz * pd) = mz * pd := IntWalk.i64_in _ (by omega)
      have s4 : IntKind.i64.wrap (md * pd) = md * pd := IntWalk.i64_in _ (by omega)
      have s5 : IntKind.i64.wrap (ma * px + mb * py) = ma * px + mb * py := IntWalk.i64_in _ (by omega)
      have s6 : IntKind.i64.wrap (ma * px + mb * py - mz * pd) = ma * px + mb * py - mz * pd := IntWalk.i64_in _ (by omega)
      have AB := Lib.hid fun w => abs_any (ma * px + mb * py - mz * pd) w (by omega) (by omega)
      generalize absI (ma * px + mb * py - mz * pd) = v at *
      by_cases hv : v ≤ md * pd
      · have g : decide (md * pd < v) = false := by simp; omega
        have EE := Lib.hid (EV.out.trans (decide_eq_true hv))
        clear hv
        go_wp2_with fail
        go_quiet ((go_at_call 86; first | exact quiet_left (AB.out _) | exact quiet_add_left (AB.out _)))
        clear s1 s2 s3 s4 s5 s6
        go_wp2
        go_roundw
        case rel =>
          refine ⟨k + 1, by go_num, by omega, Lib.hid fun i hi => ?_, HB.out.trans ((below_drewN ((Below.refl _ _).alloc (Nat.le_refl _) _) _).mono HB.out.size)⟩
          by_cases e : i = k
          · rw [e, HN.out]; exact EE.out
          · exact hok.out i (by omega)
        case measure => simp [intOf]; omega
      · have g : decide (md * pd < v) = true := by simp; omega
        have EE := Lib.hid (EV.out.trans (decide_eq_false hv))
        clear hv
        go_wp2_with fail
        go_quiet ((go_at_call 86; first | exact quiet_left (AB.out _) | exact quiet_add_left (AB.out _)))
        clear s1 s2 s3 s4 s5 s6
        go_wp2
        go_ret
        refine ⟨ret_b ?_, HB0.out.trans ((HB.out.trans ((below_drewN ((Below.refl _ _).alloc (Nat.le_refl _) _) _).mono HB.out.size)).mono HB0.out.size)⟩
        cases hx : holdsB l ⟨px, py, pd⟩
        · rfl
        · unfold holdsB at hx
          have := List.all_eq_true.1 hx _ MEM.out
          rw [EE.out] at this
          cases this
    · go_wp2
      go_ret
      refine ⟨ret_b ?_, HB0.out.trans (HB.out.mono HB0.out.size)⟩
      symm
      unfold holdsB
      refine List.all_eq_true.2 fun m hm => ?_
      obtain ⟨i, hi, rfl⟩ := List.getElem_of_mem hm
      rw [← nth_eq hi]
      exact hok.out i (by omega)
theorem holds_nil (p : Cr) (w : World) :
    Calls Tryz.prog 139 #[.slice none 0 0, .agg #[.int .i64 p.x, .int .i64 p.y, .int .i64 p.d]] w fun e w' => e = .returned (.bool true) ∧ Below w.heap.size w w' := by
  go_enter Tryz.func139, Tryz.ntmps139
  go_wp2
  go_loop [9] (fun v => v = .int .i64 0) (fun _ => 0)
  case atStart => rfl
  case round =>
    subst hrel
    go_wp2
    go_ret
    exact ⟨rfl, (Below.refl _ _).alloc (Nat.le_refl _) _⟩
theorem holds_any (l : List Ms) (p : Cr) (v : Value) (w : World) (h : LstAt l v w) (he : ∀ m ∈ l, EdM m) (hp : SmP p) :
    Calls Tryz.prog 139 #[v, .agg #[.int .i64 p.x, .int .i64 p.y, .int .i64 p.d]] w fun e w' => e = .returned (.bool (holdsB l p)) ∧ Below w.heap.size w w' := by
  rcases h with ⟨rfl, rfl⟩ | ⟨b, o, cap, rfl, h2, h3, h4⟩
  · exact holds_nil p w
  · exact holds_some l p b o cap w h4 h2 h3 he hp
end Go.Proofs.YtajmjkliblippaaGreatDoor.S44
namespace Go.Proofs.YtajmjkliblippaaGreatDoor.S44
set_option linter.unusedVariables false
open Go.RowKit
def pairsUpto (l : List Ms) (i : Nat) : List (Ms × Ms) := (List.range i).flatMap fun k => (l.take k).map fun n => (nth l k, n)
def pairsAt (l : List Ms) (i j : Nat) : List (Ms × Ms) := pairsUpto l i ++ (l.take j).map fun n => (nth l i, n)
def pairsL (l : List Ms) : List (Ms × Ms) := pairsUpto l l.length
theorem pairsAt_zero (l : List Ms) (i : Nat) : pairsAt l i 0 = pairsUpto l i := by unfold pairsAt; simp
theorem pairsAt_full (l : List Ms) (i : Nat) : pairsAt l i i = pairsUpto l (i + 1) := by
  unfold pairsAt pairsUpto
  rw [List.range_succ, List.flatMap_append]
  simp
theorem pairsAt_succ {l : List Ms} {i j : Nat} (h : j < l.length) : pairsAt l i (j + 1) = pairsAt l i j ++ [(nth l i, nth l j)] := by
  unfold pairsAt
  rw [take_nth h, List.map_append, ← List.append_assoc]
  rfl
theorem pairsUpto_len (l : List Ms) (i : Nat) : (pairsUpto l i).length ≤ i * l.length := by
  induction i with
  | zero => simp [pairsUpto]
  | succ i ih =>
    rw [← pairsAt_full]
    unfold pairsAt
    rw [List.length_append, List.length_map, List.length_take, Nat.succ_mul]
    omega
theorem pairsAt_len {l : List Ms} {i j : Nat} (hl : l.length ≤ 17) (hi : i < l.length) : (pairsAt l i j).length ≤ 306 := by
  unfold pairsAt
  rw [List.length_append, List.length_map, List.length_take]
  have := pairsUpto_len l i
  have h2 : i * l.length ≤ 17 * 17 := Nat.mul_le_mul (by omega) hl
  omega
/-- what was there and is not owned is as it was -/
structure KeepX (Own : World → Nat → Prop) (W w' : World) : Prop where
  size : W.heap.size ≤ w'.heap.size
  keep : ∀ k, k < W.heap.size → ¬ Own W k → w'.heap[k]? = W.heap[k]? ∧ ¬ Own w' k
/-- what a closure is called with: an invariant of pairs and world -/
structure InvX (l : List Ms) (b o : Nat) (Inv : List (Ms × Ms) → World → Prop) (Own : World → Nat → Prop) : Prop where
  at' : ∀ acc W, Inv acc W → MsAt l b o W
  alloc : ∀ acc W ob, Inv acc W → Inv acc (W.alloc ob) ∧ ¬ Own (W.alloc ob) W.heap.size ∧ ∀ k, k < W.heap.size → ¬ Own W k → ¬ Own (W.alloc ob) k
/-- a measurement's copy in a block of its own -/
structure CopyAt (m : Ms) (bm : Nat) (W : World) : Prop where
  lt : bm < W.heap.size
  c0 : W.cell? ⟨bm, 0, none⟩ = some (.int .i64 m.s)
  c1 : W.cell? ⟨bm, 1, none⟩ = some (.int .i64 m.a)
  c2 : W.cell? ⟨bm, 2, none⟩ = some (.int .i64 m.b)
  c3 : W.cell? ⟨bm, 3, none⟩ = some (.int .i64 m.z)
  c4 : W.cell? ⟨bm, 4, none⟩ = some (.int .i64 m.d)
  c5 : W.cell? ⟨bm, 5, none⟩ = some (.int .i64 m.w)
theorem copy_new (m : Ms) (w : World) (t : TypeId) : CopyAt m w.heap.size (w.alloc (.cells #[.int .i64 m.s, .int .i64 m.a, .int .i64 m.b, .int .i64 m.z, .int .i64 m.d, .int .i64 m.w] t)) :=
  ⟨by simp, by rw [World.cell?_alloc_at _ _ _ _ rfl]; rfl, by rw [World.cell?_alloc_at _ _ _ _ rfl]; rfl, by rw [World.cell?_alloc_at _ _ _ _ rfl]; rfl, by rw [World.cell?_alloc_at _ _ _ _ rfl]; rfl, by rw [World.cell?_alloc_at _ _ _ _ rfl]; rfl, by rw [World.cell?_alloc_at _ _ _ _ rfl]; rfl⟩
theorem CopyAt.same {m : Ms} {bm : Nat} {W w' : World} (h : CopyAt m bm W) (hk : w'.heap[bm]? = W.heap[bm]?) (hs : W.heap.size ≤ w'.heap.size) : CopyAt m bm w' :=
  ⟨Nat.lt_of_lt_of_le h.lt hs, (World.cell?_of_block (w := W) (a := ⟨bm, 0, none⟩) hk).trans h.c0, (World.cell?_of_block (w := W) (a := ⟨bm, 1, none⟩) hk).trans h.c1, (World.cell?_of_block (w := W) (a := ⟨bm, 2, none⟩) hk).trans h.c2, (World.cell?_of_block (w := W) (a := ⟨bm, 3, none⟩) hk).trans h.c3, (World.cell?_of_block (w := W) (a := ⟨bm, 4, none⟩) hk).trans h.c4, (World.cell?_of_block (w := W) (a := ⟨bm, 5, none⟩) hk).trans h.c5⟩
theorem CopyAt.below {m : Ms} {bm : Nat} {W w' : World} (h : CopyAt m bm W) (hb : Below W.heap.size W w') : CopyAt m bm w' := h.same (hb.block bm h.lt) hb.size
def R1full (l : List Ms) (Inv : List (Ms × Ms) → World → Prop) (v : Value) (W : World) : Prop := ∃ i : Nat, v = .int .i64 i ∧ i ≤ l.length ∧ Hid (Inv (pairsUpto l i) W)
def R2full (l : List Ms) (Inv : List (Ms × Ms) → World → Prop) (Own : World → Nat → Prop) (i bm : Nat) (v : Value) (W : World) : Prop := ∃ j : Nat, v = .int .i64 j ∧ j ≤ i ∧ Hid (Inv (pairsAt l i j) W) ∧ Hid (CopyAt (nth l i) bm W) ∧ Hid (¬ Own W bm)
set_option maxHeartbeats 4000000 in
theorem pairs_full (l : List Ms) (b o cap : Nat) (w0 : World) (a0 : Addr) (Inv : List (Ms × Ms) → World → Prop) (Own : World → Nat → Prop) (hl : l.length ≤ 17) (hc : l.length ≤ cap) (hm : cap ≤ 9223372036854775807)
    (hX : InvX l b o Inv Own) (h0 : Inv [] w0)
    (hstep : ∀ acc m n W, m ∈ l → n ∈ l → acc.length ≤ 306 → Inv acc W → Calls Tryz.prog 133 #[.agg #[.int .i64 m.s, .int .i64 m.a, .int .i64 m.b, .int .i64 m.z, .int .i64 m.d, .int .i64 m.w], .agg #[.int .i64 n.s, .int .i64 n.a, .int .i64 n.b, .int .i64 n.z, .int .i64 n.d, .int .i64 n.w], .pointer (some a0)] W
      fun e w' => e = .returned (.tuple #[]) ∧ Inv (acc ++ [(m, n)]) w' ∧ KeepX Own W w') :
    Calls Tryz.prog 132 #[.slice (some ⟨b, o, none⟩) l.length cap, .func (.func 133) #[] #[.pointer (some a0)]] w0 fun e w' => e = .returned (.tuple #[]) ∧ Inv (pairsL l) w' := by
  have HX := Lib.hid hX
  have HS := Lib.hid hstep
  have H0 := Lib.hid h0
  clear hX hstep h0
  go_enter Tryz.func132, Tryz.ntmps132
  go_wp2
  go_loopw [10] (R1full l Inv) (fun i _ => l.length - (intOf i).toNat)
  case atStart => exact ⟨0, rfl, Nat.zero_le _, H0⟩
  case round =>
    obtain ⟨i, rfl, hi, HI⟩ := hrel
    by_cases q : i < l.length
    · have q' : decide (i < l.length) = true := by simpa using q
      have M := HX.out.at' _ _ HI.out
      have c0 := M.c0 i q
      have c1 := M.c1 i q
      have c2 := M.c2 i q
      have c3 := M.c3 i q
      have c4 := M.c4 i q
      have c5 := M.c5 i q
      have AL := Lib.hid (HX.out.alloc _ _ (.cells #[.int .i64 (nth l i).s, .int .i64 (nth l i).a, .int .i64 (nth l i).b, .int .i64 (nth l i).z, .int .i64 (nth l i).d, .int .i64 (nth l i).w] 71) HI.out)
      have CO := Lib.hid (copy_new (nth l i) wr 71)
      have MI := Lib.hid (nth_mem q)
      have LE := Lib.hid fun j => pairsAt_len (l := l) (i := i) (j := j) hl q
      have hic : i ≤ cap := by omega
      clear M HI
      go_wp2_with fail
      generalize hbm : wr.heap.size = bm at *
      generalize hwo : wr.alloc (.cells #[.int .i64 (nth l i).s, .int .i64 (nth l i).a, .int .i64 (nth l i).b, .int .i64 (nth l i).z, .int .i64 (nth l i).d, .int .i64 (nth l i).w] 71) = wo at *
      have HBM := Lib.hid hbm
      clear hbm hwo c0 c1 c2 c3 c4 c5
      go_loopw [19] (R2full l Inv Own i bm) (fun j _ => i - (intOf j).toNat)
      case atStart => exact ⟨0, rfl, Nat.zero_le _, by rw [pairsAt_zero]; exact AL.out.1, CO, AL.out.2.1⟩
      case round =>
        obtain ⟨j, rfl, hj, HI, HC, HN⟩ := hrel
        by_cases r : j < i
        · have r' : decide (j < i) = true := by simpa using r
          have hjl : j < l.length := by omega
          have M := HX.out.at' _ _ HI.out
          have c0 := M.c0 j hjl
          have c1 := M.c1 j hjl
          have c2 := M.c2 j hjl
          have c3 := M.c3 j hjl
          have c4 := M.c4 j hjl
          have c5 := M.c5 j hjl
          have hc := HC.out
          have x0 := hc.c0
          have x1 := hc.c1
          have x2 := hc.c2
          have x3 := hc.c3
          have x4 := hc.c4
          have x5 := hc.c5
          have hbl := hc.lt
          have AL2 := Lib.hid (HX.out.alloc _ _ (.cells #[.int .i64 (nth l j).s, .int .i64 (nth l j).a, .int .i64 (nth l j).b, .int .i64 (nth l j).z, .int .i64 (nth l j).d, .int .i64 (nth l j).w] 71) HI.out)
          have ST := Lib.hid (HS.out (pairsAt l i j) (nth l i) (nth l j) _ MI.out (nth_mem hjl) (LE.out j) AL2.out.1)
          have PS := Lib.hid (pairsAt_succ (l := l) (i := i) hjl)
          clear M HI hc
          go_wp2_with (go_at_call 133; refine ST.out.mono ?_; rintro e w2 ⟨rfl, hi2, hk2⟩)
          go_roundw
          case rel =>
            have hn2 := AL2.out.2.2 bm hbl HN.out
            have hlt2 : bm < (wr.alloc (.cells #[.int .i64 (nth l j).s, .int .i64 (nth l j).a, .int .i64 (nth l j).b, .int .i64 (nth l j).z, .int .i64 (nth l j).d, .int .i64 (nth l j).w] 71)).heap.size := by simp; omega
            have hk := hk2.keep bm hlt2 hn2
            exact ⟨j + 1, by go_num, by omega, by rw [PS.out]; exact hi2, (HC.out.below ((Below.refl _ _).alloc (Nat.le_refl _) _)).same hk.1 hk2.size, hk.2⟩
          case measure => simp [intOf]; omega
        · obtain rfl : j = i := by omega
          have PF := Lib.hid (pairsAt_full l j)
          go_wp2
          go_roundw
          case rel => exact ⟨j + 1, by go_num, by omega, by rw [← PF.out]; exact HI⟩
          case measure => simp [intOf]; omega
    · obtain rfl : i = l.length := by omega
      go_wp2
      go_end0
      exact ⟨rfl, HI.out⟩
def R1cor (l : List Ms) (Inv : List (Ms × Ms) → World → Prop) (v : Value) (W : World) : Prop := ∃ i : Nat, v = .int .i64 i ∧ i ≤ l.length ∧ Hid (Inv (pairsUpto l i) W)
def R2cor (l : List Ms) (Inv : List (Ms × Ms) → World → Prop) (Own : World → Nat → Prop) (i bm : Nat) (v : Value) (W : World) : Prop := ∃ j : Nat, v = .int .i64 j ∧ j ≤ i ∧ Hid (Inv (pairsAt l i j) W) ∧ Hid (CopyAt (nth l i) bm W) ∧ Hid (¬ Own W bm)
set_option maxHeartbeats 4000000 in
theorem pairs_cor (l : List Ms) (b o cap : Nat) (w0 : World) (a0 a1 : Addr) (Inv : List (Ms × Ms) → World → Prop) (Own : World → Nat → Prop) (hl : l.length ≤ 17) (hc : l.length ≤ cap) (hm : cap ≤ 9223372036854775807)
    (hX : InvX l b o Inv Own) (h0 : Inv [] w0)
    (hstep : ∀ acc m n W, m ∈ l → n ∈ l → acc.length ≤ 306 → Inv acc W → Calls Tryz.prog 136 #[.agg #[.int .i64 m.s, .int .i64 m.a, .int .i64 m.b, .int .i64 m.z, .int .i64 m.d, .int .i64 m.w], .agg #[.int .i64 n.s, .int .i64 n.a, .int .i64 n.b, .int .i64 n.z, .int .i64 n.d, .int .i64 n.w], .pointer (some a0), .pointer (some a1)] W
      fun e w' => e = .returned (.tuple #[]) ∧ Inv (acc ++ [(m, n)]) w' ∧ KeepX Own W w') :
    Calls Tryz.prog 132 #[.slice (some ⟨b, o, none⟩) l.length cap, .func (.func 136) #[] #[.pointer (some a0), .pointer (some a1)]] w0 fun e w' => e = .returned (.tuple #[]) ∧ Inv (pairsL l) w' := by
  have HX := Lib.hid hX
  have HS := Lib.hid hstep
  have H0 := Lib.hid h0
  clear hX hstep h0
  go_enter Tryz.func132, Tryz.ntmps132
  go_wp2
  go_loopw [10] (R1cor l Inv) (fun i _ => l.length - (intOf i).toNat)
  case atStart => exact ⟨0, rfl, Nat.zero_le _, H0⟩
  case round =>
    obtain ⟨i, rfl, hi, HI⟩ := hrel
    by_cases q : i < l.length
    · have q' : decide (i < l.length) = true := by simpa using q
      have M := HX.out.at' _ _ HI.out
      have c0 := M.c0 i q
      have c1 := M.c1 i q
      have c2 := M.c2 i q
      have c3 := M.c3 i q
      have c4 := M.c4 i q
      have c5 := M.c5 i q
      have AL := Lib.hid (HX.out.alloc _ _ (.cells #[.int .i64 (nth l i).s, .int .i64 (nth l i).a, .int .i64 (nth l i).b, .int .i64 (nth l i).z, .int .i64 (nth l i).d, .int .i64 (nth l i).w] 71) HI.out)
      have CO := Lib.hid (copy_new (nth l i) wr 71)
      have MI := Lib.hid (nth_mem q)
      have LE := Lib.hid fun j => pairsAt_len (l := l) (i := i) (j := j) hl q
      have hic : i ≤ cap := by omega
      clear M HI
      go_wp2_with fail
      generalize hbm : wr.heap.size = bm at *
      generalize hwo : wr.alloc (.cells #[.int .i64 (nth l i).s, .int .i64 (nth l i).a, .int .i64 (nth l i).b, .int .i64 (nth l i).z, .int .i64 (nth l i).d, .int .i64 (nth l i).w] 71) = wo at *
      have HBM := Lib.hid hbm
      clear hbm hwo c0 c1 c2 c3 c4 c5
      go_loopw [19] (R2cor l Inv Own i bm) (fun j _ => i - (intOf j).toNat)
      case atStart => exact ⟨0, rfl, Nat.zero_le _, by rw [pairsAt_zero]; exact AL.out.1, CO, AL.out.2.1⟩
      case round =>
        obtain ⟨j, rfl, hj, HI, HC, HN⟩ := hrel
        by_cases r : j < i
        · have r' : decide (j < i) = true := by simpa using r
          have hjl : j < l.length := by omega
          have M := HX.out.at' _ _ HI.out
          have c0 := M.c0 j hjl
          have c1 := M.c1 j hjl
          have c2 := M.c2 j hjl
          have c3 := M.c3 j hjl
          have c4 := M.c4 j hjl
          have c5 := M.c5 j hjl
          have hc := HC.out
          have x0 := hc.c0
          have x1 := hc.c1
          have x2 := hc.c2
          have x3 := hc.c3
          have x4 := hc.c4
          have x5 := hc.c5
          have hbl := hc.lt
          have AL2 := Lib.hid (HX.out.alloc _ _ (.cells #[.int .i64 (nth l j).s, .int .i64 (nth l j).a, .int .i64 (nth l j).b, .int .i64 (nth l j).z, .int .i64 (nth l j).d, .int .i64 (nth l j).w] 71) HI.out)
          have ST := Lib.hid (HS.out (pairsAt l i j) (nth l i) (nth l j) _ MI.out (nth_mem hjl) (LE.out j) AL2.out.1)
          have PS := Lib.hid (pairsAt_succ (l := l) (i := i) hjl)
          clear M HI hc
          go_wp2_with (go_at_call 136; refine ST.out.mono ?_; rintro e w2 ⟨rfl, hi2, hk2⟩)
          go_roundw
          case rel =>
            have hn2 := AL2.out.2.2 bm hbl HN.out
            have hlt2 : bm < (wr.alloc (.cells #[.int .i64 (nth l j).s, .int .i64 (nth l j).a, .int .i64 (nth l j).b, .int .i64 (nth l j).z, .int .i64 (nth l j).d, .int .i64 (nth l j).w] 71)).heap.size := by simp; omega
            have hk := hk2.keep bm hlt2 hn2
            exact ⟨j + 1, by go_num, by omega, by rw [PS.out]; exact hi2, (HC.out.below ((Below.refl _ _).alloc (Nat.le_refl _) _)).same hk.1 hk2.size, hk.2⟩
          case measure => simp [intOf]; omega
        · obtain rfl : j = i := by omega
          have PF := Lib.hid (pairsAt_full l j)
          go_wp2
          go_roundw
          case rel => exact ⟨j + 1, by go_num, by omega, by rw [← PF.out]; exact HI⟩
          case measure => simp [intOf]; omega
    · obtain rfl : i = l.length := by omega
      go_wp2
      go_end0
      exact ⟨rfl, HI.out⟩
end Go.Proofs.YtajmjkliblippaaGreatDoor.S44
namespace Go.Proofs.YtajmjkliblippaaGreatDoor.S44
set_option linter.unusedVariables false
open Go.RowKit
def crossB (p : Ms × Ms) : Bool := p.1.a * p.2.b != p.2.a * p.1.b
def fullB (l : List Ms) : Bool := (pairsL l).any crossB
/-- the closure's world: the flag in block bf -/
structure FulI (w : World) (bf : Nat) (f : Bool) (W : World) : Prop where
  below : Below w.heap.size w W
  le : w.heap.size ≤ bf
  lt : bf < W.heap.size
  cell : W.cell? ⟨bf, 0, none⟩ = some (.bool f)
  frz : W.frozen? ⟨bf, 0, none⟩ = false
theorem FulI.alloc {w : World} {bf : Nat} {f : Bool} {W : World} (h : FulI w bf f W) (o : Obj) : FulI w bf f (W.alloc o) := by
  have hb := (Below.refl W.heap.size W).alloc (Nat.le_refl _) o
  have hl := h.lt
  exact ⟨h.below.alloc h.below.size o, h.le, by simp; omega, (hb.cell (p := ⟨bf, 0, none⟩) hl).trans h.cell, (hb.frozen (p := ⟨bf, 0, none⟩) hl).trans h.frz⟩
theorem FulI.store {w : World} {bf : Nat} {f : Bool} {W : World} (h : FulI w bf f W) (g : Bool) : FulI w bf g (W.setCell ⟨bf, 0, none⟩ (.bool g)) :=
  ⟨h.below.setCell (p := ⟨bf, 0, none⟩) h.le _, h.le, by have := h.lt; simpa [World.setCell] using this, World.cell?_setCell_same' W _ _ (by rw [h.cell]; rfl), by rw [World.frozen?_setCell]; exact h.frz⟩
theorem keepx_store (bf : Nat) (W : World) (o1 o2 : Obj) (v : Value) : KeepX (fun _ k => k = bf) W (((W.setCell ⟨bf, 0, none⟩ v).alloc o1).alloc o2) := by
  have hs : (W.setCell ⟨bf, 0, none⟩ v).heap.size = W.heap.size := by simp [World.setCell]
  exact ⟨by rw [World.size_alloc, World.size_alloc, hs]; omega, fun k hk hn => ⟨by
    rw [Below.heap_alloc _ _ _ (by rw [World.size_alloc, hs]; omega), Below.heap_alloc _ _ _ (by rw [hs]; exact hk), Below.heap_setCell _ _ _ _ (by simpa using hn)], hn⟩⟩
set_option maxHeartbeats 1000000 in
theorem full_fn (m n : Ms) (w W : World) (bf : Nat) (f : Bool) (h : FulI w bf f W) (hm : EdM m) (hn : EdM n) :
    Calls Tryz.prog 133 #[.agg #[.int .i64 m.s, .int .i64 m.a, .int .i64 m.b, .int .i64 m.z, .int .i64 m.d, .int .i64 m.w], .agg #[.int .i64 n.s, .int .i64 n.a, .int .i64 n.b, .int .i64 n.z, .int .i64 n.d, .int .i64 n.w], .pointer (some ⟨bf, 0, none⟩)] W
      fun e w' => e = .returned (.tuple #[]) ∧ FulI w bf (f || crossB (m, n)) w' ∧ KeepX (fun _ k => k = bf) W w' := by
  obtain ⟨p10, p11⟩ := mul_abs (X := 256) (Y := 256) hm.a0 hm.a1 hn.b0 hn.b1
  obtain ⟨p20, p21⟩ := mul_abs (X := 256) (Y := 256) hn.a0 hn.a1 hm.b0 hm.b1
  have EB : crossB (m, n) = (m.a * n.b != n.a * m.b) := rfl
  have I2 := Lib.hid fun o1 o2 => (h.alloc o1).alloc o2
  have HX := Lib.hid h
  have kc := fun o1 o2 => ((h.alloc o1).alloc o2).cell
  have kf := fun o1 o2 => ((h.alloc o1).alloc o2).frz
  have hl := h.lt
  clear hm hn h
  generalize crossB (m, n) = g at *
  obtain ⟨ms, a, b, mz, md, mw⟩ := m
  obtain ⟨ns, a', b', nz, nd, nw⟩ := n
  simp only at p10 p11 p20 p21 EB ⊢
  cases f with
  | true =>
    clear EB
    go_enter Tryz.func133, Tryz.ntmps133
    go_wp2
    go_end0
    exact ⟨rfl, ((HX.out.store _).alloc _).alloc _, keepx_store _ _ _ _ _⟩
  | false =>
    have E := EB.symm
    clear EB
    go_enter Tryz.func133, Tryz.ntmps133
    go_wp2
    go_end0
    exact ⟨rfl, ((HX.out.store _).alloc _).alloc _, keepx_store _ _ _ _ _⟩
theorem full_some (l : List Ms) (b o cap : Nat) (w : World) (h : MsAt l b o w) (hc : l.length ≤ cap) (hm : cap ≤ 9223372036854775807) (he : ∀ m ∈ l, EdM m) (hl : l.length ≤ 17) :
    Calls Tryz.prog 93 #[.slice (some ⟨b, o, none⟩) l.length cap] w fun e w' => e = .returned (.bool (fullB l)) ∧ Below w.heap.size w w' := by
  have HP := Lib.hid fun W1 (h0 : FulI w w.heap.size false W1) => pairs_full l b o cap W1 ⟨w.heap.size, 0, none⟩ (fun acc W => FulI w w.heap.size (acc.any crossB) W) (fun _ k => k = w.heap.size) hl hc hm
    ⟨fun acc W hi => h.below hi.below, fun acc W ob hi => ⟨hi.alloc ob, by have := hi.lt; show W.heap.size ≠ w.heap.size; omega, fun k _ hn => hn⟩⟩ h0
    (fun acc m n W hm hn _ hi => (full_fn m n w W w.heap.size _ hi (he m hm) (he n hn)).mono fun e w' ⟨h1, h2, h3⟩ => ⟨h1, by rw [List.any_append]; simpa using h2, h3⟩)
  have H0 := Lib.hid (show ∀ t, FulI w w.heap.size false (w.alloc (.cells #[.bool false] t)) from fun t => ⟨(Below.refl _ _).alloc (Nat.le_refl _) _, Nat.le_refl _, by simp, by rw [World.cell?_alloc_at _ _ _ _ rfl]; rfl, by go_simp⟩)
  have EF := Lib.hid (show fullB l = (pairsL l).any crossB from rfl)
  clear h he
  go_enter Tryz.func93, Tryz.ntmps93
  go_wp2_with (go_at_call 132; refine (HP.out _ (H0.out _)).mono ?_; rintro e w2 ⟨rfl, hi⟩; have hcell := hi.cell; have hbl := Lib.hid hi.below; clear hi)
  go_ret
  exact ⟨ret_b EF.out.symm, hbl.out⟩
theorem pairs_nil (F : FuncId) (cs : Array Value) (w : World) :
    Calls Tryz.prog 132 #[.slice none 0 0, .func (.func F) #[] cs] w fun e w' => e = .returned (.tuple #[]) ∧ w = w' := by
  go_enter Tryz.func132, Tryz.ntmps132
  go_wp2
  go_loop [10] (fun v => v = .int .i64 0) (fun _ => 0)
  case atStart => rfl
  case round =>
    subst hrel
    go_wp2
    go_end0
    exact ⟨rfl, rfl⟩
theorem full_nil (w : World) :
    Calls Tryz.prog 93 #[.slice none 0 0] w fun e w' => e = .returned (.bool false) ∧ Below w.heap.size w w' := by
  go_enter Tryz.func93, Tryz.ntmps93
  go_wp2_with (go_at_call 132; refine (pairs_nil _ _ _).mono ?_; rintro e w2 ⟨rfl, rfl⟩)
  go_ret
  exact ⟨rfl, (Below.refl _ _).alloc (Nat.le_refl _) _⟩
theorem full_any (l : List Ms) (v : Value) (w : World) (h : LstAt l v w) (he : ∀ m ∈ l, EdM m) (hl : l.length ≤ 17) :
    Calls Tryz.prog 93 #[v] w fun e w' => e = .returned (.bool (fullB l)) ∧ Below w.heap.size w w' := by
  rcases h with ⟨rfl, rfl⟩ | ⟨b, o, cap, rfl, h2, h3, h4⟩
  · exact full_nil w
  · exact full_some l b o cap w h4 h2 h3 he hl
end Go.Proofs.YtajmjkliblippaaGreatDoor.S44
namespace Go.Proofs.YtajmjkliblippaaGreatDoor.S44
set_option linter.unusedVariables false
open Go.RowKit
def crC (l : List Cr) : List Value := l.flatMap fun p => [Value.int .i64 p.x, Value.int .i64 p.y, Value.int .i64 p.d]
theorem crC_append (l k : List Cr) : crC (l ++ k) = crC l ++ crC k := by unfold crC; rw [List.flatMap_append]
theorem crC_len (l : List Cr) : (crC l).length = l.length * 3 := by
  unfold crC
  induction l with
  | nil => rfl
  | cons p r ih => simp only [List.flatMap_cons, List.length_append, List.length_cons, List.length_nil, ih]; omega
theorem crC_get : ∀ (l : List Cr) (i : Nat) (h : i < l.length), (crC l)[i * 3]? = some (.int .i64 l[i].x) ∧ (crC l)[i * 3 + 1]? = some (.int .i64 l[i].y) ∧ (crC l)[i * 3 + 2]? = some (.int .i64 l[i].d)
  | [], i, h => absurd h (by simp)
  | p :: l, 0, h => ⟨rfl, rfl, rfl⟩
  | p :: l, i + 1, h => by
    obtain ⟨a, b, c⟩ := crC_get l i (by simpa using h)
    unfold crC at *
    rw [List.flatMap_cons, show (i + 1) * 3 = i * 3 + 3 by omega]
    exact ⟨a, b, c⟩
/-- a slice of the call's own that holds these corners -/
def OC (B : Nat) (w : World) (v : Value) (l : List Cr) : Prop := w.ownsRow B 155 3 v l.length (crC l)
theorem infoCor : (Tryz.prog.info? 155).map (fun i => (i.zero, i.size, i.bytes)) = some (some (.agg #[.int .i64 0, .int .i64 0, .int .i64 0]), 3, 24) := by kernel_rfl
theorem wpList_oc {ops : Array Oper} {rest : List Oper} {o : Oper} {a : Act} {Q : Exit → Act → World → Prop} (hgd : o.guard = none) (s x : Operand)
    (ho : o.op = .call { callee := .builtin .append, args := #[s, x], argTypes := #[108, 108] })
    (B : Nat) (v : Value) (l : List Cr) (hs : a.eval s = v) (w0 : World) (h : OC B w0 v l) (T : TypeId) (p : Cr) (c : Nat)
    (hx : a.eval x = .slice (some ⟨w0.heap.size, 0, none⟩) 1 c) (hl : l.length ≤ 100000) (hB : B ≤ w0.heap.size)
    (H : ∀ v' w', OC B w' v' (l ++ [p]) → (w0.alloc (.cells #[.int .i64 p.x, .int .i64 p.y, .int .i64 p.d] T)).grownBy w' v.ownBlock → (v'.ownBlock = v.ownBlock ∨ v'.ownBlock = some (w0.heap.size + 1)) → wpList Tryz.prog ops Q rest (a.put o.dst v') w') :
    wpList Tryz.prog ops Q (o :: rest) a (w0.alloc (.cells #[.int .i64 p.x, .int .i64 p.y, .int .i64 p.d] T)) := by
  obtain ⟨i0, hi, hz0, hz1, hz2⟩ := info_parts infoCor
  refine wpList_append_own_at _ hgd s x 108 ho B 155 i0 (.agg #[.int .i64 0, .int .i64 0, .int .i64 0]) 3 24 Tryz.underlying108 hi hz0 hz1 hz2 rfl (by decide) v l.length (crC l) hs (World.ownsRow.alloc h _) ⟨w0.heap.size, 0, none⟩ 1 c (crC [p]) hx (by rw [crC_len]; rfl) ?_ ?_ (by unfold maxLen; omega) (by omega) (by simp; omega) ?_
  · intro j u hu
    have hadd : (⟨w0.heap.size, 0, none⟩ : Addr).add j = ⟨w0.heap.size, j, none⟩ := by unfold Addr.add; split <;> simp_all
    rw [hadd, World.cell?_alloc_at _ _ _ _ (by rfl)]
    unfold crC at hu
    simpa using hu
  · intro u hu
    unfold crC at hu
    simp only [List.flatMap_cons, List.flatMap_nil, List.append_nil, List.mem_cons, List.not_mem_nil, or_false] at hu
    rcases hu with rfl | rfl | rfl <;> rfl
  · intro v' w' ho' hg _ hat
    refine H v' w' (by unfold OC; rw [List.length_append, crC_append]; exact ho') hg ?_
    simpa using hat
/-- what is owned: the block of the variable, and that of the slice in it -/
def OwnC (bo : Nat) (W : World) (k : Nat) : Prop := k = bo ∨ ∃ u, W.cell? ⟨bo, 0, none⟩ = some u ∧ u.ownBlock = some k
/-- the closure's world: the list in block bl, the slice in block bo -/
structure CorI (w : World) (bl bo : Nat) (v u : Value) (C : List Cr) (W : World) : Prop where
  below : Below w.heap.size w W
  le : w.heap.size ≤ bo
  lb : bl ≤ bo
  lt : bo < W.heap.size
  lst : W.cell? ⟨bl, 0, none⟩ = some v
  cell : W.cell? ⟨bo, 0, none⟩ = some u
  frz : W.frozen? ⟨bo, 0, none⟩ = false
  own : OC (bo + 1) W u C
theorem CorI.keep {w : World} {bl bo : Nat} {v u : Value} {C : List Cr} {W w' : World} (h : CorI w bl bo v u C W) (hb : Below W.heap.size W w') : CorI w bl bo v u C w' := by
  have hl := h.lt
  refine ⟨h.below.trans (hb.mono h.below.size), h.le, h.lb, Nat.lt_of_lt_of_le hl hb.size, (hb.cell (p := ⟨bl, 0, none⟩) ?_).trans h.lst, (hb.cell (p := ⟨bo, 0, none⟩) hl).trans h.cell, (hb.frozen (p := ⟨bo, 0, none⟩) hl).trans h.frz, ?_⟩
  · have := h.lb
    show bl < W.heap.size
    omega
  · refine World.ownsRow.kept h.own (grown_of_below hb) ?_
    cases u.ownBlock <;> simp
theorem keepx_below {bo : Nat} {W w' : World} (hl : bo < W.heap.size) (hb : Below W.heap.size W w') : KeepX (OwnC bo) W w' :=
  ⟨hb.size, fun k hk hn => ⟨hb.block k hk, fun h => hn (by
    rcases h with h | ⟨u, h1, h2⟩
    · exact .inl h
    · exact .inr ⟨u, by rw [← h1]; exact (hb.cell (p := ⟨bo, 0, none⟩) hl).symm, h2⟩)⟩⟩
theorem KeepX.trans {Own : World → Nat → Prop} {a b c : World} (h : KeepX Own a b) (g : KeepX Own b c) : KeepX Own a c :=
  ⟨Nat.le_trans h.size g.size, fun k hk hn => by
    obtain ⟨h1, h2⟩ := h.keep k hk hn
    obtain ⟨g1, g2⟩ := g.keep k (Nat.lt_of_lt_of_le hk h.size) h2
    exact ⟨g1.trans h1, g2⟩⟩
theorem own_new {w : World} {bl bo : Nat} {v u : Value} {C : List Cr} {W : World} (h : CorI w bl bo v u C W) {k : Nat} (hk : W.heap.size ≤ k) : ¬ OwnC bo W k := by
  rintro (rfl | ⟨x, h1, h2⟩)
  · have := h.lt; omega
  · rw [h.cell] at h1
    obtain rfl := Option.some.inj h1
    have := (World.ownsRow.lt h.own k h2).2
    omega
theorem own_alloc {w : World} {bl bo : Nat} {v u : Value} {C : List Cr} {W : World} (h : CorI w bl bo v u C W) (o : Obj) : ¬ OwnC bo (W.alloc o) W.heap.size := by
  rintro (e | ⟨x, h1, h2⟩)
  · have := h.lt; omega
  · rw [(h.keep ((Below.refl _ _).alloc (Nat.le_refl _) o)).cell] at h1
    obtain rfl := Option.some.inj h1
    have := (World.ownsRow.lt h.own _ h2).2
    omega
/-- one corner appended and stored -/
theorem CorI.push {w : World} {bl bo : Nat} {v u u' : Value} {C : List Cr} {p : Cr} {W w5 : World} {ob : Obj} (h : CorI w bl bo v u C W) (hlb : bl ≠ bo) (hown : OC (bo + 1) w5 u' (C ++ [p])) (hg : (W.alloc ob).grownBy w5 u.ownBlock)
    (hat : u'.ownBlock = u.ownBlock ∨ u'.ownBlock = some (W.heap.size + 1)) :
    CorI w bl bo v u' (C ++ [p]) (w5.setCell ⟨bo, 0, none⟩ u') ∧ KeepX (OwnC bo) W (w5.setCell ⟨bo, 0, none⟩ u') := by
  have hb := (Below.refl W.heap.size W).alloc (Nat.le_refl _) ob
  have h2 := h.keep hb
  have hl := h.lt
  have hlb' := h.lb
  have hr : ∀ k, u.ownBlock = some k → bo + 1 ≤ k := fun k hk => (World.ownsRow.lt h.own k hk).1
  have hs := hg.size
  rw [World.size_alloc] at hs
  have hb5 : Below (bo + 1) (W.alloc ob) w5 := ⟨hg.os, hg.tape, hg.output, hg.size, fun k hk => hg.block k (by rw [World.size_alloc]; omega) (fun e => by have := hr k e.symm; omega)⟩
  have hc5 : w5.cell? ⟨bo, 0, none⟩ = some u := (hb5.cell (p := ⟨bo, 0, none⟩) (Nat.lt_succ_self bo)).trans h2.cell
  have hss : (w5.setCell ⟨bo, 0, none⟩ u').heap.size = w5.heap.size := by simp [World.setCell]
  have hcs : (w5.setCell ⟨bo, 0, none⟩ u').cell? ⟨bo, 0, none⟩ = some u' := World.cell?_setCell_same' w5 _ _ (by rw [hc5]; rfl)
  refine ⟨⟨?_, h.le, h.lb, by rw [hss]; omega, ?_, hcs, ?_, ?_⟩, by rw [hss]; omega, fun k hk hn => ⟨?_, ?_⟩⟩
  · exact (h2.below.trans (hb5.mono (by have := h.le; omega))).setCell (p := ⟨bo, 0, none⟩) h.le _
  · rw [World.cell?_setCell_far _ _ _ _ (show bo ≠ bl by omega)]
    exact (hb5.cell (p := ⟨bl, 0, none⟩) (show bl < bo + 1 by omega)).trans h2.lst
  · rw [World.frozen?_setCell]
    exact (hb5.frozen (p := ⟨bo, 0, none⟩) (Nat.lt_succ_self bo)).trans h2.frz
  · exact ownsRow_setCell_below hown (Nat.lt_succ_self bo) u'
  · have n1 : k ≠ bo := fun e => hn (.inl e)
    have n2 : some k ≠ u.ownBlock := fun e => hn (.inr ⟨u, h.cell, e.symm⟩)
    rw [Below.heap_setCell _ _ _ _ (by simpa using n1), hg.block k (by rw [World.size_alloc]; omega) n2, Below.heap_alloc _ _ _ hk]
  · rintro (e | ⟨x, h1, h3⟩)
    · exact hn (.inl e)
    · rw [hcs] at h1
      obtain rfl := Option.some.inj h1
      rcases hat with e | e
      · exact hn (.inr ⟨u, h.cell, by rw [← e]; exact h3⟩)
      · rw [e] at h3
        have := Option.some.inj h3
        omega
/-! the list -/
def pickC (R : List Ms) (m n : Ms) (s t : Bool) : List Cr := if detM m n = 0 then [] else if holdsB R (crossC m n (edgeC m s) (edgeC n t)) = true then [crossC m n (edgeC m s) (edgeC n t)] else []
def tag2 (i : Nat) : Bool := i == 1
/-- the first of the four corners of two strips -/
def crn (R : List Ms) (m n : Ms) (k : Nat) : List Cr := (List.range k).flatMap fun q => pickC R m n (tag2 (q / 2)) (tag2 (q % 2))
theorem crn_succ (R : List Ms) (m n : Ms) (k : Nat) : crn R m n (k + 1) = crn R m n k ++ pickC R m n (tag2 (k / 2)) (tag2 (k % 2)) := by
  unfold crn
  rw [List.range_succ, List.flatMap_append]
  simp
theorem pick_len (R : List Ms) (m n : Ms) (s t : Bool) : (pickC R m n s t).length ≤ 1 := by
  unfold pickC
  split
  · simp
  · split <;> simp
theorem crn_len (R : List Ms) (m n : Ms) (k : Nat) : (crn R m n k).length ≤ k := by
  induction k with
  | zero => simp [crn]
  | succ k ih =>
    rw [crn_succ, List.length_append]
    have := pick_len R m n (tag2 (k / 2)) (tag2 (k % 2))
    omega
def corP (R : List Ms) (ps : List (Ms × Ms)) : List Cr := ps.flatMap fun p => crn R p.1 p.2 4
def corL (l : List Ms) : List Cr := corP l (pairsL l)
theorem corP_len (R : List Ms) (ps : List (Ms × Ms)) : (corP R ps).length ≤ 4 * ps.length := by
  unfold corP
  induction ps with
  | nil => simp
  | cons p r ih =>
    simp only [List.flatMap_cons, List.length_append, List.length_cons]
    have := crn_len R p.1 p.2 4
    omega
end Go.Proofs.YtajmjkliblippaaGreatDoor.S44
namespace Go.Proofs.YtajmjkliblippaaGreatDoor.S44
set_option linter.unusedVariables false
open Go.RowKit
/-- an edge's copy in a block of its own -/
structure EdgeAt (m : Ms) (c : Int) (be : Nat) (W : World) : Prop where
  lt : be < W.heap.size
  c0 : W.cell? ⟨be, 0, none⟩ = some (.int .i64 m.a)
  c1 : W.cell? ⟨be, 1, none⟩ = some (.int .i64 m.b)
  c2 : W.cell? ⟨be, 2, none⟩ = some (.int .i64 c)
theorem edge_new (m : Ms) (c : Int) (w : World) (t : TypeId) : EdgeAt m c w.heap.size (w.alloc (.cells #[.int .i64 m.a, .int .i64 m.b, .int .i64 c] t)) :=
  ⟨by simp, by rw [World.cell?_alloc_at _ _ _ _ rfl]; rfl, by rw [World.cell?_alloc_at _ _ _ _ rfl]; rfl, by rw [World.cell?_alloc_at _ _ _ _ rfl]; rfl⟩
theorem EdgeAt.same {m : Ms} {c : Int} {be : Nat} {W w' : World} (h : EdgeAt m c be W) (hk : w'.heap[be]? = W.heap[be]?) (hs : W.heap.size ≤ w'.heap.size) : EdgeAt m c be w' :=
  ⟨Nat.lt_of_lt_of_le h.lt hs, (World.cell?_of_block (w := W) (a := ⟨be, 0, none⟩) hk).trans h.c0, (World.cell?_of_block (w := W) (a := ⟨be, 1, none⟩) hk).trans h.c1, (World.cell?_of_block (w := W) (a := ⟨be, 2, none⟩) hk).trans h.c2⟩
theorem EdgeAt.below {m : Ms} {c : Int} {be : Nat} {W w' : World} (h : EdgeAt m c be W) (hb : Below W.heap.size W w') : EdgeAt m c be w' := h.same (hb.block be h.lt) hb.size
structure CrAt (p : Cr) (bp : Nat) (W : World) : Prop where
  lt : bp < W.heap.size
  c0 : W.cell? ⟨bp, 0, none⟩ = some (.int .i64 p.x)
  c1 : W.cell? ⟨bp, 1, none⟩ = some (.int .i64 p.y)
  c2 : W.cell? ⟨bp, 2, none⟩ = some (.int .i64 p.d)
theorem cr_new (p : Cr) (w : World) (t : TypeId) : CrAt p w.heap.size (w.alloc (.cells #[.int .i64 p.x, .int .i64 p.y, .int .i64 p.d] t)) :=
  ⟨by simp, by rw [World.cell?_alloc_at _ _ _ _ rfl]; rfl, by rw [World.cell?_alloc_at _ _ _ _ rfl]; rfl, by rw [World.cell?_alloc_at _ _ _ _ rfl]; rfl⟩
theorem CrAt.below {p : Cr} {be : Nat} {W w' : World} (h : CrAt p be W) (hb : Below W.heap.size W w') : CrAt p be w' :=
  ⟨Nat.lt_of_lt_of_le h.lt hb.size, (hb.cell (p := ⟨be, 0, none⟩) h.lt).trans h.c0, (hb.cell (p := ⟨be, 1, none⟩) h.lt).trans h.c1, (hb.cell (p := ⟨be, 2, none⟩) h.lt).trans h.c2⟩
theorem own_below {bo : Nat} {W w' : World} {k : Nat} (hl : bo < W.heap.size) (hb : Below W.heap.size W w') (hn : ¬ OwnC bo W k) : ¬ OwnC bo w' k := fun h => hn (by
  rcases h with h | ⟨u, h1, h2⟩
  · exact .inl h
  · exact .inr ⟨u, by rw [← h1]; exact (hb.cell (p := ⟨bo, 0, none⟩) hl).symm, h2⟩)
/-- the state in the closure's loops -/
structure CorSt (w W : World) (bl bo : Nat) (v : Value) (n : Ms) (bn : Nat) (C : List Cr) (wr : World) : Prop where
  ex : ∃ u, CorI w bl bo v u C wr
  kx : KeepX (OwnC bo) W wr
  cp : CopyAt n bn wr
  nn : ¬ OwnC bo wr bn
theorem CorSt.keep {w W : World} {bl bo : Nat} {v : Value} {n : Ms} {bn : Nat} {C : List Cr} {wr w' : World} (h : CorSt w W bl bo v n bn C wr) (hb : Below wr.heap.size wr w') : CorSt w W bl bo v n bn C w' := by
  obtain ⟨u, hu⟩ := h.ex
  exact ⟨⟨u, hu.keep hb⟩, h.kx.trans (keepx_below hu.lt hb), h.cp.below hb, own_below hu.lt hb h.nn⟩
def Q1 (w W : World) (bl bo : Nat) (v : Value) (l : List Ms) (m n : Ms) (bn : Nat) (C : List Cr) (s : Value) (wr : World) : Prop := ∃ i : Nat, s = .int .i64 i ∧ i ≤ 2 ∧ Hid (CorSt w W bl bo v n bn (C ++ crn l m n (2 * i)) wr)
def Q2 (w W : World) (bl bo : Nat) (v : Value) (l : List Ms) (m n : Ms) (bn : Nat) (C : List Cr) (i be : Nat) (s : Value) (wr : World) : Prop := ∃ j : Nat, s = .int .i64 j ∧ j ≤ 2 ∧ Hid (CorSt w W bl bo v n bn (C ++ crn l m n (2 * i + j)) wr) ∧ Hid (EdgeAt m (edgeC m (tag2 i)) be wr) ∧ Hid (¬ OwnC bo wr be)
def CorPost (w W : World) (bl bo : Nat) (v : Value) (l : List Ms) (m n : Ms) (C : List Cr) (e : Ending) (w' : World) : Prop := e = .returned (.tuple #[]) ∧ (∃ u, CorI w bl bo v u (C ++ crn l m n 4) w') ∧ KeepX (OwnC bo) W w'
theorem crn_at (l : List Ms) (m n : Ms) {i j : Nat} (hj : j < 2) : crn l m n (2 * i + (j + 1)) = crn l m n (2 * i + j) ++ pickC l m n (tag2 i) (tag2 j) := by
  rw [← Nat.add_assoc, crn_succ, show (2 * i + j) / 2 = i by omega, show (2 * i + j) % 2 = j by omega]
set_option maxHeartbeats 16000000 in
set_option maxRecDepth 100000 in
theorem cor_fn (l : List Ms) (v u : Value) (m n : Ms) (w W : World) (bl bo : Nat) (C : List Cr) (hI : CorI w bl bo v u C W) (hlb : bl ≠ bo) (hV : LstAt l v w) (he : ∀ m ∈ l, EdM m) (hm : EdM m) (hn : EdM n) (hC : C.length ≤ 2000) :
    Calls Tryz.prog 136 #[.agg #[.int .i64 m.s, .int .i64 m.a, .int .i64 m.b, .int .i64 m.z, .int .i64 m.d, .int .i64 m.w], .agg #[.int .i64 n.s, .int .i64 n.a, .int .i64 n.b, .int .i64 n.z, .int .i64 n.d, .int .i64 n.w], .pointer (some ⟨bl, 0, none⟩), .pointer (some ⟨bo, 0, none⟩)] W
      (CorPost w W bl bo v l m n C) := by
  have HI := Lib.hid hI
  have HLB := Lib.hid hlb
  have HV := Lib.hid hV
  have HEd := Lib.hid he
  have HM := Lib.hid hm
  have HN := Lib.hid hn
  have CN := Lib.hid (copy_new n (W.alloc (.cells #[.int .i64 m.s, .int .i64 m.a, .int .i64 m.b, .int .i64 m.z, .int .i64 m.d, .int .i64 m.w] 71)) 71)
  clear hI hlb hV he hm hn
  go_enter Tryz.func136, Tryz.ntmps136
  go_wp2_with fail
  refine (edges_any m _ HM.out).mono ?_
  rintro e w1 ⟨rfl, hb1⟩
  have hbW : Below W.heap.size W w1 := (((Below.refl W.heap.size W).alloc (Nat.le_refl _) _).alloc (by simp) _).trans (hb1.mono (by simp; omega))
  have S1 : CorSt w W bl bo v n (W.heap.size + 1) (C ++ crn l m n (2 * 0)) w1 := by
    refine ⟨⟨u, ?_⟩, keepx_below HI.out.lt hbW, ?_, own_below HI.out.lt hbW (own_new HI.out (by omega))⟩
    · have e : C ++ crn l m n (2 * 0) = C := by unfold crn; simp
      rw [e]
      exact HI.out.keep hbW
    · have := CN.out.below hb1
      simpa using this
  have HS1 := Lib.hid S1
  clear hbW S1 hb1 CN
  generalize W.heap.size + 1 = bn at *
  go_wp2_with fail
  go_loopw [14] (Q1 w W bl bo v l m n bn C) (fun i _ => 2 - (intOf i).toNat)
  case atStart => exact ⟨0, rfl, by omega, HS1⟩
  case round =>
    obtain ⟨i, rfl, hi, HS⟩ := hrel
    by_cases q : i < 2
    · have q' : decide ((i : Int) < 2) = true := by simp; omega
      have ix1 : ∀ w, (Instr.index 152 (.agg #[.int .i64 m.a, .int .i64 m.b, .int .i64 (edgeC m false), .int .i64 m.a, .int .i64 m.b, .int .i64 (edgeC m true)]) (.int .i64 (i : Int))).run Tryz.prog w = .ok (.agg #[.int .i64 m.a, .int .i64 m.b, .int .i64 (edgeC m (tag2 i))]) w := by
        intro w
        rcases (show i = 0 ∨ i = 1 by omega) with rfl | rfl <;> rfl
      have cn := HS.out.cp
      have c0 := cn.c0
      have c1 := cn.c1
      have c2 := cn.c2
      have c3 := cn.c3
      have c4 := cn.c4
      have c5 := cn.c5
      have hbn := cn.lt
      clear cn
      have EN := Lib.hid (edge_new m (edgeC m (tag2 i)) wr 151)
      go_wp2_with fail
      refine (edges_any n _ HN.out).mono ?_
      rintro e w2 ⟨rfl, hb2⟩
      have hbr : Below wr.heap.size wr w2 := ((Below.refl wr.heap.size wr).alloc (Nat.le_refl _) _).trans (hb2.mono (by simp))
      have HS2 := Lib.hid (HS.out.keep hbr)
      have HE2 := Lib.hid (EN.out.below hb2)
      have HO2 : Hid (¬ OwnC bo w2 wr.heap.size) := by
        obtain ⟨u0, hu0⟩ := HS.out.ex
        exact own_below hu0.lt hbr (own_new hu0 (Nat.le_refl _))
      clear c0 c1 c2 c3 c4 c5 hbn hbr hb2 EN ix1 HS
      generalize wr.heap.size = be at *
      go_wp2_with fail
      go_loopw [19] (Q2 w W bl bo v l m n bn C i be) (fun j _ => 2 - (intOf j).toNat)
      case atStart => exact ⟨0, rfl, by omega, HS2, HE2, HO2⟩
      case round =>
        obtain ⟨j, rfl, hj, HS, HE, HO⟩ := hrel
        by_cases r : j < 2
        · have r' : decide ((j : Int) < 2) = true := by simp; omega
          have ix2 : ∀ w, (Instr.index 152 (.agg #[.int .i64 n.a, .int .i64 n.b, .int .i64 (edgeC n false), .int .i64 n.a, .int .i64 n.b, .int .i64 (edgeC n true)]) (.int .i64 (j : Int))).run Tryz.prog w = .ok (.agg #[.int .i64 n.a, .int .i64 n.b, .int .i64 (edgeC n (tag2 j))]) w := by
            intro w
            rcases (show j = 0 ∨ j = 1 by omega) with rfl | rfl <;> rfl
          have he := HE.out
          have x0 := he.c0
          have x1 := he.c1
          have x2 := he.c2
          have hbe := he.lt
          have hsm1 := Lib.hid (edge_sm HM.out (tag2 i))
          have hsm2 := Lib.hid (edge_sm HN.out (tag2 j))
          have CA := Lib.hid (crn_at l m n (i := i) r)
          have MT := Lib.hid fun w => meet_any m n (edgeC m (tag2 i)) (edgeC n (tag2 j)) w HM.out HN.out hsm1.out hsm2.out
          obtain ⟨u1, hu1⟩ := HS.out.ex
          have HU := Lib.hid hu1
          clear he hu1
          by_cases hd : detM m n = 0
          · have PK := Lib.hid (show pickC l m n (tag2 i) (tag2 j) = [] by unfold pickC; rw [if_pos hd])
            have EM : meetF m n (edgeC m (tag2 i)) (edgeC n (tag2 j)) = (⟨0, 0, 0⟩, false) := by unfold meetF; rw [if_pos hd]
            have MT2 := MT.out
            rw [EM] at MT2
            have HMT := Lib.hid MT2
            clear hd EM MT2 MT
            go_wp2_with fail
            refine (HMT.out _).mono ?_
            rintro e w3 ⟨rfl, hb3⟩
            have hbr : Below wr.heap.size wr w3 := ((Below.refl wr.heap.size wr).alloc (Nat.le_refl _) _).trans (hb3.mono (by simp))
            have HB := Lib.hid hbr
            clear x0 x1 x2 hbe hb3 hbr
            go_wp2
            go_roundw
            case rel =>
              have hb := HB.out.alloc HB.out.size (.cells #[.int .i64 0, .int .i64 0, .int .i64 0] 155)
              refine ⟨j + 1, by go_num, by omega, ?_, HE.out.below hb, own_below HU.out.lt hb HO.out⟩
              rw [CA.out, PK.out, List.append_nil]
              exact HS.out.keep hb
            case measure => simp [intOf]; omega
          · have EM : meetF m n (edgeC m (tag2 i)) (edgeC n (tag2 j)) = (crossC m n (edgeC m (tag2 i)) (edgeC n (tag2 j)), true) := by unfold meetF; rw [if_neg hd]
            have MT2 := MT.out
            rw [EM] at MT2
            have HMT := Lib.hid MT2
            have SP := Lib.hid (cross_sm HM.out HN.out hsm1.out hsm2.out)
            have PK0 : pickC l m n (tag2 i) (tag2 j) = if holdsB l (crossC m n (edgeC m (tag2 i)) (edgeC n (tag2 j))) = true then [crossC m n (edgeC m (tag2 i)) (edgeC n (tag2 j))] else [] := by unfold pickC; rw [if_neg hd]
            clear hd EM MT2 MT
            generalize crossC m n (edgeC m (tag2 i)) (edgeC n (tag2 j)) = p at *
            have HO0 := fun v w hv => holds_any l p v w hv HEd.out SP.out
            have CNP := Lib.hid fun w => cr_new p w 155
            cases hh : holdsB l p with
            | false =>
              rw [hh] at HO0
              have HH := Lib.hid HO0
              have PK := Lib.hid (show pickC l m n (tag2 i) (tag2 j) = [] by rw [PK0, hh]; rfl)
              clear hh PK0 HO0
              go_wp2_with fail
              refine (HMT.out _).mono ?_
              rintro e w3 ⟨rfl, hb3⟩
              have hbr : Below wr.heap.size wr w3 := ((Below.refl wr.heap.size wr).alloc (Nat.le_refl _) _).trans (hb3.mono (by simp))
              have HB := Lib.hid (hbr.alloc hbr.size (.cells #[.int .i64 p.x, .int .i64 p.y, .int .i64 p.d] 155))
              have HU3 := HU.out.keep HB.out
              have k0 := HU3.lst
              have CP := CNP.out w3
              have k1 := CP.c0
              have k2 := CP.c1
              have k3 := CP.c2
              have LV := Lib.hid (HV.out.below HU3.below)
              clear x0 x1 x2 hbe hb3 hbr HU3 CP
              go_wp2_with fail
              refine (HH.out _ _ LV.out).mono ?_
              rintro e w4 ⟨rfl, hb4⟩
              have HB4 := Lib.hid (HB.out.trans (hb4.mono HB.out.size))
              clear k0 k1 k2 k3 hb4
              go_wp2
              go_roundw
              case rel =>
                refine ⟨j + 1, by go_num, by omega, ?_, HE.out.below HB4.out, own_below HU.out.lt HB4.out HO.out⟩
                rw [CA.out, PK.out, List.append_nil]
                exact HS.out.keep HB4.out
              case measure => simp [intOf]; omega
            | true =>
              rw [hh] at HO0
              have HH := Lib.hid HO0
              have PK := Lib.hid (show pickC l m n (tag2 i) (tag2 j) = [p] by rw [PK0, hh]; rfl)
              clear hh PK0 HO0
              go_wp2_with fail
              refine (HMT.out _).mono ?_
              rintro e w3 ⟨rfl, hb3⟩
              have hbr : Below wr.heap.size wr w3 := ((Below.refl wr.heap.size wr).alloc (Nat.le_refl _) _).trans (hb3.mono (by simp))
              have HB := Lib.hid (hbr.alloc hbr.size (.cells #[.int .i64 p.x, .int .i64 p.y, .int .i64 p.d] 155))
              have HU3 := HU.out.keep HB.out
              have k0 := HU3.lst
              have CP := CNP.out w3
              have k1 := CP.c0
              have k2 := CP.c1
              have k3 := CP.c2
              have LV := Lib.hid (HV.out.below HU3.below)
              have HCP := Lib.hid CP
              clear x0 x1 x2 hbe hb3 hbr HU3 CP
              go_wp2_with fail
              refine (HH.out _ _ LV.out).mono ?_
              rintro e w4 ⟨rfl, hb4⟩
              have HB4 := Lib.hid (HB.out.trans (hb4.mono HB.out.size))
              have HU4 := Lib.hid (HU.out.keep HB4.out)
              have CP4 := HCP.out.below hb4
              have k0 := HU4.out.cell
              have k1 := CP4.c0
              have k2 := CP4.c1
              have k3 := CP4.c2
              have hbo4 := HU4.out.lt
              have hp4 := CP4.lt
              have SZ : (C ++ crn l m n (2 * i + j)).length ≤ 100000 := by
                have := crn_len l m n (2 * i + j)
                rw [List.length_append]
                omega
              have HSZ := Lib.hid SZ
              have hB4 : Hid (bo + 1 ≤ w4.heap.size) := hbo4
              clear hb4 CP4 SZ
              go_wp2_with (at_builtin; refine Halt.mk ?_)
              unfold Halt
              refine wpList_oc rfl (.tmp 34) (.tmp 36) rfl (bo + 1) u1 (C ++ crn l m n (2 * i + j)) rfl w4 HU4.out.own _ p 1 rfl HSZ.out hB4.out ?_
              intro u2 w5 ho5 hg5 hat5
              have PU := Lib.hid (CorI.push HU4.out HLB.out ho5 hg5 hat5)
              have hr5 : ∀ k, u1.ownBlock = some k → bo + 1 ≤ k := fun k hk => (World.ownsRow.lt HU4.out.own k hk).1
              have hne : some bo ≠ u1.ownBlock := fun e => by have := hr5 bo e.symm; omega
              have k5 : w5.cell? ⟨bo, 0, none⟩ = some u1 := hg5.cell (a := ⟨bo, 0, none⟩) ((HU4.out.keep ((Below.refl _ _).alloc (Nat.le_refl _) _)).cell) hne
              have f5 : w5.frozen? ⟨bo, 0, none⟩ = false := (World.frozen?_of_block (hg5.block bo (by rw [World.size_alloc]; omega) hne)).trans ((HU4.out.keep ((Below.refl _ _).alloc (Nat.le_refl _) _)).frz)
              obtain ⟨g5, cap5, hu2⟩ := Go.Joins.ownsRow_form ho5 (show 0 < ((C ++ crn l m n (2 * i + j)) ++ [p]).length by rw [List.length_append, List.length_singleton]; omega)
              obtain ⟨N5, hN5⟩ : ∃ N, ((C ++ crn l m n (2 * i + j)) ++ [p]).length = N := ⟨_, rfl⟩
              rw [hN5] at hu2
              clear k0 k1 k2 k3 hp4 hr5 hne hg5 ho5 hat5 hN5
              subst hu2
              go_wp2
              go_roundw
              case rel =>
                have kx := PU.out.2
                have hk4 := (keepx_below HU.out.lt HB4.out).trans kx
                have kb := hk4.keep be HE.out.lt HO.out
                have kn := hk4.keep bn HS.out.cp.lt HS.out.nn
                refine ⟨j + 1, by go_num, by omega, ?_, HE.out.same kb.1 hk4.size, kb.2⟩
                rw [CA.out, PK.out, ← List.append_assoc]
                exact ⟨⟨_, PU.out.1⟩, HS.out.kx.trans hk4, HS.out.cp.same kn.1 hk4.size, kn.2⟩
              case measure => simp [intOf]; omega
        · obtain rfl : j = 2 := by omega
          go_wp2
          go_roundw
          case rel => exact ⟨i + 1, by go_num, by omega, HS⟩
          case measure => simp [intOf]; omega
    · obtain rfl : i = 2 := by omega
      go_wp2
      go_end0
      exact ⟨rfl, HS.out.ex, HS.out.kx⟩
theorem corners_some (l : List Ms) (b o cap : Nat) (w : World) (h : MsAt l b o w) (hc : l.length ≤ cap) (hm : cap ≤ 9223372036854775807) (he : ∀ m ∈ l, EdM m) (hl : l.length ≤ 17) :
    Calls Tryz.prog 95 #[.slice (some ⟨b, o, none⟩) l.length cap] w fun e w' => (∃ u, e = .returned u ∧ OC w.heap.size w' u (corL l)) ∧ Below w.heap.size w w' := by
  have LV : LstAt l (.slice (some ⟨b, o, none⟩) l.length cap) w := .inr ⟨b, o, cap, rfl, hc, hm, h⟩
  have HP := Lib.hid fun W1 (h0 : ∃ u, CorI w w.heap.size (w.heap.size + 1) (.slice (some ⟨b, o, none⟩) l.length cap) u [] W1) => pairs_cor l b o cap W1 ⟨w.heap.size, 0, none⟩ ⟨w.heap.size + 1, 0, none⟩
    (fun acc W => ∃ u, CorI w w.heap.size (w.heap.size + 1) (.slice (some ⟨b, o, none⟩) l.length cap) u (corP l acc) W) (OwnC (w.heap.size + 1)) hl hc hm
    ⟨fun acc W hi => by obtain ⟨u, hi⟩ := hi; exact h.below hi.below, fun acc W ob hi => by
      obtain ⟨u, hi⟩ := hi
      have hb := (Below.refl W.heap.size W).alloc (Nat.le_refl _) ob
      exact ⟨⟨u, hi.keep hb⟩, own_alloc hi ob, fun k hk hn => own_below hi.lt hb hn⟩⟩ h0
    (fun acc m n W hm hn hacc hi => by
      obtain ⟨u, hi⟩ := hi
      refine (cor_fn l _ u m n w W _ _ _ hi (by omega) LV he (he m hm) (he n hn) (by have := corP_len l acc; omega)).mono fun e w' ⟨h1, h2, h3⟩ => ⟨h1, ?_, h3⟩
      have e : corP l (acc ++ [(m, n)]) = corP l acc ++ crn l m n 4 := by unfold corP; rw [List.flatMap_append]; simp
      rw [e]
      exact h2)
  have H0 := Lib.hid (show ∀ t1 t2, ∃ u, CorI w w.heap.size (w.heap.size + 1) (.slice (some ⟨b, o, none⟩) l.length cap) u [] ((w.alloc (.cells #[.slice (some ⟨b, o, none⟩) l.length cap] t1)).alloc (.cells #[.slice none 0 0] t2)) from fun t1 t2 =>
    ⟨.slice none 0 0, ⟨((Below.refl _ _).alloc (Nat.le_refl _) _).alloc (by simp) _, by omega, by omega, by simp, by
      rw [World.cell?_alloc_some _ _ _ (by rw [World.cell?_alloc_at _ _ _ _ rfl]; rfl), World.cell?_alloc_at _ _ _ _ rfl]; rfl, by
      rw [World.cell?_alloc_at _ _ _ _ (by simp)]; rfl, by go_simp, World.ownsRow_nil _ _ _ _⟩⟩)
  clear h he LV
  go_enter Tryz.func95, Tryz.ntmps95
  go_wp2_with (go_at_call 132; refine (HP.out _ (H0.out _ _)).mono ?_; rintro e w2 ⟨rfl, u, hi⟩; have hcell := hi.cell; have HI := Lib.hid hi; clear hi)
  go_ret
  exact ⟨⟨u, rfl, (World.ownsRow.mono HI.out.own (by omega))⟩, HI.out.below⟩
theorem corners_nil (w : World) :
    Calls Tryz.prog 95 #[.slice none 0 0] w fun e w' => (∃ u, e = .returned u ∧ OC w.heap.size w' u (corL [])) ∧ Below w.heap.size w w' := by
  go_enter Tryz.func95, Tryz.ntmps95
  go_wp2_with (go_at_call 132; refine (pairs_nil _ _ _).mono ?_; rintro e w2 ⟨rfl, rfl⟩)
  go_ret
  exact ⟨⟨_, rfl, World.ownsRow_nil _ _ _ _⟩, ((Below.refl _ _).alloc (Nat.le_refl _) _).alloc (by simp) _⟩
theorem corners_any (l : List Ms) (v : Value) (w : World) (h : LstAt l v w) (he : ∀ m ∈ l, EdM m) (hl : l.length ≤ 17) :
    Calls Tryz.prog 95 #[v] w fun e w' => (∃ u, e = .returned u ∧ OC w.heap.size w' u (corL l)) ∧ Below w.heap.size w w' := by
  rcases h with ⟨rfl, rfl⟩ | ⟨b, o, cap, rfl, h2, h3, h4⟩
  · exact corners_nil w
  · exact corners_some l b o cap w h4 h2 h3 he hl
end Go.Proofs.YtajmjkliblippaaGreatDoor.S44
namespace Go.Proofs.YtajmjkliblippaaGreatDoor.S44
set_option linter.unusedVariables false
open Go.RowKit
def cr0 : Cr := ⟨0, 0, 0⟩
def nthC (l : List Cr) (i : Nat) : Cr := l.getD i cr0
theorem nthC_eq {l : List Cr} {i : Nat} (h : i < l.length) : nthC l i = l[i] := by
  unfold nthC
  rw [List.getD_eq_getElem?_getD, List.getElem?_eq_getElem h]
  rfl
structure CrsAt (l : List Cr) (g : Nat) (w : World) : Prop where
  lt : g < w.heap.size
  c0 : ∀ i, i < l.length → w.cell? ⟨g, i * 3, none⟩ = some (.int .i64 (nthC l i).x)
  c1 : ∀ i, i < l.length → w.cell? ⟨g, i * 3 + 1, none⟩ = some (.int .i64 (nthC l i).y)
  c2 : ∀ i, i < l.length → w.cell? ⟨g, i * 3 + 2, none⟩ = some (.int .i64 (nthC l i).d)
theorem CrsAt.below {l : List Cr} {g : Nat} {w w' : World} (h : CrsAt l g w) (hb : Below w.heap.size w w') : CrsAt l g w' :=
  ⟨Nat.lt_of_lt_of_le h.lt hb.size, fun i hi => (hb.cell (p := ⟨g, i * 3, none⟩) h.lt).trans (h.c0 i hi), fun i hi => (hb.cell (p := ⟨g, i * 3 + 1, none⟩) h.lt).trans (h.c1 i hi), fun i hi => (hb.cell (p := ⟨g, i * 3 + 2, none⟩) h.lt).trans (h.c2 i hi)⟩
/-- what a slice of corners of the call's own is -/
theorem oc_cases {B : Nat} {w : World} {v : Value} {l : List Cr} (h : OC B w v l) : (v = .slice none 0 0 ∧ l = []) ∨ ∃ g cap, v = .slice (some ⟨g, 0, none⟩) l.length cap ∧ l.length ≤ cap ∧ cap ≤ 9223372036854775807 ∧ CrsAt l g w := by
  obtain ⟨h1, h2⟩ := h
  rcases h2 with ⟨rfl, hn⟩ | ⟨g, cap, cur, rfl, hb, hg, hc, hm, hs, ht⟩
  · exact .inl ⟨rfl, List.eq_nil_of_length_eq_zero hn⟩
  · have hlt : g < w.heap.size := (Array.getElem?_eq_some_iff.1 hg).1
    have hget : ∀ j, j < l.length * 3 → w.cell? ⟨g, j, none⟩ = (crC l)[j]? := fun j hj => by
      rw [← ht, List.getElem?_take, if_pos hj]
      unfold World.cell?
      rw [hg]
      simp
    unfold maxLen at hm
    refine .inr ⟨g, cap, rfl, hc, hm, hlt, fun i hi => ?_, fun i hi => ?_, fun i hi => ?_⟩
    · rw [hget _ (by omega), nthC_eq hi]; exact (crC_get l i hi).1
    · rw [hget _ (by omega), nthC_eq hi]; exact (crC_get l i hi).2.1
    · rw [hget _ (by omega), nthC_eq hi]; exact (crC_get l i hi).2.2
/-- an interval's variable in block bo -/
structure Out2 (bo : Nat) (x y : Int) (W : World) : Prop where
  lt : bo < W.heap.size
  c0 : W.cell? ⟨bo, 0, none⟩ = some (.int .i64 x)
  c1 : W.cell? ⟨bo, 1, none⟩ = some (.int .i64 y)
  f0 : W.frozen? ⟨bo, 0, none⟩ = false
  f1 : W.frozen? ⟨bo, 1, none⟩ = false
theorem Out2.below {bo : Nat} {x y : Int} {W w' : World} (h : Out2 bo x y W) (hb : Below W.heap.size W w') : Out2 bo x y w' :=
  ⟨Nat.lt_of_lt_of_le h.lt hb.size, (hb.cell (p := ⟨bo, 0, none⟩) h.lt).trans h.c0, (hb.cell (p := ⟨bo, 1, none⟩) h.lt).trans h.c1, (hb.frozen (p := ⟨bo, 0, none⟩) h.lt).trans h.f0, (hb.frozen (p := ⟨bo, 1, none⟩) h.lt).trans h.f1⟩
theorem Out2.set {bo : Nat} {x y : Int} {W : World} (h : Out2 bo x y W) (u v : Int) : Out2 bo u v ((W.setCell ⟨bo, 0, none⟩ (.int .i64 u)).setCell ⟨bo, 1, none⟩ (.int .i64 v)) := by
  have e1 : (W.setCell ⟨bo, 0, none⟩ (.int .i64 u)).cell? ⟨bo, 1, none⟩ = some (.int .i64 y) := by rw [World.cell?_setCell_other]; exact h.c1; intro e; injection e with _ e _; cases e
  have e0 : (W.setCell ⟨bo, 0, none⟩ (.int .i64 u)).cell? ⟨bo, 0, none⟩ = some (.int .i64 u) := World.cell?_setCell_same' W _ _ (by rw [h.c0]; rfl)
  refine ⟨by have := h.lt; simpa [World.setCell] using this, ?_, World.cell?_setCell_same' _ _ _ (by rw [e1]; rfl), by rw [World.frozen?_setCell, World.frozen?_setCell]; exact h.f0, by rw [World.frozen?_setCell, World.frozen?_setCell]; exact h.f1⟩
  rw [World.cell?_setCell_other]
  · exact e0
  · intro e; injection e with _ e _; cases e
end Go.Proofs.YtajmjkliblippaaGreatDoor.S44
namespace Go.Proofs.YtajmjkliblippaaGreatDoor.S44
set_option linter.unusedVariables false
open Go.RowKit
theorem oc_len {B : Nat} {w : World} {v : Value} {l : List Cr} (h : OC B w v l) : ∃ p cap, v = .slice p l.length cap := by
  rcases oc_cases h with ⟨rfl, rfl⟩ | ⟨g, cap, rfl, _⟩
  · exact ⟨none, 0, rfl⟩
  · exact ⟨_, _, rfl⟩
theorem ed_of {l : List Ms} (h : chkL l = 0) : (∀ m ∈ l, EdM m) ∧ l.length ≤ 17 := ⟨fun m hm => OkM.ed ((chkL_ok h).2 m hm), by have := (chkL_ok h).1; omega⟩
end Go.Proofs.YtajmjkliblippaaGreatDoor.S44
namespace Go.Proofs.YtajmjkliblippaaGreatDoor.S44
set_option linter.unusedVariables false
open Go.RowKit
set_option maxHeartbeats 4000000 in
theorem wo_some (l : List Ms) (s : Int) (b o cap : Nat) (w : World) (h : MsAt l b o w) (hc : l.length ≤ cap) (hm : cap ≤ 9223372036854775807) (hl : l.length ≤ 17) :
    Calls Tryz.prog 62 #[.slice (some ⟨b, o, none⟩) l.length cap, .int .i64 s] w fun e w' => (∃ u, e = .returned u ∧ OM w.heap.size w' u (woL l s)) ∧ Below w.heap.size w w' := by
  have H := Lib.hid h
  have hlt := h.lt
  clear h
  go_enter Tryz.func62, Tryz.ntmps62
  go_wp2
  go_loopw [5, 10] (WoR l s w) (fun _ i _ => l.length - (intOf i).toNat)
  case atStart => exact ⟨0, rfl, Nat.zero_le _, Lib.hid (Below.refl _ _), Lib.hid (World.ownsRow_nil _ _ _ _)⟩
  case round =>
    obtain ⟨k, rfl, hk, HB, HO⟩ := hrel
    by_cases q : k < l.length
    · have q' : decide (k < l.length) = true := by simpa using q
      have M := H.out.keep HB.out hlt
      have c0 := M.c0 k q
      have c1 := M.c1 k q
      have c2 := M.c2 k q
      have c3 := M.c3 k q
      have c4 := M.c4 k q
      have c5 := M.c5 k q
      have WS := Lib.hid (woL_succ (s := s) q)
      have SZ := Lib.hid (show (woL (l.take k) s).length ≤ 100000 by have := woL_len (l.take k) s; rw [List.length_take] at this; omega)
      have HS := Lib.hid HB.out.size
      clear M
      generalize hp : nth l k = p at *
      clear hp
      by_cases e : p.s = s
      · have g : (p.s != s) = false := by simpa using e
        have E := Lib.hid e
        clear e
        go_wp2
        go_roundw
        case rel =>
          have hb := (Below.refl wr.heap.size wr).alloc (Nat.le_refl _) (.cells #[.int .i64 p.s, .int .i64 p.a, .int .i64 p.b, .int .i64 p.z, .int .i64 p.d, .int .i64 p.w] 71)
          exact ⟨k + 1, by go_num, by omega, HB.out.trans (hb.mono HS.out), by rw [WS.out, if_pos E.out]; exact HO.out.below hb⟩
        case measure => simp [intOf]; omega
      · have g : (p.s != s) = true := by simpa using e
        have HA := Lib.hid ((Below.refl wr.heap.size wr).alloc (Nat.le_refl _) (.cells #[.int .i64 p.s, .int .i64 p.a, .int .i64 p.b, .int .i64 p.z, .int .i64 p.d, .int .i64 p.w] 71))
        go_wp2_with (at_builtin; refine Halt.mk ?_)
        unfold Halt
        refine wpList_om rfl (.tmp 18) (.tmp 20) rfl w.heap.size u5 (woL (l.take k) s) rfl (wr.alloc (.cells #[.int .i64 p.s, .int .i64 p.a, .int .i64 p.b, .int .i64 p.z, .int .i64 p.d, .int .i64 p.w] 71)) (HO.out.below HA.out) _ p 1 (by rw [World.size_alloc]; rfl) SZ.out (by have := HS.out; simp; omega) ?_
        intro u2 w5 ho5 hg5 hat5
        have HO5 : Hid (OM w.heap.size w5 u2 (woL (l.take (k + 1)) s)) := Lib.hid (by rw [WS.out, if_neg e]; exact ho5)
        have HB5 : Hid (Below w.heap.size w w5) := Lib.hid (below_grown ((HB.out.trans (HA.out.mono HS.out)).alloc (by simp; have := HS.out; omega) _) hg5 (by simp; have := HS.out; omega) (fun k hk => (World.ownsRow.lt HO.out k hk).1))
        clear hg5 hat5 c0 c1 c2 c3 c4 c5
        obtain ⟨g5, cap5, hu2⟩ := Go.Joins.ownsRow_form ho5 (show 0 < (woL (l.take k) s ++ [p]).length by rw [List.length_append, List.length_singleton]; omega)
        obtain ⟨N5, hN5⟩ : ∃ N, (woL (l.take k) s ++ [p]).length = N := ⟨_, rfl⟩
        rw [hN5] at hu2
        clear ho5 hN5
        subst hu2
        go_wp2
        go_roundw
        case rel => exact ⟨k + 1, by go_num, by omega, HB5, HO5⟩
        case measure => simp [intOf]; omega
    · obtain rfl : k = l.length := by omega
      rw [List.take_length] at HO
      rcases om_cases HO.out with ⟨rfl, hz⟩ | ⟨g, cap', rfl, _⟩
      · go_wp2
        go_ret
        exact ⟨⟨_, rfl, HO.out⟩, HB.out⟩
      · go_wp2
        go_ret
        exact ⟨⟨_, rfl, HO.out⟩, HB.out⟩
theorem wo_any (l : List Ms) (s : Int) (v : Value) (w : World) (h : LstAt l v w) (hl : l.length ≤ 17) :
    Calls Tryz.prog 62 #[v, .int .i64 s] w fun e w' => (∃ u, e = .returned u ∧ OM w.heap.size w' u (woL l s)) ∧ Below w.heap.size w w' := by
  rcases h with ⟨rfl, rfl⟩ | ⟨b, o, cap, rfl, h2, h3, h4⟩
  · exact wo_nil s w
  · exact wo_some l s b o cap w h4 h2 h3 hl
end Go.Proofs.YtajmjkliblippaaGreatDoor.S44
