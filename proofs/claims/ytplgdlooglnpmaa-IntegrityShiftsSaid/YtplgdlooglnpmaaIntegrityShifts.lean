/-
  The law IntegrityShifts.
-/
import Derived.Test.YtplgdlooglnpmaaStructs43
import Derived.Test.YtplgdlooglnpmaaAwake43
import Derived.Test.YtplgdlooglnpmaaClone43
import Derived.Test.YtplgdlooglnpmaaShiftPlain
import Derived.StillTailTactics
namespace Go.Proofs.Ytplgdlooglnpmaa.integrityShifts
set_option linter.unusedVariables false
open Go.ChangeShapes Go.WideShapes Go.ChangeAt Go.RowKit

def ShR (L : List Ms) (x y : Int) (g : Nat) (W : World) (u : Value) (wr : World) : Prop := ∃ k : Nat, u = .int .i64 k ∧ k ≤ L.length ∧ Hid (Below W.heap.size W wr) ∧ (∃ cur, Hid (MsAt cur g 0 wr) ∧ cur.length = L.length ∧ Hid (∀ i, i < L.length → nth cur i = if i < k then shM x y (nth L i) else nth L i)) ∧ Hid (∀ j, wr.frozen? ⟨g, j, none⟩ = false)
theorem cell_set_drew {W : World} {a p : Addr} {v u : Value} (hne : a ≠ p) (h : W.cell? p = some u) : (W.setCell a v).drew.cell? p = some u := by
  show (W.setCell a v).cell? p = some u
  rw [World.cell?_setCell_other _ _ _ _ (by first | exact hne | exact hne.symm)]
  exact h
theorem ms_drew {l : List Ms} {g : Nat} {W : World} (h : MsAt l g 0 W) : MsAt l g 0 W.drew := ⟨h.lt, h.c0, h.c1, h.c2, h.c3, h.c4, h.c5⟩
theorem frz_set {W : World} {a p : Addr} {v : Value} (h : W.frozen? p = false) : (W.setCell a v).drew.frozen? p = false := by
  show (W.setCell a v).frozen? p = false
  rw [World.frozen?_setCell]
  exact h
theorem sh_next {L cur : List Ms} {x y : Int} {k : Nat} (q : k < L.length) (hl : cur.length = L.length) (h : ∀ i, i < L.length → nth cur i = if i < k then shM x y (nth L i) else nth L i) :
    ∀ i, i < L.length → nth (cur.set k { nth cur k with z := (nth L k).z + ((nth L k).a * x + (nth L k).b * y) }) i = if i < k + 1 then shM x y (nth L i) else nth L i := by
  intro i hi
  have e : nth (cur.set k { nth cur k with z := (nth L k).z + ((nth L k).a * x + (nth L k).b * y) }) i = if i = k then { nth cur k with z := (nth L k).z + ((nth L k).a * x + (nth L k).b * y) } else nth cur i := by
    unfold nth
    rw [List.getD_eq_getElem?_getD, List.getElem?_set]
    by_cases q : k = i
    · subst q; simp [hl, hi]
    · rw [if_neg q, if_neg (fun e => q e.symm), List.getD_eq_getElem?_getD]
  rw [e]
  by_cases hik : i = k
  · subst hik
    rw [if_pos rfl, if_pos (by omega), h i hi, if_neg (by omega)]
    rfl
  · rw [if_neg hik, h i hi]
    by_cases a : i < k
    · rw [if_pos a, if_pos (by omega)]
    · rw [if_neg a, if_neg (by omega)]
theorem sh_end {L cur : List Ms} {x y : Int} (hl : cur.length = L.length) (h : ∀ i, i < L.length → nth cur i = if i < L.length then shM x y (nth L i) else nth L i) : cur = L.map (shM x y) := by
  refine List.ext_getElem (by rw [hl, List.length_map]) fun i h1 h2 => ?_
  have := h i (by omega)
  rw [if_pos (by omega), nth_eq h1, nth_eq (by omega : i < L.length)] at this
  rw [this, List.getElem_map]
theorem sh_wraps {m : Ms} {x y : Int} (o : OkM m) (hx : -2000000 ≤ x ∧ x ≤ 2000000) (hy : -2000000 ≤ y ∧ y ≤ 2000000) :
    IntKind.i64.wrap (m.a * x) = m.a * x ∧ IntKind.i64.wrap (m.b * y) = m.b * y ∧ IntKind.i64.wrap (m.a * x + m.b * y) = m.a * x + m.b * y ∧ IntKind.i64.wrap (m.z + (m.a * x + m.b * y)) = m.z + (m.a * x + m.b * y) := by
  have p := mulb (X := 256) (Y := 2000000) (by omega) o.a0 o.a1 hx.1 hx.2
  have r := mulb (X := 256) (Y := 2000000) (by omega) o.b0 o.b1 hy.1 hy.2
  have z0 := o.z0
  have z1 := o.z1
  exact ⟨IntWalk.i64_in _ (by omega), IntWalk.i64_in _ (by omega), IntWalk.i64_in _ (by omega), IntWalk.i64_in _ (by omega)⟩
theorem lev_ne {L : List Ms} (h : LevOk L) : L ≠ [] := fun e => by
  subst e
  exact (sol_chk h.sol).2.1 rfl
theorem lev_cen {L : List Ms} (h : LevOk L) : (-2000000 ≤ (levF L).1.cx ∧ (levF L).1.cx ≤ 2000000) ∧ -2000000 ≤ (levF L).1.cy ∧ (levF L).1.cy ≤ 2000000 := by
  have e := lev_val h
  obtain ⟨_, _, hx, hy⟩ := sol_chk h.sol
  have ex : (levF L).1.cx = cenX L := by rw [e]
  have ey : (levF L).1.cy = cenY L := by rw [e]
  rw [ex, ey]
  exact ⟨pOk_iff.1 hx, pOk_iff.1 hy⟩
theorem shift_facts {L : List Ms} (x y : Int) (h : LevOk L) (hv : vldP x y = true) :
    L ≠ [] ∧ OkL L ∧ (-2000000 ≤ x ∧ x ≤ 2000000) ∧ (-2000000 ≤ y ∧ y ≤ 2000000) ∧ True ∧ (IntKind.i64.wrap ((levF L).1.cx + x) = (levF L).1.cx + x ∧ IntKind.i64.wrap ((levF L).1.cy + y) = (levF L).1.cy + y) ∧
      ((levF (L.map (shM x y))).2 = 1 ∨ (levF (L.map (shM x y))).2 = 2 ∨ ((levF (L.map (shM x y))).2 = 0 ∧ (levF (L.map (shM x y))).1 = ⟨(levF L).1.cx + x, (levF L).1.cy + y, (levF L).1.x, (levF L).1.y⟩)) := by
  have v := vldP_iff.1 hv
  obtain ⟨c0, c1⟩ := lev_cen h
  exact ⟨lev_ne h, okL_of (sol_chk h.sol).1, ⟨v.1, v.2.1⟩, ⟨v.2.2.1, v.2.2.2⟩, trivial, ⟨IntWalk.i64_in _ (by omega), IntWalk.i64_in _ (by omega)⟩, shifts x y h⟩
set_option maxHeartbeats 40000000 in
set_option maxRecDepth 100000 in
theorem walk (v : Value) (l : List Ms) (x y : Int) (w : World) (h : LstAt l v w) (_x0 : -9223372036854775808 ≤ x) (_x1 : x ≤ 9223372036854775807) (_y0 : -9223372036854775808 ≤ y) (_y1 : y ≤ 9223372036854775807) :
    Calls Try.prog 7 #[v, .agg #[.int .i64 x, .int .i64 y]] w fun e w' => e = .returned (.bool true) ∧ Below w.heap.size w w' := by
  clear _x0 _x1 _y0 _y1
  have H0 := Lib.hid h
  have KP := Lib.hid (Blk.of (vs := #[.int .i64 x, .int .i64 y]) (t := 30) (w := w) (b := w.heap.size) (by simp))
  have HB := Lib.hid ((Below.refl w.heap.size w).alloc (by simp; try omega) (.cells #[.int .i64 x, .int .i64 y] 30))
  go_enter Try.func7, Try.ntmps7
  clear h
  go_wp2_with fail
  generalize w.alloc (.cells #[.int .i64 x, .int .i64 y] 30) = w0 at *
  refine (awake_any _).mono ?_
  rintro e1 w1 ⟨rfl, hb1⟩
  replace HB := Lib.hid (HB.out.trans (hb1.mono HB.out.size))
  replace KP := Lib.hid (KP.out.below hb1)
  clear hb1
  go_wp2_with fail
  refine (cut_any _ _ _ (H0.out.below HB.out)).mono ?_
  rintro e2 w2 ⟨⟨ps, caps, rfl, hcl⟩, rfl⟩
  have HC := Lib.hid hcl
  have CL := Lib.hid (cut_len l)
  clear hcl
  generalize cutL l = L at *
  have LV := Lib.hid fun w h => lev_any L (.slice ps L.length caps) w h
  have BR := bad_lev L
  have SH := Lib.hid fun (hz : (levF L).2 = 0) => shift_facts x y (lev_ok hz)
  obtain ⟨R, hR⟩ : ∃ z, levF L = z := ⟨_, rfl⟩
  rw [hR] at LV BR SH
  clear hR
  obtain ⟨⟨cx, cy, bx, by'⟩, z⟩ := R
  simp only at BR
  unfold boxV box0 at *
  simp only at LV SH
  go_wp2_with fail
  refine (LV.out _ HC.out).mono ?_
  rintro e2 w2 ⟨rfl, hb2⟩
  replace HB := Lib.hid (HB.out.trans (hb2.mono HB.out.size))
  replace KP := Lib.hid (KP.out.below hb2)
  replace HC := Lib.hid (HC.out.below hb2)
  clear hb2
  clear LV
  rcases Decidable.em (z = 0) with rfl | hz
  · clear BR
    have SH1 := SH.out (by first | rfl | trivial)
    clear SH
    have VP := Lib.hid fun w => vldP_any x y w
    have CLN := Lib.hid fun w h => clone_any L (.slice ps L.length caps) w h CL.out
    have yP := KP.out
    have yP_0 := yP.c 0 _ rfl
    have yP_1 := yP.c 1 _ rfl
    have yP_z := yP.lt
    clear yP
    go_wp2_with fail
    have KB := Lib.hid (Blk.of (vs := #[.int .i64 cx, .int .i64 cy, .int .i64 bx, .int .i64 (by')]) (t := 32) (w := w2) (b := w2.heap.size) rfl)
    have hb3 : Below w2.heap.size w2 (w2.alloc (.cells #[.int .i64 cx, .int .i64 cy, .int .i64 bx, .int .i64 (by')] 32)) := (Below.refl _ _).alloc (Nat.le_refl _) _
    have hnB := HB.out.size
    have nzB_P := KP.out.lt
    replace HB := Lib.hid (HB.out.trans (hb3.mono HB.out.size))
    replace KP := Lib.hid (KP.out.below hb3)
    replace HC := Lib.hid (HC.out.below hb3)
    clear yP_0 yP_1 yP_z
    clear hb3
    generalize w2.alloc (.cells #[.int .i64 cx, .int .i64 cy, .int .i64 bx, .int .i64 (by')] 32) = w3 at *
    generalize w2.heap.size = bB at *
    have neB_P : bB ≠ w.heap.size := by omega
    clear nzB_P
    cases hv : vldP x y with
    | false =>
      rw [hv] at VP
      clear hv SH1
      refine (VP.out _).mono ?_
      rintro e4 w4 ⟨rfl, hb4⟩
      replace HB := Lib.hid (HB.out.trans (hb4.mono HB.out.size))
      replace KP := Lib.hid (KP.out.below hb4)
      replace KB := Lib.hid (KB.out.below hb4)
      replace HC := Lib.hid (HC.out.below hb4)
      clear hb4
      go_wp2
      go_ret
      exact ⟨rfl, HB.out⟩
    | true =>
      rw [hv] at VP
      refine (VP.out _).mono ?_
      rintro e4 w4 ⟨rfl, hb4⟩
      replace HB := Lib.hid (HB.out.trans (hb4.mono HB.out.size))
      replace KP := Lib.hid (KP.out.below hb4)
      replace KB := Lib.hid (KB.out.below hb4)
      replace HC := Lib.hid (HC.out.below hb4)
      clear hb4
      obtain ⟨NE, OKL, V0, V1, HX, BX, S3⟩ := SH1 hv
      have NE := Lib.hid NE
      have OKL := Lib.hid OKL
      have S3 := Lib.hid S3
      clear hv VP
      go_wp2_with fail
      refine (CLN.out _ HC.out).mono ?_
      rintro e30 w30 ⟨⟨um, rfl, hom⟩, hb30⟩
      rcases om_cases hom with ⟨_, e⟩ | ⟨gm, cm, rfl, k1, k2, k3, k4, k5⟩
      · exact absurd e NE.out
      have OMM := Lib.hid k4
      have OMF := Lib.hid k5
      clear hom k4 k5 NE CLN
      have HBW := HB
      have P0 := KP
      have B0 := KB
      have HBC := Lib.hid hb30
      clear hb30
      go_wp2
      go_loopw [38] (ShR L x y gm w4) (fun i _ => L.length - (intOf i).toNat)
      case atStart => exact ⟨0, rfl, Nat.zero_le _, HBC, ⟨L, OMM, rfl, Lib.hid fun i hi => by rw [if_neg (by omega)]⟩, OMF⟩
      case round =>
        clear OMM OMF HBC HB KP KB
        obtain ⟨k, rfl, hk, HBC, ⟨cur, HM, hlen, HF⟩, OMF⟩ := hrel
        have HB := Lib.hid (HBW.out.trans (HBC.out.mono HBW.out.size))
        have KP := Lib.hid (P0.out.below HBC.out)
        have KB := Lib.hid (B0.out.below HBC.out)
        by_cases q : k < L.length
        · have q' : decide (k < L.length) = true := by simpa using q
          have q0 : (0 : Int) ≤ (k : Int) := by omega
          have q1 : (k : Int) < (L.length : Int) := by omega
          have ql : k < cur.length := by omega
          have c1 := HM.out.c1 k ql
          have c2 := HM.out.c2 k ql
          have c3 := HM.out.c3 k ql
          rw [HF.out k q, if_neg (by omega)] at c1 c2 c3
          simp only [Nat.zero_add] at c1 c2 c3
          have clt := HM.out.lt
          have fz := OMF.out (k * 6 + 3)
          have yP := KP.out
          have p0 := yP.c 0 _ rfl
          have p1 := yP.c 1 _ rfl
          have pz := yP.lt
          clear yP
          have SW := sh_wraps (OKL.out.ok _ (nth_mem q)) V0 V1
          obtain ⟨s0, s1, s2, s3⟩ := SW
          have HN := Lib.hid (sh_next (x := x) (y := y) q hlen HF.out)
          have MN := Lib.hid (ms_setz (w := wr) HM.out ql ((nth L k).z + ((nth L k).a * x + (nth L k).b * y)))
          generalize nth L k = mm at *
          obtain ⟨z', hz'⟩ : ∃ e, mm.z + (mm.a * x + mm.b * y) = e := ⟨_, rfl⟩
          rw [hz'] at MN HN s3
          have d1 : wr.drew.cell? ⟨gm, k * 6 + 1, none⟩ = some (.int .i64 mm.a) := c1
          have d2 : wr.drew.cell? ⟨gm, k * 6 + 2, none⟩ = some (.int .i64 mm.b) := c2
          have d3 : wr.drew.cell? ⟨gm, k * 6 + 3, none⟩ = some (.int .i64 mm.z) := c3
          have d4 : wr.drew.cell? ⟨w.heap.size, 0, none⟩ = some (.int .i64 x) := p0
          have d5 : wr.drew.cell? ⟨w.heap.size, 1, none⟩ = some (.int .i64 y) := p1
          have d6 : wr.drew.frozen? ⟨gm, k * 6 + 3, none⟩ = false := fz
          have d7 : gm < wr.drew.heap.size := clt
          have hgP : gm ≠ w.heap.size := by have := P0.out.lt; omega
          go_wp2_with fail
          go_still_tail 25, (by kernel_rfl)
          go_wp2
          exact ⟨⟨k + 1, by go_num, by omega, Lib.hid (below_drew1 (HBC.out.setCell (p := ⟨gm, k * 6 + 3, none⟩) k3 _)), ⟨_, Lib.hid (ms_drew MN.out), by rw [List.length_set]; exact hlen, HN⟩, Lib.hid fun j => frz_set (OMF.out j)⟩, by simp [intOf]; omega⟩
        · obtain rfl : k = L.length := by omega
          obtain rfl : cur = L.map (shM x y) := sh_end hlen HF.out
          have HL2 := Lib.hid (show LstAt (L.map (shM x y)) (.slice (some ⟨gm, 0, none⟩) L.length cm) wr from .inr ⟨gm, 0, cm, by rw [hlen], by rw [hlen]; exact k1, k2, HM.out⟩)
          have LV2 := Lib.hid fun w h => lev_any (L.map (shM x y)) (.slice (some ⟨gm, 0, none⟩) L.length cm) w h
          obtain ⟨R, hR⟩ : ∃ z, levF (L.map (shM x y)) = z := ⟨_, rfl⟩
          have S4 := S3.out
          rw [hR] at LV2 S4
          clear hR S3
          obtain ⟨⟨dx, dy, ex, ey⟩, f⟩ := R
          unfold boxV at LV2
          simp only at LV2 S4
          go_wp2_with fail
          refine (LV2.out _ HL2.out).mono ?_
          rintro e41 w41 ⟨rfl, hb41⟩
          replace HB := Lib.hid (HB.out.trans (hb41.mono HB.out.size))
          replace KP := Lib.hid (KP.out.below hb41)
          replace KB := Lib.hid (KB.out.below hb41)
          clear hb41
          clear LV2 HL2
          rcases S4 with rfl | rfl | ⟨rfl, S5⟩
          · go_wp2
            have KC := Lib.hid (Blk.of (vs := #[.int .i64 dx, .int .i64 dy, .int .i64 ex, .int .i64 ey]) (t := 32) (w := w41) (b := w41.heap.size) rfl)
            have hb42 : Below w41.heap.size w41 (w41.alloc (.cells #[.int .i64 dx, .int .i64 dy, .int .i64 ex, .int .i64 ey] 32)) := (Below.refl _ _).alloc (Nat.le_refl _) _
            have hnC := HB.out.size
            have nzC_P := KP.out.lt
            have nzC_B := KB.out.lt
            replace HB := Lib.hid (HB.out.trans (hb42.mono HB.out.size))
            replace KP := Lib.hid (KP.out.below hb42)
            replace KB := Lib.hid (KB.out.below hb42)
            clear hb42
            generalize w41.alloc (.cells #[.int .i64 dx, .int .i64 dy, .int .i64 ex, .int .i64 ey] 32) = w42 at *
            generalize w41.heap.size = bC at *
            have neC_P : bC ≠ w.heap.size := by omega
            have neC_B : bC ≠ bB := by omega
            clear nzC_P nzC_B
            go_ret
            exact ⟨rfl, HB.out⟩
          · go_wp2
            have KC := Lib.hid (Blk.of (vs := #[.int .i64 dx, .int .i64 dy, .int .i64 ex, .int .i64 ey]) (t := 32) (w := w41) (b := w41.heap.size) rfl)
            have hb42 : Below w41.heap.size w41 (w41.alloc (.cells #[.int .i64 dx, .int .i64 dy, .int .i64 ex, .int .i64 ey] 32)) := (Below.refl _ _).alloc (Nat.le_refl _) _
            have hnC := HB.out.size
            have nzC_P := KP.out.lt
            have nzC_B := KB.out.lt
            replace HB := Lib.hid (HB.out.trans (hb42.mono HB.out.size))
            replace KP := Lib.hid (KP.out.below hb42)
            replace KB := Lib.hid (KB.out.below hb42)
            clear hb42
            generalize w41.alloc (.cells #[.int .i64 dx, .int .i64 dy, .int .i64 ex, .int .i64 ey] 32) = w42 at *
            generalize w41.heap.size = bC at *
            have neC_P : bC ≠ w.heap.size := by omega
            have neC_B : bC ≠ bB := by omega
            clear nzC_P nzC_B
            go_ret
            exact ⟨rfl, HB.out⟩
          · injection S5 with a1 a2 a3 a4
            subst a1 a2 a3 a4
            obtain ⟨s0, s1⟩ := BX
            have yP := KP.out
            have yP_0 := yP.c 0 _ rfl
            have yP_1 := yP.c 1 _ rfl
            have yP_z := yP.lt
            clear yP
            have yB := KB.out
            have yB_0 := yB.c 0 _ rfl
            have yB_1 := yB.c 1 _ rfl
            have yB_2 := yB.c 2 _ rfl
            have yB_3 := yB.c 3 _ rfl
            have yB_z := yB.lt
            clear yB
            go_wp2
            have KC := Lib.hid (Blk.of (vs := #[.int .i64 (cx + x), .int .i64 (cy + y), .int .i64 ex, .int .i64 ey]) (t := 32) (w := w41) (b := w41.heap.size) rfl)
            have hb42 : Below w41.heap.size w41 (w41.alloc (.cells #[.int .i64 (cx + x), .int .i64 (cy + y), .int .i64 ex, .int .i64 ey] 32)) := (Below.refl _ _).alloc (Nat.le_refl _) _
            have hnC := HB.out.size
            have nzC_P := KP.out.lt
            have nzC_B := KB.out.lt
            replace HB := Lib.hid (HB.out.trans (hb42.mono HB.out.size))
            replace KP := Lib.hid (KP.out.below hb42)
            replace KB := Lib.hid (KB.out.below hb42)
            clear hb42
            generalize w41.alloc (.cells #[.int .i64 (cx + x), .int .i64 (cy + y), .int .i64 ex, .int .i64 ey] 32) = w42 at *
            generalize w41.heap.size = bC at *
            have neC_P : bC ≠ w.heap.size := by omega
            have neC_B : bC ≠ bB := by omega
            clear nzC_P nzC_B
            go_ret
            exact ⟨rfl, HB.out⟩
  · have gz : (z != 0) = true := by simpa using hz
    have gz' : (z == 0) = false := by simpa using hz
    have BR := BR.resolve_left hz
    injection BR with b0 b1 b2 b3
    subst b0 b1 b2 b3
    clear hz SH
    go_wp2
    have KB := Lib.hid (Blk.of (vs := #[.int .i64 0, .int .i64 0, .int .i64 0, .int .i64 0]) (t := 32) (w := w2) (b := w2.heap.size) rfl)
    have hb3 : Below w2.heap.size w2 (w2.alloc (.cells #[.int .i64 0, .int .i64 0, .int .i64 0, .int .i64 0] 32)) := (Below.refl _ _).alloc (Nat.le_refl _) _
    have hnB := HB.out.size
    have nzB_P := KP.out.lt
    replace HB := Lib.hid (HB.out.trans (hb3.mono HB.out.size))
    replace KP := Lib.hid (KP.out.below hb3)
    replace HC := Lib.hid (HC.out.below hb3)
    clear hb3
    generalize w2.alloc (.cells #[.int .i64 0, .int .i64 0, .int .i64 0, .int .i64 0] 32) = w3 at *
    generalize w2.heap.size = bB at *
    have neB_P : bB ≠ w.heap.size := by omega
    clear nzB_P
    go_ret
    exact ⟨rfl, HB.out⟩

/-! ### the row's step -/
set_option maxRecDepth 100000 in
theorem contract (H : Type) (enc : TypeId × Value → H) (W : World) (base : Nat) (args : Array Value) (ds gs : List (DataW H)) (before : List MemPlace)
    (hval : ∀ (j : Nat) t v, Try.f7.params[j]? = some t → args[j]? = some v → Value.okWide Try.prog W .any base t v)
    (hW : DataW.Whole enc Try.prog Try.f7.params.toList Rows.integrityShiftsSpec.vars false W args.toList ds gs before) :
    Calls Try.prog 7 args W fun e W' => ∃ v, e = .returned v ∧ Rows.integrityShiftsSpec.post enc Try.prog Try.f7 false true false false W args v W' := by
  have hW' := hW
  obtain ⟨p, q, hA0, hV, rfl, hfz, hnd⟩ := hW
  have hA : DataW.TrodAll enc Try.prog W 0 (fun _ => true) true Try.f7.params.toList args.toList ds p := hA0
  rw [Try.params7] at hA hval
  obtain ⟨v0, vs0, d0, ds0, p0, q0, hargs, rfl, rfl, h0, r0⟩ := trodAll_cons hA
  obtain ⟨v1, vs1, d1, ds1, p1, q1, rfl, rfl, rfl, h1, r1⟩ := trodAll_cons r0
  obtain ⟨rfl, rfl, rfl⟩ := trodAll_nil r1
  obtain rfl : args = #[v0, v1] := by cases args; simp_all
  obtain ⟨rfl, rfl⟩ := trodVars_none hV
  have h0k := h0
  obtain ⟨l0, g0⟩ := open_list (hval 0 22 v0 rfl rfl) h0
  obtain ⟨x1_0, x1_1, rfl, rfl, rfl, w1_0, w1_1⟩ := open_point (hval 1 30 v1 rfl rfl) h1
  clear hA0
  simp only [List.append_nil] at hW'
  refine (walk v0 l0 x1_0 x1_1 W g0 (bd64 w1_0).1 (bd64 w1_0).2 (bd64 w1_1).1 (bd64 w1_1).2).mono fun e W' ⟨he, hb⟩ => ?_
  subst he
  have hlt : ∀ x ∈ p0, x.block < W.heap.size := fun x hx => hW'.lt x (by simpa using hx)
  exact ⟨_, rfl, post_of_below (pa := p0) (pv := []) hW' (fun _ _ _ => trodAll_cons_mk (shut_bool Try.underlying4 _) trodAll_mk0)
    (fun sp hsp0 => by
      have hsp : ∀ x ∈ p0, sp x.block = true := fun x hx => hsp0 x (by simpa using hx)
      have := (trodAll_cons_mk (WideElems.Trod_stays laidOut (by kernel_rfl) (of_decide_eq_true (by kernel_rfl)) h0k (fun x hx => hb.same (hlt x hx)) (fun x hx => hsp x hx)) (trodAll_cons_mk (shut_point w1_0 w1_1) trodAll_mk0))
      simp only [List.append_nil] at this
      exact this) (fun _ _ => rfl) (by simp)
    hb (ok_one (by kernel_rfl) rfl (okWide_bool_mk Try.underlying4 _))⟩

set_option maxRecDepth 100000 in
theorem lifted (os : Os) (started : os.Started) (H : Type) (enc : TypeId × Value → H) :
    ReturnsInHanded {} Try.checked os 7 .any (Rows.integrityShiftsSpec.pre6 enc Try.prog Try.f7 Rows.integrityShiftsRow.domain false) (Rows.integrityShiftsSpec.post enc Try.prog Try.f7 false true false false) := by
  refine returnsInHanded_of_change (C := Try.checked) own started (by kernel_rfl) Try.func7
    (ChangeSpec.witness6 (enc := enc) (C := Try.checked) false ⟨#[], #[.slice none 0 0, .agg #[.int .i64 0, .int .i64 0]], []⟩ 8 (by kernel_rfl) (by kernel_rfl) (by kernel_rfl) (by kernel_rfl)) ?_
  intro W base args ds gs before hval hW _ _
  exact contract H enc W base args ds gs before hval hW
/-- the law -/
theorem said : Rows.IntegrityShiftsSaid :=
  OpenClaim.holds_of_wide 7 Try.f7 rfl rfl rfl rfl rfl rfl rfl ⟨rfl, rfl, rfl, rfl, rfl⟩ rfl rfl rfl rfl rfl (by kernel_rfl) Try.func7 (by kernel_rfl)
    (of_decide_eq_true (by kernel_rfl)) (by unfold Func.isWrapper; first | (rw [if_pos (by decide +kernel)]; kernel_rfl) | (rw [if_neg (by decide +kernel)]; exact ⟨rfl, rfl⟩))
    (fun os started H enc _ => lifted os started H enc)
end Go.Proofs.Ytplgdlooglnpmaa.integrityShifts
