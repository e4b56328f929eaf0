/-
  The law IntegrityGrows.
-/
import Derived.Test.YtplgdlooglnpmaaStructs43
import Derived.Test.YtplgdlooglnpmaaAwake43
import Derived.Test.YtplgdlooglnpmaaClone43
import Derived.Test.YtplgdlooglnpmaaShiftPlain
import Derived.StillTailTactics
import Derived.Test.YtplgdlooglnpmaaNums43
namespace Go.Proofs.Ytplgdlooglnpmaa.integrityGrows
set_option linter.unusedVariables false
open Go.ChangeShapes Go.WideShapes Go.ChangeAt Go.RowKit

def GwR (L : List Ms) (g : Nat) (W : World) (u : Value) (wr : World) : Prop := ∃ k : Nat, u = .int .i64 k ∧ k ≤ L.length ∧ Hid (Below W.heap.size W wr) ∧ (∃ cur, Hid (MsAt cur g 0 wr) ∧ cur.length = L.length ∧ Hid (∀ i, i < L.length → (i < k → GrM (nth L i) (nth cur i)) ∧ (k ≤ i → nth cur i = nth L i))) ∧ Hid (∀ j, wr.frozen? ⟨g, j, none⟩ = false)
theorem ms_drew {l : List Ms} {g : Nat} {W : World} (h : MsAt l g 0 W) : MsAt l g 0 W.drew := ⟨h.lt, h.c0, h.c1, h.c2, h.c3, h.c4, h.c5⟩
theorem ms_drewN {l : List Ms} {g : Nat} {W : World} (h : MsAt l g 0 W) (n : Nat) : MsAt l g 0 (W.drewN n) := ⟨h.lt, h.c0, h.c1, h.c2, h.c3, h.c4, h.c5⟩
theorem frz_set {W : World} {a p : Addr} {v : Value} (h : W.frozen? p = false) : (W.setCell a v).drew.frozen? p = false := by
  show (W.setCell a v).frozen? p = false
  rw [World.frozen?_setCell]
  exact h
theorem gr_self {m : Ms} (o : OkM m) : GrM m m := ⟨rfl, rfl, rfl, rfl, rfl, Int.le_refl _, o.d1⟩
theorem gr_keep {L cur : List Ms} {k : Nat} (q : k < L.length) (h : ∀ i, i < L.length → (i < k → GrM (nth L i) (nth cur i)) ∧ (k ≤ i → nth cur i = nth L i)) (o : OkM (nth L k)) :
    ∀ i, i < L.length → (i < k + 1 → GrM (nth L i) (nth cur i)) ∧ (k + 1 ≤ i → nth cur i = nth L i) := fun i hi => by
  refine ⟨fun a => ?_, fun a => (h i hi).2 (by omega)⟩
  rcases Nat.lt_or_ge i k with b | b
  · exact (h i hi).1 b
  · have e : i = k := by omega
    subst e
    rw [(h i hi).2 (Nat.le_refl _)]
    exact gr_self o
theorem gr_next {L cur : List Ms} {k : Nat} {p : Int} (q : k < L.length) (hl : cur.length = L.length) (h : ∀ i, i < L.length → (i < k → GrM (nth L i) (nth cur i)) ∧ (k ≤ i → nth cur i = nth L i)) (o : OkM (nth L k)) (hp0 : 0 ≤ p) (hp1 : (nth L k).d + p ≤ 4294967296) :
    ∀ i, i < L.length → (i < k + 1 → GrM (nth L i) (nth (cur.set k { nth cur k with d := (nth L k).d + p }) i)) ∧ (k + 1 ≤ i → nth (cur.set k { nth cur k with d := (nth L k).d + p }) i = nth L i) := by
  intro i hi
  have e : nth (cur.set k { nth cur k with d := (nth L k).d + p }) i = if i = k then { nth cur k with d := (nth L k).d + p } else nth cur i := by
    unfold nth
    rw [List.getD_eq_getElem?_getD, List.getElem?_set]
    by_cases q : k = i
    · subst q; simp [hl, hi]
    · rw [if_neg q, if_neg (fun e => q e.symm), List.getD_eq_getElem?_getD]
  rw [e]
  by_cases hik : i = k
  · subst hik
    rw [if_pos rfl]
    refine ⟨fun _ => ?_, fun a => absurd a (by omega)⟩
    rw [(h i hi).2 (Nat.le_refl _)]
    exact ⟨rfl, rfl, rfl, rfl, rfl, by show (nth L i).d ≤ (nth L i).d + p; omega, hp1⟩
  · rw [if_neg hik]
    exact ⟨fun a => (h i hi).1 (by omega), fun a => (h i hi).2 (by omega)⟩
theorem gr_list : ∀ (L cur : List Ms), cur.length = L.length → (∀ i, i < L.length → GrM (nth L i) (nth cur i)) → GrL L cur
  | [], [], _, _ => .nil
  | [], _ :: _, h, _ => by simp at h
  | _ :: _, [], h, _ => by simp at h
  | m :: r, m' :: r', h, g => .cons (g 0 (by simp)) (gr_list r r' (by simpa using h) fun i hi => g (i + 1) (by simpa using hi))
theorem gr_end {L cur : List Ms} (hl : cur.length = L.length) (h : ∀ i, i < L.length → (i < L.length → GrM (nth L i) (nth cur i)) ∧ (L.length ≤ i → nth cur i = nth L i)) : GrL L cur :=
  gr_list L cur hl fun i hi => (h i hi).1 hi
theorem lev_ne {L : List Ms} (h : LevOk L) : L ≠ [] := fun e => by
  subst e
  exact (sol_chk h.sol).2.1 rfl
theorem grow_facts {L : List Ms} (h : LevOk L) : L ≠ [] ∧ OkL L ∧ ∀ l', GrL L l' → (levF l').2 = 2 ∨ ((levF l').2 = 0 ∧ (levF l').1.cx = (levF L).1.cx ∧ (levF l').1.cy = (levF L).1.cy ∧ (levF L).1.x ≤ (levF l').1.x ∧ (levF L).1.y ≤ (levF l').1.y) :=
  ⟨lev_ne h, okL_of (sol_chk h.sol).1, fun l' g => grows g h⟩
set_option maxHeartbeats 40000000 in
set_option maxRecDepth 100000 in
theorem walk (v : Value) (l : List Ms) (vn : Value) (N : List Int) (w : World) (h : LstAt l v w) (hn : NumsAt N vn w) :
    Calls Try.prog 6 #[v, vn] w fun e w' => e = .returned (.bool true) ∧ Below w.heap.size w w' := by
  obtain ⟨pn, cn, rfl⟩ := nums_form hn
  have HN0 := Lib.hid hn
  clear hn
  have H0 := Lib.hid h
  have HB := Lib.hid (Below.refl w.heap.size w)
  go_enter Try.func6, Try.ntmps6
  clear h
  go_wp2_with fail
  refine (awake_any _).mono ?_
  rintro e1 w1 ⟨rfl, hb1⟩
  replace HB := Lib.hid (HB.out.trans (hb1.mono HB.out.size))
  clear hb1
  go_wp2_with fail
  refine (cut_any _ _ _ (H0.out.below HB.out)).mono ?_
  rintro e2 w2 ⟨⟨ps, caps, rfl, hcl⟩, rfl⟩
  have HC := Lib.hid hcl
  have CL := Lib.hid (cut_len l)
  clear hcl
  generalize cutL l = L at *
  have LV := Lib.hid fun w h => lev_any L (.slice ps L.length caps) w h
  have BR := bad_lev L
  have SH := Lib.hid fun (hz : (levF L).2 = 0) => grow_facts (lev_ok hz)
  obtain ⟨R, hR⟩ : ∃ z, levF L = z := ⟨_, rfl⟩
  rw [hR] at LV BR SH
  clear hR
  obtain ⟨⟨cx, cy, bx, by'⟩, z⟩ := R
  simp only at BR
  unfold boxV box0 at *
  simp only at LV SH
  go_wp2_with fail
  refine (LV.out _ HC.out).mono ?_
  rintro e2 w2 ⟨rfl, hb2⟩
  replace HB := Lib.hid (HB.out.trans (hb2.mono HB.out.size))
  replace HC := Lib.hid (HC.out.below hb2)
  clear hb2
  clear LV
  rcases Decidable.em (z = 0) with rfl | hz
  · clear BR
    obtain ⟨NE, OKL, S3⟩ := SH.out (by first | rfl | trivial)
    have NE := Lib.hid NE
    have OKL := Lib.hid OKL
    have S3 := Lib.hid S3
    clear SH
    have CLN := Lib.hid fun w h => clone_any L (.slice ps L.length caps) w h CL.out
    go_wp2_with fail
    have KB := Lib.hid (Blk.of (vs := #[.int .i64 cx, .int .i64 cy, .int .i64 bx, .int .i64 (by')]) (t := 32) (w := w2) (b := w2.heap.size) rfl)
    have hb3 : Below w2.heap.size w2 (w2.alloc (.cells #[.int .i64 cx, .int .i64 cy, .int .i64 bx, .int .i64 (by')] 32)) := (Below.refl _ _).alloc (Nat.le_refl _) _
    have hnB := HB.out.size
    replace HB := Lib.hid (HB.out.trans (hb3.mono HB.out.size))
    replace HC := Lib.hid (HC.out.below hb3)
    clear hb3
    generalize w2.alloc (.cells #[.int .i64 cx, .int .i64 cy, .int .i64 bx, .int .i64 (by')] 32) = w3 at *
    generalize w2.heap.size = bB at *
    refine (CLN.out _ HC.out).mono ?_
    rintro e30 w30 ⟨⟨um, rfl, hom⟩, hb30⟩
    rcases om_cases hom with ⟨_, e⟩ | ⟨gm, cm, rfl, k1, k2, k3, k4, k5⟩
    · exact absurd e NE.out
    have OMM := Lib.hid k4
    have OMF := Lib.hid k5
    clear hom k4 k5 NE CLN
    have HBW := HB
    have B0 := KB
    have HBC := Lib.hid hb30
    clear hb30
    have HNU := Lib.hid (HN0.out.below HB.out)
    go_wp2
    go_loopw [29] (GwR L gm w3) (fun i _ => L.length - (intOf i).toNat)
    case atStart => exact ⟨0, rfl, Nat.zero_le _, HBC, ⟨L, OMM, rfl, Lib.hid fun i hi => ⟨fun h => absurd h (by omega), fun _ => rfl⟩⟩, OMF⟩
    case round =>
      clear OMM OMF HBC HB KB
      obtain ⟨k, rfl, hk, HBC, ⟨cur, HM, hlen, HF⟩, OMF⟩ := hrel
      have HB := Lib.hid (HBW.out.trans (HBC.out.mono HBW.out.size))
      have KB := Lib.hid (B0.out.below HBC.out)
      by_cases q : k < L.length
      · have q' : decide (k < L.length) = true := by simpa using q
        have q0 : (0 : Int) ≤ (k : Int) := by omega
        have q1 : (k : Int) < (L.length : Int) := by omega
        have ql : k < cur.length := by omega
        have c4 := HM.out.c4 k ql
        rw [(HF.out k q).2 (Nat.le_refl _)] at c4
        simp only [Nat.zero_add] at c4
        have clt := HM.out.lt
        have fz := OMF.out (k * 6 + 4)
        have OK := OKL.out.ok _ (nth_mem q)
        have HK := Lib.hid (gr_keep q HF.out OK)
        have HN := Lib.hid fun p hp0 hp1 => gr_next (p := p) q hlen HF.out OK hp0 hp1
        have MN := Lib.hid fun (W : World) (h : MsAt cur gm 0 W) p => ms_setd (w := W) h ql ((nth L k).d + p)
        have d0 := OK.d0
        have d1 := OK.d1
        clear OK
        generalize nth L k = mm at *
        have e4 : ∀ n, (wr.drewN n).cell? ⟨gm, k * 6 + 4, none⟩ = some (.int .i64 mm.d) := fun n => c4
        have sd : IntKind.i64.wrap (4294967296 - mm.d) = 4294967296 - mm.d := IntWalk.i64_in _ (by omega)
        by_cases hN : k < N.length
        · have g1 : decide ((k : Int) < (N.length : Int)) = true := by simp; omega
          have g1' : decide (k < N.length) = true := by simpa using hN
          have n1 : (k : Int) < (N.length : Int) := by omega
          obtain ⟨b, o, rfl, hc, hm, blt, bc, bi⟩ := nums_at (HNU.out.below HBC.out) hN
          obtain ⟨b0, b1⟩ := bi
          generalize N.getD k 0 = p at *
          have ec : ∀ n, (wr.drewN n).cell? ⟨b, o + k, none⟩ = some (.int .i64 p) := fun n => bc
          by_cases h2 : 0 < p
          · have g2 : decide (0 < p) = true := by simpa using h2
            by_cases h3 : p ≤ 4294967296 - mm.d
            · have g3 : decide (p ≤ 4294967296 - mm.d) = true := by simpa using h3
              have sp : IntKind.i64.wrap (mm.d + p) = mm.d + p := IntWalk.i64_in _ (by omega)
              have HN2 := Lib.hid (HN.out p (by omega) (by omega))
              clear hN h2 h3
              go_wp2_with fail
              go_quiet (fail)
              have MN2 := Lib.hid (ms_drew (MN.out (wr.drewN nq) (ms_drewN HM.out nq) p))
              have HB2 := Lib.hid (below_drew1 ((below_drewN HBC.out nq).setCell (p := ⟨gm, k * 6 + 4, none⟩) k3 (.int .i64 (mm.d + p))))
              have OF2 := Lib.hid fun j => frz_set (a := ⟨gm, k * 6 + 4, none⟩) (v := .int .i64 (mm.d + p)) (show (wr.drewN nq).frozen? ⟨gm, j, none⟩ = false from OMF.out j)
              have x4 : (wr.drewN nq).cell? ⟨gm, k * 6 + 4, none⟩ = some (.int .i64 mm.d) := c4
              have xc : (wr.drewN nq).cell? ⟨b, o + k, none⟩ = some (.int .i64 p) := bc
              have xf : (wr.drewN nq).frozen? ⟨gm, k * 6 + 4, none⟩ = false := fz
              have xl : gm < (wr.drewN nq).heap.size := clt
              have xb : b < (wr.drewN nq).heap.size := blt
              clear e4 ec c4 bc fz clt blt
              generalize wr.drewN nq = wq at *
              go_wp2_with fail
              go_still_tail 12, (by kernel_rfl)
              go_wp2
              exact ⟨⟨k + 1, by go_num, by omega, HB2, ⟨_, MN2, by rw [List.length_set]; exact hlen, HN2⟩, OF2⟩, by simp [intOf]; omega⟩
            · have g3 : decide (p ≤ 4294967296 - mm.d) = false := by simp; omega
              clear hN h2 h3
              go_wp2_with fail
              go_quiet (fail)
              go_wp2
              exact ⟨⟨k + 1, by go_num, by omega, Lib.hid (below_drewN HBC.out _), ⟨cur, Lib.hid (ms_drewN HM.out _), hlen, HK⟩, Lib.hid fun j => OMF.out j⟩, by simp [intOf]; omega⟩
          · have g2 : decide (0 < p) = false := by simpa using h2
            clear hN h2
            go_wp2_with fail
            go_quiet (fail)
            go_wp2
            exact ⟨⟨k + 1, by go_num, by omega, Lib.hid (below_drewN HBC.out _), ⟨cur, Lib.hid (ms_drewN HM.out _), hlen, HK⟩, Lib.hid fun j => OMF.out j⟩, by simp [intOf]; omega⟩
        · have g1 : decide ((k : Int) < (N.length : Int)) = false := by simp; omega
          have g1' : decide (k < N.length) = false := by simp; omega
          clear hN
          go_wp2_with fail
          go_quiet (fail)
          go_wp2
          exact ⟨⟨k + 1, by go_num, by omega, Lib.hid (below_drewN HBC.out _), ⟨cur, Lib.hid (ms_drewN HM.out _), hlen, HK⟩, Lib.hid fun j => OMF.out j⟩, by simp [intOf]; omega⟩
      · obtain rfl : k = L.length := by omega
        have GG := gr_end hlen HF.out
        have S4 := S3.out cur GG
        have HL2 := Lib.hid (show LstAt cur (.slice (some ⟨gm, 0, none⟩) L.length cm) wr from .inr ⟨gm, 0, cm, by rw [hlen], by rw [hlen]; exact k1, k2, HM.out⟩)
        have LV2 := Lib.hid fun w h => lev_any cur (.slice (some ⟨gm, 0, none⟩) L.length cm) w h
        obtain ⟨R, hR⟩ : ∃ z, levF cur = z := ⟨_, rfl⟩
        rw [hR] at LV2 S4
        clear hR S3 GG
        obtain ⟨⟨dx, dy, ex, ey⟩, f⟩ := R
        unfold boxV at LV2
        simp only at LV2 S4
        go_wp2_with fail
        refine (LV2.out _ HL2.out).mono ?_
        rintro e41 w41 ⟨rfl, hb41⟩
        replace HB := Lib.hid (HB.out.trans (hb41.mono HB.out.size))
        replace KB := Lib.hid (KB.out.below hb41)
        clear hb41
        clear LV2 HL2
        rcases S4 with rfl | ⟨rfl, rfl, rfl, s1, s2⟩
        · go_wp2
          have KC := Lib.hid (Blk.of (vs := #[.int .i64 dx, .int .i64 dy, .int .i64 ex, .int .i64 ey]) (t := 32) (w := w41) (b := w41.heap.size) rfl)
          have hb42 : Below w41.heap.size w41 (w41.alloc (.cells #[.int .i64 dx, .int .i64 dy, .int .i64 ex, .int .i64 ey] 32)) := (Below.refl _ _).alloc (Nat.le_refl _) _
          have hnC := HB.out.size
          have nzC_B := KB.out.lt
          replace HB := Lib.hid (HB.out.trans (hb42.mono HB.out.size))
          replace KB := Lib.hid (KB.out.below hb42)
          clear hb42
          generalize w41.alloc (.cells #[.int .i64 dx, .int .i64 dy, .int .i64 ex, .int .i64 ey] 32) = w42 at *
          generalize w41.heap.size = bC at *
          have neC_B : bC ≠ bB := by omega
          clear nzC_B
          go_ret
          exact ⟨rfl, HB.out⟩
        · have g1 : decide (bx ≤ ex) = true := decide_eq_true s1
          have g2 : decide (by' ≤ ey) = true := decide_eq_true s2
          clear s1 s2
          have yB := KB.out
          have yB_0 := yB.c 0 _ rfl
          have yB_1 := yB.c 1 _ rfl
          have yB_2 := yB.c 2 _ rfl
          have yB_3 := yB.c 3 _ rfl
          have yB_z := yB.lt
          clear yB
          go_wp2
          have KC := Lib.hid (Blk.of (vs := #[.int .i64 dx, .int .i64 dy, .int .i64 ex, .int .i64 ey]) (t := 32) (w := w41) (b := w41.heap.size) rfl)
          have hb42 : Below w41.heap.size w41 (w41.alloc (.cells #[.int .i64 dx, .int .i64 dy, .int .i64 ex, .int .i64 ey] 32)) := (Below.refl _ _).alloc (Nat.le_refl _) _
          have hnC := HB.out.size
          have nzC_B := KB.out.lt
          replace HB := Lib.hid (HB.out.trans (hb42.mono HB.out.size))
          replace KB := Lib.hid (KB.out.below hb42)
          clear hb42
          generalize w41.alloc (.cells #[.int .i64 dx, .int .i64 dy, .int .i64 ex, .int .i64 ey] 32) = w42 at *
          generalize w41.heap.size = bC at *
          have neC_B : bC ≠ bB := by omega
          clear nzC_B
          go_ret
          exact ⟨rfl, HB.out⟩
  · have gz : (z != 0) = true := by simpa using hz
    have gz' : (z == 0) = false := by simpa using hz
    have BR := BR.resolve_left hz
    injection BR with b0 b1 b2 b3
    subst b0 b1 b2 b3
    clear hz SH
    go_wp2
    have KB := Lib.hid (Blk.of (vs := #[.int .i64 0, .int .i64 0, .int .i64 0, .int .i64 0]) (t := 32) (w := w2) (b := w2.heap.size) rfl)
    have hb3 : Below w2.heap.size w2 (w2.alloc (.cells #[.int .i64 0, .int .i64 0, .int .i64 0, .int .i64 0] 32)) := (Below.refl _ _).alloc (Nat.le_refl _) _
    have hnB := HB.out.size
    replace HB := Lib.hid (HB.out.trans (hb3.mono HB.out.size))
    replace HC := Lib.hid (HC.out.below hb3)
    clear hb3
    generalize w2.alloc (.cells #[.int .i64 0, .int .i64 0, .int .i64 0, .int .i64 0] 32) = w3 at *
    generalize w2.heap.size = bB at *
    go_ret
    exact ⟨rfl, HB.out⟩

/-! ### the row's step -/
set_option maxRecDepth 100000 in
theorem contract (H : Type) (enc : TypeId × Value → H) (W : World) (base : Nat) (args : Array Value) (ds gs : List (DataW H)) (before : List MemPlace)
    (hval : ∀ (j : Nat) t v, Try.f6.params[j]? = some t → args[j]? = some v → Value.okWide Try.prog W .any base t v)
    (hW : DataW.Whole enc Try.prog Try.f6.params.toList Rows.integrityGrowsSpec.vars false W args.toList ds gs before) :
    Calls Try.prog 6 args W fun e W' => ∃ v, e = .returned v ∧ Rows.integrityGrowsSpec.post enc Try.prog Try.f6 false true false false W args v W' := by
  have hW' := hW
  obtain ⟨p, q, hA0, hV, rfl, hfz, hnd⟩ := hW
  have hA : DataW.TrodAll enc Try.prog W 0 (fun _ => true) true Try.f6.params.toList args.toList ds p := hA0
  rw [Try.params6] at hA hval
  obtain ⟨v0, vs0, d0, ds0, p0, q0, hargs, rfl, rfl, h0, r0⟩ := trodAll_cons hA
  obtain ⟨v1, vs1, d1, ds1, p1, q1, rfl, rfl, rfl, h1, r1⟩ := trodAll_cons r0
  obtain ⟨rfl, rfl, rfl⟩ := trodAll_nil r1
  obtain rfl : args = #[v0, v1] := by cases args; simp_all
  obtain ⟨rfl, rfl⟩ := trodVars_none hV
  have h0k := h0
  obtain ⟨l0, g0⟩ := open_list (hval 0 22 v0 rfl rfl) h0
  have h1k := h1
  obtain ⟨l1, g1⟩ := open_nums (hval 1 41 v1 rfl rfl) h1
  clear hA0
  simp only [List.append_nil] at hW'
  refine (walk v0 l0 v1 l1 W g0 g1).mono fun e W' ⟨he, hb⟩ => ?_
  subst he
  have hlt : ∀ x ∈ p0 ++ p1, x.block < W.heap.size := fun x hx => hW'.lt x (by simpa using hx)
  exact ⟨_, rfl, post_of_below (pa := p0 ++ p1) (pv := []) hW' (fun _ _ _ => trodAll_cons_mk (shut_bool Try.underlying4 _) trodAll_mk0)
    (fun sp hsp0 => by
      have hsp : ∀ x ∈ p0 ++ p1, sp x.block = true := fun x hx => hsp0 x (by simpa using hx)
      have := (trodAll_cons_mk (WideElems.Trod_stays laidOut (by kernel_rfl) (of_decide_eq_true (by kernel_rfl)) h0k (fun x hx => hb.same (hlt x (List.mem_append_left _ hx))) (fun x hx => hsp x (List.mem_append_left _ hx))) (trodAll_cons_mk (WideElems.Trod_stays laidOut (by kernel_rfl) (of_decide_eq_true (by kernel_rfl)) h1k (fun x hx => hb.same (hlt x (List.mem_append_right _ hx))) (fun x hx => hsp x (List.mem_append_right _ hx))) trodAll_mk0))
      simp only [List.append_nil] at this
      exact this) (fun _ _ => rfl) (by simp)
    hb (ok_one (by kernel_rfl) rfl (okWide_bool_mk Try.underlying4 _))⟩

set_option maxRecDepth 100000 in
theorem lifted (os : Os) (started : os.Started) (H : Type) (enc : TypeId × Value → H) :
    ReturnsInHanded {} Try.checked os 6 .any (Rows.integrityGrowsSpec.pre6 enc Try.prog Try.f6 Rows.integrityGrowsRow.domain false) (Rows.integrityGrowsSpec.post enc Try.prog Try.f6 false true false false) := by
  refine returnsInHanded_of_change (C := Try.checked) own started (by kernel_rfl) Try.func6
    (ChangeSpec.witness6 (enc := enc) (C := Try.checked) false ⟨#[], #[.slice none 0 0, .slice none 0 0], []⟩ 8 (by kernel_rfl) (by kernel_rfl) (by kernel_rfl) (by kernel_rfl)) ?_
  intro W base args ds gs before hval hW _ _
  exact contract H enc W base args ds gs before hval hW
/-- the law -/
theorem said : Rows.IntegrityGrowsSaid :=
  OpenClaim.holds_of_wide 6 Try.f6 rfl rfl rfl rfl rfl rfl rfl ⟨rfl, rfl, rfl, rfl, rfl⟩ rfl rfl rfl rfl rfl (by kernel_rfl) Try.func6 (by kernel_rfl)
    (of_decide_eq_true (by kernel_rfl)) (by unfold Func.isWrapper; first | (rw [if_pos (by decide +kernel)]; kernel_rfl) | (rw [if_neg (by decide +kernel)]; exact ⟨rfl, rfl⟩))
    (fun os started H enc _ => lifted os started H enc)
end Go.Proofs.Ytplgdlooglnpmaa.integrityGrows
