/-
  The law IntegrityProtects.
-/
import Derived.Test.YtplgdlooglnpmaaStructs43
import Derived.Test.YtplgdlooglnpmaaAwake43
import Derived.Test.YtplgdlooglnpmaaHold43
namespace Go.Proofs.Ytplgdlooglnpmaa.integrityProtects
set_option linter.unusedVariables false
open Go.ChangeShapes Go.WideShapes Go.ChangeAt Go.RowKit

/-- the laws' loops over the measurements -/
def PrR (L : List Ms) (x y f : Int) (W : World) (u : Value) (wr : World) : Prop := ∃ k : Nat, u = .int .i64 k ∧ k ≤ L.length ∧ Hid (Below W.heap.size W wr) ∧ Hid (∀ i, i < k → (nth L i).s ≠ f → hldB (nth L i) x y = true)
def AcR (L : List Ms) (x y : Int) (W : World) (u : Value) (wr : World) : Prop := ∃ k : Nat, u = .int .i64 k ∧ k ≤ L.length ∧ Hid (Below W.heap.size W wr) ∧ Hid (∀ i, i < k → hldB (nth L i) x y = true)
theorem hld_hold {m : Ms} {x y : Int} (h : hldB m x y = true) : HoldP m x y ∧ vldP x y = true := by
  unfold hldB at h
  simp only [Bool.and_eq_true, decide_eq_true_eq] at h
  obtain ⟨_, hv, h⟩ := h
  refine ⟨?_, hv⟩
  unfold HoldP
  unfold absI missI at h
  split at h <;> omega
structure BoxOk (cx cy bx bY x y : Int) : Prop where
  i0 : x - cx ≤ bx
  i1 : cx - x ≤ bx
  i2 : y - cy ≤ bY
  i3 : cy - y ≤ bY
  p0 : -2000000 ≤ x ∧ x ≤ 2000000
  p1 : -2000000 ≤ y ∧ y ≤ 2000000
  p2 : -2000000 ≤ cx ∧ cx ≤ 2000000
  p3 : -2000000 ≤ cy ∧ cy ≤ 2000000
theorem mem_nth {L : List Ms} {m : Ms} (h : m ∈ L) : ∃ i, i < L.length ∧ nth L i = m := by
  obtain ⟨i, hi, e⟩ := List.getElem_of_mem h
  exact ⟨i, hi, by rw [nth_eq hi]; exact e⟩
theorem prot_box {L : List Ms} {x y f : Int} (h : LevOk L) (ht : ∀ i, i < L.length → (nth L i).s ≠ f → hldB (nth L i) x y = true) (hv : vldP x y = true) : BoxOk (levF L).1.cx (levF L).1.cy (levF L).1.x (levF L).1.y x y := by
  obtain ⟨a, b, c, d⟩ := protects (px := x) (py := y) (faulty := f) h fun m hm hs => by
    obtain ⟨i, hi, rfl⟩ := mem_nth hm
    exact (hld_hold (ht i hi hs)).1
  have v := vldP_iff.1 hv
  obtain ⟨_, _, hx, hy⟩ := sol_chk h.sol
  have e := lev_val h
  have ex : (levF L).1.cx = cenX L := by rw [e]
  have ey : (levF L).1.cy = cenY L := by rw [e]
  have px := pOk_iff.1 hx
  have py := pOk_iff.1 hy
  exact ⟨a, b, c, d, by omega, by omega, by omega, by omega⟩
theorem acc_box {L : List Ms} {x y : Int} (h : (accF L).2 = 0) (ht : ∀ i, i < L.length → hldB (nth L i) x y = true) : BoxOk (accF L).1.cx (accF L).1.cy (accF L).1.x (accF L).1.y x y := by
  obtain ⟨a, b, c, d⟩ := accurate (px := x) (py := y) h fun m hm => by
    obtain ⟨i, hi, rfl⟩ := mem_nth hm
    exact (hld_hold (ht i hi)).1
  have hs : solE L = 0 := by
    unfold accF at h
    split at h
    · assumption
    · simpa using h
  have e : (accF L).1.cx = cenX L ∧ (accF L).1.cy = cenY L := by
    unfold accF at h ⊢
    rw [if_pos hs] at h ⊢
    split at h
    · rename_i q; rw [if_pos q]; exact ⟨rfl, rfl⟩
    · simp at h
  obtain ⟨hc, hd, hx, hy⟩ := sol_chk hs
  have px := pOk_iff.1 hx
  have py := pOk_iff.1 hy
  have hv : vldP x y = true := by
    have hne : 0 < L.length := by
      rcases Nat.eq_zero_or_pos L.length with q | q
      · have : L = [] := List.eq_nil_of_length_eq_zero q
        subst this
        exact absurd (by rfl) hd
      · exact q
    exact (hld_hold (ht 0 hne)).2
  have v := vldP_iff.1 hv
  exact ⟨a, b, c, d, by omega, by omega, by omega, by omega⟩
set_option maxHeartbeats 40000000 in
set_option maxRecDepth 100000 in
theorem walk (v : Value) (l : List Ms) (x y f : Int) (w : World) (h : LstAt l v w) (_x0 : -9223372036854775808 ≤ x) (_x1 : x ≤ 9223372036854775807) (_y0 : -9223372036854775808 ≤ y) (_y1 : y ≤ 9223372036854775807) (_f0 : -9223372036854775808 ≤ f) (_f1 : f ≤ 9223372036854775807) :
    Calls Try.prog 4 #[v, .agg #[.int .i64 x, .int .i64 y], .int .i64 f] w fun e w' => e = .returned (.bool true) ∧ Below w.heap.size w w' := by
  clear _x0 _x1 _y0 _y1 _f0 _f1
  have H0 := Lib.hid h
  have KP := Lib.hid (Blk.of (vs := #[.int .i64 x, .int .i64 y]) (t := 30) (w := w) (b := w.heap.size) (by simp))
  have HB := Lib.hid ((Below.refl w.heap.size w).alloc (by simp; try omega) (.cells #[.int .i64 x, .int .i64 y] 30))
  go_enter Try.func4, Try.ntmps4
  clear h
  go_wp2_with fail
  generalize w.alloc (.cells #[.int .i64 x, .int .i64 y] 30) = w0 at *
  refine (awake_any _).mono ?_
  rintro e1 w1 ⟨rfl, hb1⟩
  replace HB := Lib.hid (HB.out.trans (hb1.mono HB.out.size))
  replace KP := Lib.hid (KP.out.below hb1)
  clear hb1
  go_wp2_with fail
  refine (cut_any _ _ _ (H0.out.below HB.out)).mono ?_
  rintro e2 w2 ⟨⟨ps, caps, rfl, hcl⟩, rfl⟩
  have HC := Lib.hid hcl
  have CL := Lib.hid (cut_len l)
  clear hcl
  generalize cutL l = L at *
  have LV := Lib.hid fun w h => lev_any L (.slice ps L.length caps) w h
  have BR := bad_lev L
  have PR := Lib.hid fun (hz : (levF L).2 = 0) (ht : ∀ i, i < L.length → (nth L i).s ≠ f → hldB (nth L i) x y = true) => prot_box (lev_ok hz) ht
  obtain ⟨R, hR⟩ : ∃ z, levF L = z := ⟨_, rfl⟩
  rw [hR] at LV BR PR
  clear hR
  obtain ⟨⟨cx, cy, bx, by'⟩, z⟩ := R
  simp only at BR
  unfold boxV box0 at *
  simp only at LV PR
  go_wp2_with fail
  refine (LV.out _ HC.out).mono ?_
  rintro e2 w2 ⟨rfl, hb2⟩
  replace HB := Lib.hid (HB.out.trans (hb2.mono HB.out.size))
  replace KP := Lib.hid (KP.out.below hb2)
  replace HC := Lib.hid (HC.out.below hb2)
  clear hb2
  clear LV
  rcases Decidable.em (z = 0) with rfl | hz
  · clear BR
    go_wp2
    have KB := Lib.hid (Blk.of (vs := #[.int .i64 cx, .int .i64 cy, .int .i64 bx, .int .i64 (by')]) (t := 32) (w := w2) (b := w2.heap.size) rfl)
    have hb3 : Below w2.heap.size w2 (w2.alloc (.cells #[.int .i64 cx, .int .i64 cy, .int .i64 bx, .int .i64 (by')] 32)) := (Below.refl _ _).alloc (Nat.le_refl _) _
    have hnB := HB.out.size
    have nzB_P := KP.out.lt
    replace HB := Lib.hid (HB.out.trans (hb3.mono HB.out.size))
    replace KP := Lib.hid (KP.out.below hb3)
    replace HC := Lib.hid (HC.out.below hb3)
    clear hb3
    generalize w2.alloc (.cells #[.int .i64 cx, .int .i64 cy, .int .i64 bx, .int .i64 (by')] 32) = w3 at *
    generalize w2.heap.size = bB at *
    have neB_P : bB ≠ w.heap.size := by omega
    clear nzB_P
    have HP0 := KP
    have HB0 := KB
    have HBW := HB
    go_loopw [27] (PrR L x y f w3) (fun i _ => L.length - (intOf i).toNat)
    case atStart => exact ⟨0, rfl, Nat.zero_le _, Lib.hid (Below.refl _ _), Lib.hid fun i hi => absurd hi (by omega)⟩
    case round =>
      clear KP KB HB
      obtain ⟨k, rfl, hk, HBR, HR⟩ := hrel
      have KP := Lib.hid (HP0.out.below HBR.out)
      have KB := Lib.hid (HB0.out.below HBR.out)
      have HB := Lib.hid (HBW.out.trans (HBR.out.mono HBW.out.size))
      by_cases q : k < L.length
      · have q' : decide (k < L.length) = true := by simpa using q
        obtain ⟨b, o, rfl, hcap, hmax, MM⟩ := lst_at (HC.out.below HBR.out) q
        have c0 := MM.c0 k q
        have c1 := MM.c1 k q
        have c2 := MM.c2 k q
        have c3 := MM.c3 k q
        have c4 := MM.c4 k q
        have c5 := MM.c5 k q
        have clt := MM.lt
        clear MM
        have HO := Lib.hid fun w => holdsM_any (nth L k) x y w
        have HN := Lib.hid fun (h : (nth L k).s ≠ f → hldB (nth L k) x y = true) i (hi : i < k + 1) => show (nth L i).s ≠ f → hldB (nth L i) x y = true from by rcases Nat.lt_or_ge i k with a | a; exact HR.out i a; rw [show i = k by omega]; exact h
        generalize nth L k = mm at *
        by_cases hf : mm.s = f
        · have g : (mm.s != f) = false := by simpa using hf
          have HN2 := Lib.hid (HN.out fun a => absurd hf a)
          clear HN hf HO
          go_wp2
          have KM := Lib.hid (Blk.of (vs := #[.int .i64 mm.s, .int .i64 mm.a, .int .i64 mm.b, .int .i64 mm.z, .int .i64 mm.d, .int .i64 mm.w]) (t := 36) (w := wr) (b := wr.heap.size) rfl)
          have hb21 : Below wr.heap.size wr (wr.alloc (.cells #[.int .i64 mm.s, .int .i64 mm.a, .int .i64 mm.b, .int .i64 mm.z, .int .i64 mm.d, .int .i64 mm.w] 36)) := (Below.refl _ _).alloc (Nat.le_refl _) _
          have hnM := HB.out.size
          have nzM_P := KP.out.lt
          have nzM_B := KB.out.lt
          replace HB := Lib.hid (HB.out.trans (hb21.mono HB.out.size))
          replace KP := Lib.hid (KP.out.below hb21)
          replace KB := Lib.hid (KB.out.below hb21)
          replace HBR := Lib.hid (HBR.out.trans (hb21.mono (Nat.le_trans (Nat.le_refl w3.heap.size) HBR.out.size)))
          clear hb21
          generalize wr.alloc (.cells #[.int .i64 mm.s, .int .i64 mm.a, .int .i64 mm.b, .int .i64 mm.z, .int .i64 mm.d, .int .i64 mm.w] 36) = w21 at *
          generalize wr.heap.size = bM at *
          have neM_P : bM ≠ w.heap.size := by omega
          have neM_B : bM ≠ bB := by omega
          clear nzM_P nzM_B
          exact ⟨⟨k + 1, by go_num, by omega, HBR, HN2⟩, by simp [intOf]; omega⟩
        · have g : (mm.s != f) = true := by simpa using hf
          clear hf
          cases hh : hldB mm x y with
          | true =>
            rw [hh] at HO
            have HN2 := Lib.hid (HN.out fun _ => hh)
            clear hh HN
            have yP := KP.out
            have yP_0 := yP.c 0 _ rfl
            have yP_1 := yP.c 1 _ rfl
            have yP_z := yP.lt
            clear yP
            go_wp2_with fail
            have KM := Lib.hid (Blk.of (vs := #[.int .i64 mm.s, .int .i64 mm.a, .int .i64 mm.b, .int .i64 mm.z, .int .i64 mm.d, .int .i64 mm.w]) (t := 36) (w := wr) (b := wr.heap.size) rfl)
            have hb21 : Below wr.heap.size wr (wr.alloc (.cells #[.int .i64 mm.s, .int .i64 mm.a, .int .i64 mm.b, .int .i64 mm.z, .int .i64 mm.d, .int .i64 mm.w] 36)) := (Below.refl _ _).alloc (Nat.le_refl _) _
            have hnM := HB.out.size
            have nzM_P := KP.out.lt
            have nzM_B := KB.out.lt
            replace HB := Lib.hid (HB.out.trans (hb21.mono HB.out.size))
            replace KP := Lib.hid (KP.out.below hb21)
            replace KB := Lib.hid (KB.out.below hb21)
            replace HBR := Lib.hid (HBR.out.trans (hb21.mono (Nat.le_trans (Nat.le_refl w3.heap.size) HBR.out.size)))
            clear yP_0 yP_1 yP_z
            clear hb21
            generalize wr.alloc (.cells #[.int .i64 mm.s, .int .i64 mm.a, .int .i64 mm.b, .int .i64 mm.z, .int .i64 mm.d, .int .i64 mm.w] 36) = w21 at *
            generalize wr.heap.size = bM at *
            have neM_P : bM ≠ w.heap.size := by omega
            have neM_B : bM ≠ bB := by omega
            clear nzM_P nzM_B
            clear c0 c1 c2 c3 c4 c5 clt
            refine (HO.out _).mono ?_
            rintro e22 w22 ⟨rfl, hb22⟩
            replace HB := Lib.hid (HB.out.trans (hb22.mono HB.out.size))
            replace KP := Lib.hid (KP.out.below hb22)
            replace KB := Lib.hid (KB.out.below hb22)
            replace KM := Lib.hid (KM.out.below hb22)
            replace HBR := Lib.hid (HBR.out.trans (hb22.mono (Nat.le_trans (Nat.le_refl w3.heap.size) HBR.out.size)))
            clear hb22
            go_wp2
            exact ⟨⟨k + 1, by go_num, by omega, HBR, HN2⟩, by simp [intOf]; omega⟩
          | false =>
            rw [hh] at HO
            clear HN
            clear hh
            have yP := KP.out
            have yP_0 := yP.c 0 _ rfl
            have yP_1 := yP.c 1 _ rfl
            have yP_z := yP.lt
            clear yP
            go_wp2_with fail
            have KM := Lib.hid (Blk.of (vs := #[.int .i64 mm.s, .int .i64 mm.a, .int .i64 mm.b, .int .i64 mm.z, .int .i64 mm.d, .int .i64 mm.w]) (t := 36) (w := wr) (b := wr.heap.size) rfl)
            have hb21 : Below wr.heap.size wr (wr.alloc (.cells #[.int .i64 mm.s, .int .i64 mm.a, .int .i64 mm.b, .int .i64 mm.z, .int .i64 mm.d, .int .i64 mm.w] 36)) := (Below.refl _ _).alloc (Nat.le_refl _) _
            have hnM := HB.out.size
            have nzM_P := KP.out.lt
            have nzM_B := KB.out.lt
            replace HB := Lib.hid (HB.out.trans (hb21.mono HB.out.size))
            replace KP := Lib.hid (KP.out.below hb21)
            replace KB := Lib.hid (KB.out.below hb21)
            replace HBR := Lib.hid (HBR.out.trans (hb21.mono (Nat.le_trans (Nat.le_refl w3.heap.size) HBR.out.size)))
            clear yP_0 yP_1 yP_z
            clear hb21
            generalize wr.alloc (.cells #[.int .i64 mm.s, .int .i64 mm.a, .int .i64 mm.b, .int .i64 mm.z, .int .i64 mm.d, .int .i64 mm.w] 36) = w21 at *
            generalize wr.heap.size = bM at *
            have neM_P : bM ≠ w.heap.size := by omega
            have neM_B : bM ≠ bB := by omega
            clear nzM_P nzM_B
            clear c0 c1 c2 c3 c4 c5 clt
            refine (HO.out _).mono ?_
            rintro e22 w22 ⟨rfl, hb22⟩
            replace HB := Lib.hid (HB.out.trans (hb22.mono HB.out.size))
            replace KP := Lib.hid (KP.out.below hb22)
            replace KB := Lib.hid (KB.out.below hb22)
            replace KM := Lib.hid (KM.out.below hb22)
            replace HBR := Lib.hid (HBR.out.trans (hb22.mono (Nat.le_trans (Nat.le_refl w3.heap.size) HBR.out.size)))
            clear hb22
            go_wp2
            go_ret
            exact ⟨rfl, HB.out⟩
      · obtain rfl : k = L.length := by omega
        have VP := Lib.hid fun w => vldP_any x y w
        have IB := PR.out (by first | rfl | trivial) HR.out
        clear PR
        cases hv : vldP x y with
        | false =>
          rw [hv] at VP
          clear hv IB
          have yP := KP.out
          have yP_0 := yP.c 0 _ rfl
          have yP_1 := yP.c 1 _ rfl
          have yP_z := yP.lt
          clear yP
          go_wp2_with fail
          refine (VP.out _).mono ?_
          rintro e21 w21 ⟨rfl, hb21⟩
          replace HB := Lib.hid (HB.out.trans (hb21.mono HB.out.size))
          replace KP := Lib.hid (KP.out.below hb21)
          replace KB := Lib.hid (KB.out.below hb21)
          clear yP_0 yP_1 yP_z
          clear hb21
          go_wp2
          go_ret
          exact ⟨rfl, HB.out⟩
        | true =>
          rw [hv] at VP
          obtain ⟨i0, i1, i2, i3, p0, p1, p2, p3⟩ := IB hv
          have yP := KP.out
          have yP_0 := yP.c 0 _ rfl
          have yP_1 := yP.c 1 _ rfl
          have yP_z := yP.lt
          clear yP
          go_wp2_with fail
          refine (VP.out _).mono ?_
          rintro e21 w21 ⟨rfl, hb21⟩
          replace HB := Lib.hid (HB.out.trans (hb21.mono HB.out.size))
          replace KP := Lib.hid (KP.out.below hb21)
          replace KB := Lib.hid (KB.out.below hb21)
          clear yP_0 yP_1 yP_z
          clear hb21
          have s0 : IntKind.i64.wrap (x - cx) = x - cx := IntWalk.i64_in _ (by omega)
          have s1 : IntKind.i64.wrap (cx - x) = cx - x := IntWalk.i64_in _ (by omega)
          have s2 : IntKind.i64.wrap (y - cy) = y - cy := IntWalk.i64_in _ (by omega)
          have s3 : IntKind.i64.wrap (cy - y) = cy - y := IntWalk.i64_in _ (by omega)
          have g0 : decide (x - cx ≤ bx) = true := decide_eq_true i0
          have g1 : decide (cx - x ≤ bx) = true := decide_eq_true i1
          have g2 : decide (y - cy ≤ by') = true := decide_eq_true i2
          have g3 : decide (cy - y ≤ by') = true := decide_eq_true i3
          clear i0 i1 i2 i3 p0 p1 p2 p3
          have yP := KP.out
          have yP_0 := yP.c 0 _ rfl
          have yP_1 := yP.c 1 _ rfl
          have yP_z := yP.lt
          clear yP
          have yB := KB.out
          have yB_0 := yB.c 0 _ rfl
          have yB_1 := yB.c 1 _ rfl
          have yB_2 := yB.c 2 _ rfl
          have yB_3 := yB.c 3 _ rfl
          have yB_z := yB.lt
          clear yB
          go_wp2
          go_ret
          exact ⟨rfl, HB.out⟩
  · have gz : (z != 0) = true := by simpa using hz
    have BR := BR.resolve_left hz
    injection BR with b0 b1 b2 b3
    subst b0 b1 b2 b3
    clear hz PR
    go_wp2
    have KB := Lib.hid (Blk.of (vs := #[.int .i64 0, .int .i64 0, .int .i64 0, .int .i64 0]) (t := 32) (w := w2) (b := w2.heap.size) rfl)
    have hb3 : Below w2.heap.size w2 (w2.alloc (.cells #[.int .i64 0, .int .i64 0, .int .i64 0, .int .i64 0] 32)) := (Below.refl _ _).alloc (Nat.le_refl _) _
    have hnB := HB.out.size
    have nzB_P := KP.out.lt
    replace HB := Lib.hid (HB.out.trans (hb3.mono HB.out.size))
    replace KP := Lib.hid (KP.out.below hb3)
    replace HC := Lib.hid (HC.out.below hb3)
    clear hb3
    generalize w2.alloc (.cells #[.int .i64 0, .int .i64 0, .int .i64 0, .int .i64 0] 32) = w3 at *
    generalize w2.heap.size = bB at *
    have neB_P : bB ≠ w.heap.size := by omega
    clear nzB_P
    go_ret
    exact ⟨rfl, HB.out⟩

/-! ### the row's step -/
set_option maxRecDepth 100000 in
theorem contract (H : Type) (enc : TypeId × Value → H) (W : World) (base : Nat) (args : Array Value) (ds gs : List (DataW H)) (before : List MemPlace)
    (hval : ∀ (j : Nat) t v, Try.f4.params[j]? = some t → args[j]? = some v → Value.okWide Try.prog W .any base t v)
    (hW : DataW.Whole enc Try.prog Try.f4.params.toList Rows.integrityProtectsSpec.vars false W args.toList ds gs before) :
    Calls Try.prog 4 args W fun e W' => ∃ v, e = .returned v ∧ Rows.integrityProtectsSpec.post enc Try.prog Try.f4 false true false false W args v W' := by
  have hW' := hW
  obtain ⟨p, q, hA0, hV, rfl, hfz, hnd⟩ := hW
  have hA : DataW.TrodAll enc Try.prog W 0 (fun _ => true) true Try.f4.params.toList args.toList ds p := hA0
  rw [Try.params4] at hA hval
  obtain ⟨v0, vs0, d0, ds0, p0, q0, hargs, rfl, rfl, h0, r0⟩ := trodAll_cons hA
  obtain ⟨v1, vs1, d1, ds1, p1, q1, rfl, rfl, rfl, h1, r1⟩ := trodAll_cons r0
  obtain ⟨v2, vs2, d2, ds2, p2, q2, rfl, rfl, rfl, h2, r2⟩ := trodAll_cons r1
  obtain ⟨rfl, rfl, rfl⟩ := trodAll_nil r2
  obtain rfl : args = #[v0, v1, v2] := by cases args; simp_all
  obtain ⟨rfl, rfl⟩ := trodVars_none hV
  have h0k := h0
  obtain ⟨l0, g0⟩ := open_list (hval 0 22 v0 rfl rfl) h0
  obtain ⟨x1_0, x1_1, rfl, rfl, rfl, w1_0, w1_1⟩ := open_point (hval 1 30 v1 rfl rfl) h1
  obtain ⟨a2, rfl, rfl, rfl, w2⟩ := open_int Try.underlying3 (hval 2 3 v2 rfl rfl) h2
  clear hA0
  simp only [List.append_nil] at hW'
  refine (walk v0 l0 x1_0 x1_1 a2 W g0 (bd64 w1_0).1 (bd64 w1_0).2 (bd64 w1_1).1 (bd64 w1_1).2 (bd64 w2).1 (bd64 w2).2).mono fun e W' ⟨he, hb⟩ => ?_
  subst he
  have hlt : ∀ x ∈ p0, x.block < W.heap.size := fun x hx => hW'.lt x (by simpa using hx)
  exact ⟨_, rfl, post_of_below (pa := p0) (pv := []) hW' (fun _ _ _ => trodAll_cons_mk (shut_bool Try.underlying4 _) trodAll_mk0)
    (fun sp hsp0 => by
      have hsp : ∀ x ∈ p0, sp x.block = true := fun x hx => hsp0 x (by simpa using hx)
      have := (trodAll_cons_mk (WideElems.Trod_stays laidOut (by kernel_rfl) (of_decide_eq_true (by kernel_rfl)) h0k (fun x hx => hb.same (hlt x hx)) (fun x hx => hsp x hx)) (trodAll_cons_mk (shut_point w1_0 w1_1) (trodAll_cons_mk (shut_int Try.underlying3 w2) trodAll_mk0)))
      simp only [List.append_nil] at this
      exact this) (fun _ _ => rfl) (by simp)
    hb (ok_one (by kernel_rfl) rfl (okWide_bool_mk Try.underlying4 _))⟩

set_option maxRecDepth 100000 in
theorem lifted (os : Os) (started : os.Started) (H : Type) (enc : TypeId × Value → H) :
    ReturnsInHanded {} Try.checked os 4 .any (Rows.integrityProtectsSpec.pre6 enc Try.prog Try.f4 Rows.integrityProtectsRow.domain false) (Rows.integrityProtectsSpec.post enc Try.prog Try.f4 false true false false) := by
  refine returnsInHanded_of_change (C := Try.checked) own started (by kernel_rfl) Try.func4
    (ChangeSpec.witness6 (enc := enc) (C := Try.checked) false ⟨#[], #[.slice none 0 0, .agg #[.int .i64 0, .int .i64 0], .int .i64 0], []⟩ 8 (by kernel_rfl) (by kernel_rfl) (by kernel_rfl) (by kernel_rfl)) ?_
  intro W base args ds gs before hval hW _ _
  exact contract H enc W base args ds gs before hval hW
/-- the law -/
theorem said : Rows.IntegrityProtectsSaid :=
  OpenClaim.holds_of_wide 4 Try.f4 rfl rfl rfl rfl rfl rfl rfl ⟨rfl, rfl, rfl, rfl, rfl⟩ rfl rfl rfl rfl rfl (by kernel_rfl) Try.func4 (by kernel_rfl)
    (of_decide_eq_true (by kernel_rfl)) (by unfold Func.isWrapper; first | (rw [if_pos (by decide +kernel)]; kernel_rfl) | (rw [if_neg (by decide +kernel)]; exact ⟨rfl, rfl⟩))
    (fun os started H enc _ => lifted os started H enc)
end Go.Proofs.Ytplgdlooglnpmaa.integrityProtects
