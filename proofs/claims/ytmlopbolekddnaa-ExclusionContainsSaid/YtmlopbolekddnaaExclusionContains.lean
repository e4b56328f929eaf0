/-
  The law ExclusionContains.
-/
import Derived.Test.YtmlopbolekddnaaStructs44
import Derived.Test.YtmlopbolekddnaaContPlain
import Derived.Test.YtmlopbolekddnaaWideOne
import Derived.Deep.RegionHeld3
namespace Go.Proofs.Ytmlopbolekddnaa.exclusionContains
set_option linter.unusedVariables false
open Go.ChangeShapes Go.WideShapes Go.ChangeAt Go.RowKit

set_option maxHeartbeats 100000000 in
set_option maxRecDepth 100000 in
theorem walk (v : Value) (l : List Ms) (x y ca cb : Int) (w : World) (h : LstAt l v w) (_x0 : -9223372036854775808 ≤ x) (_x1 : x ≤ 9223372036854775807) (_y0 : -9223372036854775808 ≤ y) (_y1 : y ≤ 9223372036854775807) (_a0 : -9223372036854775808 ≤ ca) (_a1 : ca ≤ 9223372036854775807) (_b0 : -9223372036854775808 ≤ cb) (_b1 : cb ≤ 9223372036854775807) :
    Calls Try.prog 12 #[v, .agg #[.int .i64 x, .int .i64 y], .agg #[.int .i64 ca, .int .i64 cb]] w fun e w' => e = .returned (.bool true) ∧ Below w.heap.size w w' := by
  have KP := Lib.hid ((Blk.new #[.int .i64 x, .int .i64 y] w 44).alloc (.cells #[.int .i64 ca, .int .i64 cb] 40))
  have KQ := Lib.hid (Blk.new #[.int .i64 ca, .int .i64 cb] (w.alloc (.cells #[.int .i64 x, .int .i64 y] 44)) 40)
  have HB := Lib.hid (((Below.refl w.heap.size w).alloc (Nat.le_refl _) (.cells #[.int .i64 x, .int .i64 y] 44)).alloc (by simp) (.cells #[.int .i64 ca, .int .i64 cb] 40))
  have HC := Lib.hid (h.below (((Below.refl w.heap.size w).alloc (Nat.le_refl _) (.cells #[.int .i64 x, .int .i64 y] 44)).alloc (by simp) (.cells #[.int .i64 ca, .int .i64 cb] 40)))
  go_enter Try.func12, Try.ntmps12
  go_wp2_with fail
  generalize (w.alloc (.cells #[.int .i64 x, .int .i64 y] 44)).alloc (.cells #[.int .i64 ca, .int .i64 cb] 40) = w0 at *
  rw [World.size_alloc] at KQ
  have BPQ : w.heap.size ≠ w.heap.size + 1 := by omega
  generalize w.heap.size + 1 = bq at *
  obtain ⟨bp, hbp⟩ : ∃ bp, w.heap.size = bp := ⟨_, rfl⟩
  rw [hbp] at KP BPQ
  simp only [hbp]
  have HBP := Lib.hid hbp
  clear hbp h
  refine (awake_any _).mono ?_
  rintro e1 w1 ⟨rfl, hb1⟩
  replace HB := Lib.hid (HB.out.trans (hb1.mono HB.out.size))
  replace HC := Lib.hid (HC.out.below hb1)
  replace KP := Lib.hid (KP.out.below hb1)
  replace KQ := Lib.hid (KQ.out.below hb1)
  clear hb1
  go_wp2_with fail
  refine (cut_any _ _ _ HC.out).mono ?_
  rintro e w2 ⟨⟨p, cap, rfl, hcl⟩, rfl⟩
  have HC := Lib.hid hcl
  have CL := Lib.hid (cut_len l)
  clear hcl
  generalize cutL l = L at *
  have RG := fun w h => range_any L ca cb (.slice p L.length cap) w h
  unfold RetI at RG
  have CH := fun w h => check_any L (.slice p L.length cap) w h
  have AL := fun w h => all_any L x y 0 (.slice p L.length cap) w h
  have VP := fun w => vldP_any x y w
  have BR := bad_rng L ca cb
  have CO := fun hc ha => cont_ok (l := L) (x := x) (y := y) ca cb hc ha
  generalize rngF L ca cb = r at *
  obtain ⟨⟨u0, u1⟩, z⟩ := r
  have HRG := Lib.hid RG
  simp only at BR CO
  clear RG
  have yQ := KQ.out
  have yQ_0 := yQ.c 0 _ rfl
  have yQ_1 := yQ.c 1 _ rfl
  have yQ_z := yQ.lt
  clear yQ
  go_wp2_with fail
  refine (HRG.out _ HC.out).mono ?_
  rintro e2 w2 ⟨rfl, hb2⟩
  replace HB := Lib.hid (HB.out.trans (hb2.mono HB.out.size))
  replace HC := Lib.hid (HC.out.below hb2)
  replace KP := Lib.hid (KP.out.below hb2)
  replace KQ := Lib.hid (KQ.out.below hb2)
  clear hb2
  clear yQ_0 yQ_1 yQ_z
  have KX := Lib.hid (Blk.new #[.int .i64 u0, .int .i64 u1] w2 30)
  have hb3 : Below w2.heap.size w2 (w2.alloc (.cells #[.int .i64 u0, .int .i64 u1] 30)) := (Below.refl _ _).alloc (Nat.le_refl _) _
  replace HB := Lib.hid (HB.out.trans (hb3.mono HB.out.size))
  replace HC := Lib.hid (HC.out.below hb3)
  replace KP := Lib.hid (KP.out.below hb3)
  replace KQ := Lib.hid (KQ.out.below hb3)
  clear hb3
  have yP := KP.out
  have yP_0 := yP.c 0 _ rfl
  have yP_1 := yP.c 1 _ rfl
  have yP_z := yP.lt
  clear yP
  go_wp2_with fail
  generalize w2.alloc (.cells #[.int .i64 u0, .int .i64 u1] 30) = w3 at *
  generalize w2.heap.size = bx at *
  cases hv : vldP x y with
  | false =>
    have K1 : (z == 0) = true ∨ ((z == 0) = false ∧ u0 = 0 ∧ u1 = 0) := by rcases BR with rfl | BR; exact .inl rfl; injection BR with b0 b1; cases z == 0; exact .inr ⟨rfl, b0, b1⟩; exact .inl rfl
    rw [hv] at VP
    have HVP := Lib.hid VP
    clear VP hv BR CO AL CH
    refine (HVP.out _).mono ?_
    rintro e4 w4 ⟨rfl, hb4⟩
    replace HB := Lib.hid (HB.out.trans (hb4.mono HB.out.size))
    replace HC := Lib.hid (HC.out.below hb4)
    replace KP := Lib.hid (KP.out.below hb4)
    replace KQ := Lib.hid (KQ.out.below hb4)
    replace KX := Lib.hid (KX.out.below hb4)
    clear hb4
    clear yP_0 yP_1 yP_z
    have yX := KX.out
    have yX_0 := yX.c 0 _ rfl
    have yX_1 := yX.c 1 _ rfl
    have yX_z := yX.lt
    clear yX
    rcases K1 with u1 | ⟨u1, rfl, rfl⟩
    all_goals
      go_wp2
      all_goals go_ret
      all_goals exact ⟨rfl, HB.out⟩
  | true =>
    rw [hv] at VP
    have HVP := Lib.hid VP
    clear VP
    refine (HVP.out _).mono ?_
    rintro e4 w4 ⟨rfl, hb4⟩
    replace HB := Lib.hid (HB.out.trans (hb4.mono HB.out.size))
    replace HC := Lib.hid (HC.out.below hb4)
    replace KP := Lib.hid (KP.out.below hb4)
    replace KQ := Lib.hid (KQ.out.below hb4)
    replace KX := Lib.hid (KX.out.below hb4)
    clear hb4
    clear yP_0 yP_1 yP_z
    have yP := KP.out
    have yP_0 := yP.c 0 _ rfl
    have yP_1 := yP.c 1 _ rfl
    have yP_z := yP.lt
    clear yP
    cases ha : allB L x y 0 with
    | false =>
      have K1 : (z == 0) = true ∨ ((z == 0) = false ∧ u0 = 0 ∧ u1 = 0) := by rcases BR with rfl | BR; exact .inl rfl; injection BR with b0 b1; cases z == 0; exact .inr ⟨rfl, b0, b1⟩; exact .inl rfl
      rw [ha] at AL
      have HAL := Lib.hid AL
      clear AL ha BR CO CH hv
      go_wp2_with fail
      refine (HAL.out _ HC.out).mono ?_
      rintro e5 w5 ⟨rfl, hb5⟩
      replace HB := Lib.hid (HB.out.trans (hb5.mono HB.out.size))
      replace HC := Lib.hid (HC.out.below hb5)
      replace KP := Lib.hid (KP.out.below hb5)
      replace KQ := Lib.hid (KQ.out.below hb5)
      replace KX := Lib.hid (KX.out.below hb5)
      clear hb5
      clear yP_0 yP_1 yP_z
      have yX := KX.out
      have yX_0 := yX.c 0 _ rfl
      have yX_1 := yX.c 1 _ rfl
      have yX_z := yX.lt
      clear yX
      rcases K1 with u1 | ⟨u1, rfl, rfl⟩
      all_goals
        go_wp2
        all_goals go_ret
        all_goals exact ⟨rfl, HB.out⟩
    | true =>
      have GG := fun hc => CO hc ha
      rw [ha] at AL
      have HAL := Lib.hid AL
      clear AL ha CO
      go_wp2_with fail
      refine (HAL.out _ HC.out).mono ?_
      rintro e5 w5 ⟨rfl, hb5⟩
      replace HB := Lib.hid (HB.out.trans (hb5.mono HB.out.size))
      replace HC := Lib.hid (HC.out.below hb5)
      replace KP := Lib.hid (KP.out.below hb5)
      replace KQ := Lib.hid (KQ.out.below hb5)
      replace KX := Lib.hid (KX.out.below hb5)
      clear hb5
      clear yP_0 yP_1 yP_z
      by_cases hc : chkL L = 0
      · have G := GG hc
        rw [hc] at CH
        have HCH := Lib.hid CH
        clear CH BR GG hc
        go_wp2_with fail
        refine (HCH.out _ HC.out).mono ?_
        rintro e6 w6 ⟨rfl, hb6⟩
        replace HB := Lib.hid (HB.out.trans (hb6.mono HB.out.size))
        replace HC := Lib.hid (HC.out.below hb6)
        replace KP := Lib.hid (KP.out.below hb6)
        replace KQ := Lib.hid (KQ.out.below hb6)
        replace KX := Lib.hid (KX.out.below hb6)
        clear hb6
        rcases G with rfl | rfl | ⟨rfl, n1, n2, n3, n4, n5, n6, n7⟩
        · go_wp2
          go_ret
          exact ⟨rfl, HB.out⟩
        · go_wp2
          go_ret
          exact ⟨rfl, HB.out⟩
        have hvv := of_decide_eq_true hv
        have FX := Lib.hid (mul_fit (a := ca) (b := x) (by omega) (by omega) _x0 _x1)
        have FY := Lib.hid (mul_fit (a := cb) (b := y) (by omega) (by omega) _y0 _y1)
        obtain ⟨a1, a2⟩ := mul_abs (X := 256) (Y := 2000000) n4 n5 (show -2000000 ≤ x by omega) (show x ≤ 2000000 by omega)
        obtain ⟨b1, b2⟩ := mul_abs (X := 256) (Y := 2000000) n6 n7 (show -2000000 ≤ y by omega) (show y ≤ 2000000 by omega)
        have FS : FitW (ca * x + cb * y) := ⟨by omega, by omega⟩
        have M0 := Lib.hid fun W (h : Below w6.heap.size w6 W) => (wmul_any ca x W (by omega) (by omega) _x0 _x1).mono fun e w' ⟨h1, h2⟩ => show _ ∧ Below w6.heap.size w6 w' ∧ Below W.heap.size W w' from ⟨h1, h.trans (h2.mono h.size), h2⟩
        have M1 := Lib.hid fun W (h : Below w6.heap.size w6 W) => (wmul_any cb y W (by omega) (by omega) _y0 _y1).mono fun e w' ⟨h1, h2⟩ => show _ ∧ Below w6.heap.size w6 w' ∧ Below W.heap.size W w' from ⟨h1, h.trans (h2.mono h.size), h2⟩
        have AD := Lib.hid fun W (h : Below w6.heap.size w6 W) => (wadd_any (ca * x) (cb * y) W FX.out FY.out FS).mono fun e w' ⟨h1, h2⟩ => show _ ∧ Below w6.heap.size w6 w' ∧ Below W.heap.size W w' from ⟨h1, h.trans (h2.mono h.size), h2⟩
        have IN := Lib.hid fun W => wint_any (ca * x + cb * y) W (by omega) (by omega)
        have HA := Lib.hid fun W => has_ok u0 u1 (ca * x + cb * y) W n1 n2 n3
        generalize ca * x + cb * y = vv at *
        generalize ca * x = va at *
        generalize cb * y = vb at *
        unfold wv at M0 M1 AD IN
        have BD := Lib.hid (show Below w6.heap.size w6 w6.drew from ⟨rfl, rfl, rfl, Nat.le_refl _, fun _ _ => rfl⟩)
        have BD2 := Lib.hid (below_drew_alloc w6 (.cells #[.int .i64 0, .int .u64 0] 53))
        clear hv hvv n1 n2 n3 n4 n5 n6 n7 a1 a2 b1 b2 FS
        have yP := KP.out
        have yP_0 := yP.c 0 _ rfl
        have yP_1 := yP.c 1 _ rfl
        have yP_z := yP.lt
        clear yP
        have yQ := KQ.out
        have yQ_0 := yQ.c 0 _ rfl
        have yQ_1 := yQ.c 1 _ rfl
        have yQ_z := yQ.lt
        clear yQ
        go_wp2_with fail
        go_region_held3 (fun w' => w'.cell? ⟨bq, 0, none⟩ = some (.int .i64 ca) ∧ w'.cell? ⟨bq, 1, none⟩ = some (.int .i64 cb) ∧ w'.cell? ⟨bp, 0, none⟩ = some (.int .i64 x) ∧ w'.cell? ⟨bp, 1, none⟩ = some (.int .i64 y)) (first | (refine ⟨?_, ?_, ?_, ?_⟩ <;> first | assumption | (rw [far2 KV.out.1 yP_z]; assumption) | (rw [far2 KV.out.1 yQ_z]; assumption)) | go_keep)
          (first
            | (go_at_call 29; with_reducible refine Calls.mono (M0.out _ (by first | exact BD.out | exact BD2.out | exact HX.out | exact HX.out.alloc HX.out.size _)) ?_; rintro e9 w9 ⟨rfl, hb9, hc9⟩; have pP := KP.out.below hb9; have pQ := KQ.out.below hb9; have qP0 := pP.c 0 _ rfl; have qP1 := pP.c 1 _ rfl; have qPz := pP.lt; have qQ0 := pQ.c 0 _ rfl; have qQ1 := pQ.c 1 _ rfl; have qQz := pQ.lt; (first | (with_reducible have KV := Lib.hid (kv_drew (vs := #[.int .i64 0, .int .u64 0]) (t := 53) hc9); have pV := KV.out.2; have v0 := pV.c 0 _ rfl; have v1 := pV.c 1 _ rfl; have v2 := pV.f 0 _ rfl; have v3 := pV.f 1 _ rfl; have v4 := pV.lt; clear pV) | (with_reducible have KV := Lib.hid (kv_new (vs := #[.int .i64 0, .int .u64 0]) (t := 53) HX.out hc9); have pV := KV.out.2; have v0 := pV.c 0 _ rfl; have v1 := pV.c 1 _ rfl; have v2 := pV.f 0 _ rfl; have v3 := pV.f 1 _ rfl; have v4 := pV.lt; clear pV) | (with_reducible have KV := Lib.hid (kv_old KV.out hc9); have pV := KV.out.2; have v0 := pV.c 0 _ rfl; have v1 := pV.c 1 _ rfl; have v2 := pV.f 0 _ rfl; have v3 := pV.f 1 _ rfl; have v4 := pV.lt; clear pV) | skip); have HX := Lib.hid hb9; clear pP pQ hb9 hc9)
            | (go_at_call 29; with_reducible refine Calls.mono (M1.out _ (by first | exact BD.out | exact BD2.out | exact HX.out | exact HX.out.alloc HX.out.size _)) ?_; rintro e9 w9 ⟨rfl, hb9, hc9⟩; have pP := KP.out.below hb9; have pQ := KQ.out.below hb9; have qP0 := pP.c 0 _ rfl; have qP1 := pP.c 1 _ rfl; have qPz := pP.lt; have qQ0 := pQ.c 0 _ rfl; have qQ1 := pQ.c 1 _ rfl; have qQz := pQ.lt; (first | (with_reducible have KV := Lib.hid (kv_drew (vs := #[.int .i64 0, .int .u64 0]) (t := 53) hc9); have pV := KV.out.2; have v0 := pV.c 0 _ rfl; have v1 := pV.c 1 _ rfl; have v2 := pV.f 0 _ rfl; have v3 := pV.f 1 _ rfl; have v4 := pV.lt; clear pV) | (with_reducible have KV := Lib.hid (kv_new (vs := #[.int .i64 0, .int .u64 0]) (t := 53) HX.out hc9); have pV := KV.out.2; have v0 := pV.c 0 _ rfl; have v1 := pV.c 1 _ rfl; have v2 := pV.f 0 _ rfl; have v3 := pV.f 1 _ rfl; have v4 := pV.lt; clear pV) | (with_reducible have KV := Lib.hid (kv_old KV.out hc9); have pV := KV.out.2; have v0 := pV.c 0 _ rfl; have v1 := pV.c 1 _ rfl; have v2 := pV.f 0 _ rfl; have v3 := pV.f 1 _ rfl; have v4 := pV.lt; clear pV) | skip); have HX := Lib.hid hb9; clear pP pQ hb9 hc9)
            | (go_at_call 28; with_reducible refine Calls.mono (AD.out _ (by first | exact BD.out | exact BD2.out | exact HX.out | exact HX.out.alloc HX.out.size _)) ?_; rintro e9 w9 ⟨rfl, hb9, hc9⟩; have pP := KP.out.below hb9; have pQ := KQ.out.below hb9; have qP0 := pP.c 0 _ rfl; have qP1 := pP.c 1 _ rfl; have qPz := pP.lt; have qQ0 := pQ.c 0 _ rfl; have qQ1 := pQ.c 1 _ rfl; have qQz := pQ.lt; (first | (with_reducible have KV := Lib.hid (kv_drew (vs := #[.int .i64 0, .int .u64 0]) (t := 53) hc9); have pV := KV.out.2; have v0 := pV.c 0 _ rfl; have v1 := pV.c 1 _ rfl; have v2 := pV.f 0 _ rfl; have v3 := pV.f 1 _ rfl; have v4 := pV.lt; clear pV) | (with_reducible have KV := Lib.hid (kv_new (vs := #[.int .i64 0, .int .u64 0]) (t := 53) HX.out hc9); have pV := KV.out.2; have v0 := pV.c 0 _ rfl; have v1 := pV.c 1 _ rfl; have v2 := pV.f 0 _ rfl; have v3 := pV.f 1 _ rfl; have v4 := pV.lt; clear pV) | (with_reducible have KV := Lib.hid (kv_old KV.out hc9); have pV := KV.out.2; have v0 := pV.c 0 _ rfl; have v1 := pV.c 1 _ rfl; have v2 := pV.f 0 _ rfl; have v3 := pV.f 1 _ rfl; have v4 := pV.lt; clear pV) | skip); have HX := Lib.hid hb9; clear pP pQ hb9 hc9))
        all_goals
          first
            | (have FN := kv_set2 (.int .i64 (hiW vv)) (.int .u64 (loW vv)) KV.out HX.out; have FB := Lib.hid FN.1; have KV9 := Lib.hid FN.2; clear FN; generalize (World.setCell (World.setCell _ _ (.int .i64 (hiW vv))) _ (.int .u64 (loW vv))) = wz at *)
            | (have FN := kv_put (vs := #[.int .i64 (hiW vv), .int .u64 (loW vv)]) (t := 53) HX.out; have FB := Lib.hid FN.1; have KV9 := Lib.hid FN.2; clear FN; generalize (World.alloc _ (.cells #[.int .i64 (hiW vv), .int .u64 (loW vv)] 53)) = wz at *)
        all_goals
          replace HB := Lib.hid (HB.out.trans (FB.out.mono HB.out.size))
          replace KX := Lib.hid (KX.out.below FB.out)
          have z0 := KV9.out.c 0 _ rfl
          have z1 := KV9.out.c 1 _ rfl
          have z2 := KV9.out.lt
          go_wp2_with fail
          refine (IN.out _).mono ?_
          rintro e11 w11 ⟨rfl, hb11⟩
          replace HB := Lib.hid (HB.out.trans (hb11.mono HB.out.size))
          have pX := KX.out.below hb11
          have x0 := pX.c 0 _ rfl
          have x1 := pX.c 1 _ rfl
          have x2 := pX.lt
          clear pX hb11 z0 z1 z2
          go_wp2_with fail
          refine (HA.out _).mono ?_
          rintro e12 w12 ⟨rfl, hb12⟩
          replace HB := Lib.hid (HB.out.trans (hb12.mono HB.out.size))
          clear hb12
          go_wp2
          go_ret
          exact ⟨rfl, HB.out⟩
      · have gc : (chkL L != 0) = true := by simpa using hc
        have K1 : (z == 0) = true ∨ ((z == 0) = false ∧ u0 = 0 ∧ u1 = 0) := by rcases BR with rfl | BR; exact .inl rfl; injection BR with b0 b1; cases z == 0; exact .inr ⟨rfl, b0, b1⟩; exact .inl rfl
        have HCH := Lib.hid CH
        clear CH BR GG hc hv
        generalize chkL L = c at *
        go_wp2_with fail
        refine (HCH.out _ HC.out).mono ?_
        rintro e6 w6 ⟨rfl, hb6⟩
        replace HB := Lib.hid (HB.out.trans (hb6.mono HB.out.size))
        replace HC := Lib.hid (HC.out.below hb6)
        replace KP := Lib.hid (KP.out.below hb6)
        replace KQ := Lib.hid (KQ.out.below hb6)
        replace KX := Lib.hid (KX.out.below hb6)
        clear hb6
        have yX := KX.out
        have yX_0 := yX.c 0 _ rfl
        have yX_1 := yX.c 1 _ rfl
        have yX_z := yX.lt
        clear yX
        rcases K1 with u1 | ⟨u1, rfl, rfl⟩
        all_goals
          go_wp2
          all_goals go_ret
          all_goals exact ⟨rfl, HB.out⟩

/-! ### the row's step -/
set_option maxRecDepth 100000 in
theorem contract (H : Type) (enc : TypeId × Value → H) (W : World) (base : Nat) (args : Array Value) (ds gs : List (DataW H)) (before : List MemPlace)
    (hval : ∀ (j : Nat) t v, Try.f12.params[j]? = some t → args[j]? = some v → Value.okWide Try.prog W .any base t v)
    (hW : DataW.Whole enc Try.prog Try.f12.params.toList Rows.exclusionContainsSpec.vars false W args.toList ds gs before) :
    Calls Try.prog 12 args W fun e W' => ∃ v, e = .returned v ∧ Rows.exclusionContainsSpec.post enc Try.prog Try.f12 false true false false W args v W' := by
  have hW' := hW
  obtain ⟨p, q, hA0, hV, rfl, hfz, hnd⟩ := hW
  have hA : DataW.TrodAll enc Try.prog W 0 (fun _ => true) true Try.f12.params.toList args.toList ds p := hA0
  rw [Try.params12] at hA hval
  obtain ⟨v0, vs0, d0, ds0, p0, q0, hargs, rfl, rfl, h0, r0⟩ := trodAll_cons hA
  obtain ⟨v1, vs1, d1, ds1, p1, q1, rfl, rfl, rfl, h1, r1⟩ := trodAll_cons r0
  obtain ⟨v2, vs2, d2, ds2, p2, q2, rfl, rfl, rfl, h2, r2⟩ := trodAll_cons r1
  obtain ⟨rfl, rfl, rfl⟩ := trodAll_nil r2
  obtain rfl : args = #[v0, v1, v2] := by cases args; simp_all
  obtain ⟨rfl, rfl⟩ := trodVars_none hV
  have h0k := h0
  obtain ⟨l0, g0⟩ := open_list (hval 0 22 v0 rfl rfl) h0
  obtain ⟨x1_0, x1_1, rfl, rfl, rfl, w1_0, w1_1⟩ := open_point (hval 1 44 v1 rfl rfl) h1
  obtain ⟨x2_0, x2_1, rfl, rfl, rfl, w2_0, w2_1⟩ := open_ints2 (hval 2 40 v2 rfl rfl) h2
  clear hA0
  simp only [List.append_nil] at hW'
  refine (walk v0 l0 x1_0 x1_1 x2_0 x2_1 W g0 (bd64 w1_0).1 (bd64 w1_0).2 (bd64 w1_1).1 (bd64 w1_1).2 (bd64 w2_0).1 (bd64 w2_0).2 (bd64 w2_1).1 (bd64 w2_1).2).mono fun e W' ⟨he, hb⟩ => ?_
  subst he
  have hlt : ∀ x ∈ p0, x.block < W.heap.size := fun x hx => hW'.lt x (by simpa using hx)
  exact ⟨_, rfl, post_of_below (pa := p0) (pv := []) hW' (fun _ _ _ => trodAll_cons_mk (shut_bool Try.underlying4 _) trodAll_mk0)
    (fun sp hsp0 => by
      have hsp : ∀ x ∈ p0, sp x.block = true := fun x hx => hsp0 x (by simpa using hx)
      have := (trodAll_cons_mk (WideElems.Trod_stays laidOut (by kernel_rfl) (of_decide_eq_true (by kernel_rfl)) h0k (fun x hx => hb.same (hlt x hx)) (fun x hx => hsp x hx)) (trodAll_cons_mk (shut_point w1_0 w1_1) (trodAll_cons_mk (shut_ints2 w2_0 w2_1) trodAll_mk0)))
      simp only [List.append_nil] at this
      exact this) (fun _ _ => rfl) (by simp)
    hb (ok_one (by kernel_rfl) rfl (okWide_bool_mk Try.underlying4 _))⟩

set_option maxRecDepth 100000 in
theorem lifted (os : Os) (started : os.Started) (H : Type) (enc : TypeId × Value → H) :
    ReturnsInHanded {} Try.checked os 12 .any (Rows.exclusionContainsSpec.pre6 enc Try.prog Try.f12 Rows.exclusionContainsRow.domain false) (Rows.exclusionContainsSpec.post enc Try.prog Try.f12 false true false false) := by
  refine returnsInHanded_of_change (C := Try.checked) own started (by kernel_rfl) Try.func12
    (ChangeSpec.witness6 (enc := enc) (C := Try.checked) false ⟨#[], #[.slice none 0 0, .agg #[.int .i64 0, .int .i64 0], .agg #[.int .i64 0, .int .i64 0]], []⟩ 8 (by kernel_rfl) (by kernel_rfl) (by kernel_rfl) (by kernel_rfl)) ?_
  intro W base args ds gs before hval hW _ _
  exact contract H enc W base args ds gs before hval hW
/-- the law -/
theorem said : Rows.ExclusionContainsSaid :=
  OpenClaim.holds_of_wide 12 Try.f12 rfl rfl rfl rfl rfl rfl rfl ⟨rfl, rfl, rfl, rfl, rfl⟩ rfl rfl rfl rfl rfl (by kernel_rfl) Try.func12 (by kernel_rfl)
    (of_decide_eq_true (by kernel_rfl)) (by unfold Func.isWrapper; first | (rw [if_pos (by decide +kernel)]; kernel_rfl) | (rw [if_neg (by decide +kernel)]; exact ⟨rfl, rfl⟩))
    (fun os started H enc _ => lifted os started H enc)
end Go.Proofs.Ytmlopbolekddnaa.exclusionContains
