/-
  The walks of nearest, size and apart.
-/
import Derived.Test.YtplgdlooglnpmaaLsqOne
namespace Go.Proofs.Ytplgdlooglnpmaa
set_option linter.unusedVariables false
open Go.RowKit

theorem kv_set2n {w W : World} {u0 u1 : Value} {b : Nat} (v0 v1 : Value) (h : w.heap.size ≤ b ∧ Blk [u0, u1] b W) (hb : Below w.heap.size w W) :
    Below w.heap.size w ((W.setCell ⟨b, 0, none⟩ v0).setCell ⟨b, 1, none⟩ v1) ∧ Blk [v0, v1] b ((W.setCell ⟨b, 0, none⟩ v0).setCell ⟨b, 1, none⟩ v1) ∧ w.heap.size ≤ b :=
  ⟨((hb.setCell (p := ⟨b, 0, none⟩) h.1 v0).setCell (p := ⟨b, 1, none⟩) h.1 v1), (blk_set (blk_set h.2 (j := 0) (by simp) v0) (j := 1) (by simp) v1), h.1⟩
theorem kv_set7 {w W : World} {u0 u1 u2 u3 u4 u5 u6 : Value} {b : Nat} (v0 v1 v2 v3 v4 v5 v6 : Value) (h : w.heap.size ≤ b ∧ Blk [u0, u1, u2, u3, u4, u5, u6] b W) (hb : Below w.heap.size w W) :
    Below w.heap.size w (((((((W.setCell ⟨b, 0, none⟩ v0).setCell ⟨b, 1, none⟩ v1).setCell ⟨b, 2, none⟩ v2).setCell ⟨b, 3, none⟩ v3).setCell ⟨b, 4, none⟩ v4).setCell ⟨b, 5, none⟩ v5).setCell ⟨b, 6, none⟩ v6) ∧ Blk [v0, v1, v2, v3, v4, v5, v6] b (((((((W.setCell ⟨b, 0, none⟩ v0).setCell ⟨b, 1, none⟩ v1).setCell ⟨b, 2, none⟩ v2).setCell ⟨b, 3, none⟩ v3).setCell ⟨b, 4, none⟩ v4).setCell ⟨b, 5, none⟩ v5).setCell ⟨b, 6, none⟩ v6) ∧ w.heap.size ≤ b :=
  ⟨(((((((hb.setCell (p := ⟨b, 0, none⟩) h.1 v0).setCell (p := ⟨b, 1, none⟩) h.1 v1).setCell (p := ⟨b, 2, none⟩) h.1 v2).setCell (p := ⟨b, 3, none⟩) h.1 v3).setCell (p := ⟨b, 4, none⟩) h.1 v4).setCell (p := ⟨b, 5, none⟩) h.1 v5).setCell (p := ⟨b, 6, none⟩) h.1 v6), (blk_set (blk_set (blk_set (blk_set (blk_set (blk_set (blk_set h.2 (j := 0) (by simp) v0) (j := 1) (by simp) v1) (j := 2) (by simp) v2) (j := 3) (by simp) v3) (j := 4) (by simp) v4) (j := 5) (by simp) v5) (j := 6) (by simp) v6), h.1⟩
theorem kv_set9 {w W : World} {u0 u1 u2 u3 u4 u5 u6 u7 u8 : Value} {b : Nat} (v0 v1 v2 v3 v4 v5 v6 v7 v8 : Value) (h : w.heap.size ≤ b ∧ Blk [u0, u1, u2, u3, u4, u5, u6, u7, u8] b W) (hb : Below w.heap.size w W) :
    Below w.heap.size w (((((((((W.setCell ⟨b, 0, none⟩ v0).setCell ⟨b, 1, none⟩ v1).setCell ⟨b, 2, none⟩ v2).setCell ⟨b, 3, none⟩ v3).setCell ⟨b, 4, none⟩ v4).setCell ⟨b, 5, none⟩ v5).setCell ⟨b, 6, none⟩ v6).setCell ⟨b, 7, none⟩ v7).setCell ⟨b, 8, none⟩ v8) ∧ Blk [v0, v1, v2, v3, v4, v5, v6, v7, v8] b (((((((((W.setCell ⟨b, 0, none⟩ v0).setCell ⟨b, 1, none⟩ v1).setCell ⟨b, 2, none⟩ v2).setCell ⟨b, 3, none⟩ v3).setCell ⟨b, 4, none⟩ v4).setCell ⟨b, 5, none⟩ v5).setCell ⟨b, 6, none⟩ v6).setCell ⟨b, 7, none⟩ v7).setCell ⟨b, 8, none⟩ v8) ∧ w.heap.size ≤ b :=
  ⟨(((((((((hb.setCell (p := ⟨b, 0, none⟩) h.1 v0).setCell (p := ⟨b, 1, none⟩) h.1 v1).setCell (p := ⟨b, 2, none⟩) h.1 v2).setCell (p := ⟨b, 3, none⟩) h.1 v3).setCell (p := ⟨b, 4, none⟩) h.1 v4).setCell (p := ⟨b, 5, none⟩) h.1 v5).setCell (p := ⟨b, 6, none⟩) h.1 v6).setCell (p := ⟨b, 7, none⟩) h.1 v7).setCell (p := ⟨b, 8, none⟩) h.1 v8), (blk_set (blk_set (blk_set (blk_set (blk_set (blk_set (blk_set (blk_set (blk_set h.2 (j := 0) (by simp) v0) (j := 1) (by simp) v1) (j := 2) (by simp) v2) (j := 3) (by simp) v3) (j := 4) (by simp) v4) (j := 5) (by simp) v5) (j := 6) (by simp) v6) (j := 7) (by simp) v7) (j := 8) (by simp) v8), h.1⟩
theorem kv_putn {w W : World} {vs : Array Value} {t : TypeId} (hb : Below w.heap.size w W) : Below w.heap.size w (W.alloc (.cells vs t)) ∧ Blk vs.toList W.heap.size (W.alloc (.cells vs t)) ∧ w.heap.size ≤ W.heap.size :=
  ⟨hb.alloc hb.size _, Blk.new vs W t, hb.size⟩
theorem near_bd {x d : Int} (hd : 0 < d) (h0 : -85070591730234615865843651857942052864 < x) (h1 : x < 85070591730234615865843651857942052864) (hd1 : d ≤ 9223372036854775807) : FitW (nearI2 x d) := by
  unfold nearI2
  have e := Int.mul_ediv_add_emod (2 * x + d) (2 * d)
  have r0 := Int.emod_nonneg (2 * x + d) (show 2 * d ≠ 0 by omega)
  have r1 := Int.emod_lt_of_pos (2 * x + d) (show 0 < 2 * d by omega)
  generalize (2 * x + d) / (2 * d) = q at *
  generalize (2 * x + d) % (2 * d) = r at *
  have e2 : 2 * d * q = 2 * (d * q) := Int.mul_assoc _ _ _
  rw [e2] at e
  constructor
  · rcases Int.le_total 0 q with h | h
    · omega
    · have := Int.mul_le_mul_of_nonpos_right (show 1 ≤ d by omega) h
      omega
  · rcases Int.le_total 0 q with h | h
    · have := Int.mul_le_mul_of_nonneg_right (show 1 ≤ d by omega) h
      omega
    · omega
theorem ceil_bd {x d : Int} (hd : 0 < d) (h0 : 0 ≤ x) : 0 ≤ ceilI x d ∧ ceilI x d ≤ x := by
  unfold ceilI
  have h1 : -x / d < 1 := Int.ediv_lt_of_lt_mul hd (by omega)
  have h2 : -x ≤ -x / d := Int.le_ediv_of_mul_le hd (by
    have := Int.mul_le_mul_of_nonneg_left (show 1 ≤ d by omega) h0
    rw [Int.neg_mul]
    omega)
  omega
theorem near_int {x : Int} (w : World) (hf : FitW x) : Calls Try.prog 61 #[wv x] w fun e w' => e = .returned (.tuple #[.int .i64 (if I64 x then x else 0), .bool (decide (I64 x))]) ∧ Below w.heap.size w w' := by
  by_cases h : I64 x
  · rw [if_pos h, decide_eq_true h]
    exact wint_any x w h.lo (by have := h.hi; omega)
  · rw [if_neg h, decide_eq_false h]
    refine wint_out x w hf ?_
    rcases Int.lt_or_le x (-9223372036854775808) with a | a
    · exact .inl a
    · rcases Int.lt_or_le 9223372036854775807 x with b | b
      · exact .inr b
      · exact absurd ⟨a, b⟩ h
set_option maxHeartbeats 8000000 in
set_option maxRecDepth 100000 in
theorem nearest_any (x d : Int) (w : World) (hx0 : -85070591730234615865843651857942052864 < x) (hx : x < 85070591730234615865843651857942052864) (hd : 0 < d) (hd1 : d ≤ 9223372036854775807) :
    Calls Try.prog 41 #[wv x, .int .i64 d] w fun e w' => e = .returned (.tuple #[.int .i64 (if I64 (nearI2 x d) then nearI2 x d else 0), .bool (decide (I64 (nearI2 x d)))]) ∧ Below w.heap.size w w' := by
  have OF := Lib.hid fun w => wof_any d w (by omega) hd1
  have DV := Lib.hid fun w => wnear_any x d w hx0 hx hd (by omega)
  have IN := Lib.hid fun w => near_int (x := nearI2 x d) w (near_bd hd hx0 hx hd1)
  generalize decide (I64 (nearI2 x d)) = ok at *
  generalize (if I64 (nearI2 x d) then nearI2 x d else 0) = u at *
  generalize nearI2 x d = v at *
  unfold wv at *
  clear hx0 hx hd hd1
  have KX := Lib.hid (Blk.of (vs := #[.int .i64 (hiW x), .int .u64 (loW x)]) (t := 51) (w := w) (b := w.heap.size) (by simp))
  have HB := Lib.hid ((Below.refl w.heap.size w).alloc (by simp; try omega) (.cells #[.int .i64 (hiW x), .int .u64 (loW x)] 51))
  go_enter Try.func41, Try.ntmps41
  go_wp2_with fail
  generalize w.alloc (.cells #[.int .i64 (hiW x), .int .u64 (loW x)] 51) = w0 at *
  have BD := Lib.hid (show Below w0.heap.size w0 w0.drew from ⟨rfl, rfl, rfl, Nat.le_refl _, fun _ _ => rfl⟩)
  have BD2 := Lib.hid (below_drew_alloc w0 (.cells #[.int .i64 0, .int .u64 0] 51))
  have DOF := Lib.hid fun W (h : Below w0.heap.size w0 W) => (OF.out W).mono fun e w' ⟨h1, h2⟩ => show _ ∧ Below w0.heap.size w0 w' ∧ Below W.heap.size W w' from ⟨h1, h.trans (h2.mono h.size), h2⟩
  have DDV := Lib.hid fun W (h : Below w0.heap.size w0 W) => (DV.out W).mono fun e w' ⟨h1, h2⟩ => show _ ∧ Below w0.heap.size w0 w' ∧ Below W.heap.size W w' from ⟨h1, h.trans (h2.mono h.size), h2⟩
  have yX := KX.out
  have yX_0 := yX.c 0 _ rfl
  have yX_1 := yX.c 1 _ rfl
  have yX_z := yX.lt
  clear yX
  go_region_held3 (fun w' => w'.cell? ⟨w.heap.size, 0, none⟩ = some (.int .i64 (hiW x)) ∧ w'.cell? ⟨w.heap.size, 1, none⟩ = some (.int .u64 (loW x))) (first | (refine ⟨?_, ?_⟩ <;> first | assumption | (rw [far2 KV.out.1 yX_z]; assumption)) | go_keep)
    (first
      | (go_at_call 60; with_reducible refine Calls.mono (DOF.out _ (by first | exact BD.out | exact BD2.out | exact HX.out | exact HX.out.alloc HX.out.size _)) ?_; rintro e9 w9 ⟨rfl, hb9, hc9⟩; have pX := KX.out.below hb9; have qX0 := pX.c 0 _ rfl; have qX1 := pX.c 1 _ rfl; clear pX; (first | (with_reducible have KV := Lib.hid (kv_drew (vs := #[.int .i64 0, .int .u64 0]) (t := 51) hc9); have pV := KV.out.2; have v0 := pV.c 0 _ rfl; have vf0 := pV.f 0 _ rfl; have v1 := pV.c 1 _ rfl; have vf1 := pV.f 1 _ rfl; have v9 := pV.lt; clear pV) | (with_reducible have KV := Lib.hid (kv_new (vs := #[.int .i64 0, .int .u64 0]) (t := 51) HX.out hc9); have pV := KV.out.2; have v0 := pV.c 0 _ rfl; have vf0 := pV.f 0 _ rfl; have v1 := pV.c 1 _ rfl; have vf1 := pV.f 1 _ rfl; have v9 := pV.lt; clear pV) | (with_reducible have KV := Lib.hid (kv_old KV.out hc9); have pV := KV.out.2; have v0 := pV.c 0 _ rfl; have vf0 := pV.f 0 _ rfl; have v1 := pV.c 1 _ rfl; have vf1 := pV.f 1 _ rfl; have v9 := pV.lt; clear pV) | skip); have HX := Lib.hid hb9; clear hb9 hc9)
      | (go_at_call 59; with_reducible refine Calls.mono (DDV.out _ (by first | exact BD.out | exact BD2.out | exact HX.out | exact HX.out.alloc HX.out.size _)) ?_; rintro e9 w9 ⟨rfl, hb9, hc9⟩; have pX := KX.out.below hb9; have qX0 := pX.c 0 _ rfl; have qX1 := pX.c 1 _ rfl; clear pX; (first | (with_reducible have KV := Lib.hid (kv_drew (vs := #[.int .i64 0, .int .u64 0]) (t := 51) hc9); have pV := KV.out.2; have v0 := pV.c 0 _ rfl; have vf0 := pV.f 0 _ rfl; have v1 := pV.c 1 _ rfl; have vf1 := pV.f 1 _ rfl; have v9 := pV.lt; clear pV) | (with_reducible have KV := Lib.hid (kv_new (vs := #[.int .i64 0, .int .u64 0]) (t := 51) HX.out hc9); have pV := KV.out.2; have v0 := pV.c 0 _ rfl; have vf0 := pV.f 0 _ rfl; have v1 := pV.c 1 _ rfl; have vf1 := pV.f 1 _ rfl; have v9 := pV.lt; clear pV) | (with_reducible have KV := Lib.hid (kv_old KV.out hc9); have pV := KV.out.2; have v0 := pV.c 0 _ rfl; have vf0 := pV.f 0 _ rfl; have v1 := pV.c 1 _ rfl; have vf1 := pV.f 1 _ rfl; have v9 := pV.lt; clear pV) | skip); have HX := Lib.hid hb9; clear hb9 hc9))
  all_goals
    first
      | (have FN := kv_set2n (.int .i64 (hiW v)) (.int .u64 (loW v)) KV.out HX.out; have FB := Lib.hid FN.1; have KN := Lib.hid FN.2.1; have n0N := FN.2.2; clear FN; generalize World.setCell (World.setCell _ _ (.int .i64 (hiW v))) _ (.int .u64 (loW v)) = w1 at *)
      | (have FN := kv_putn (vs := #[.int .i64 (hiW v), .int .u64 (loW v)]) (t := 51) HX.out; have FB := Lib.hid FN.1; have KN := Lib.hid FN.2.1; have n0N := FN.2.2; clear FN; generalize (World.alloc _ (.cells #[.int .i64 (hiW v), .int .u64 (loW v)] 51)) = w1 at *)
    have nN := Nat.le_trans HB.out.size n0N
    have neN_X := Nat.ne_of_gt (Nat.lt_of_lt_of_le KX.out.lt n0N)
    replace HB := Lib.hid (HB.out.trans (FB.out.mono HB.out.size))
    replace KX := Lib.hid (KX.out.below FB.out)
    have yN := KN.out
    have yN_0 := yN.c 0 _ rfl
    have yN_1 := yN.c 1 _ rfl
    have yN_z := yN.lt
    clear yN
    go_wp2_with fail
    refine (IN.out _).mono ?_
    rintro e2 w2 ⟨rfl, hb2⟩
    replace HB := Lib.hid (HB.out.trans (hb2.mono HB.out.size))
    replace KX := Lib.hid (KX.out.below hb2)
    replace KN := Lib.hid (KN.out.below hb2)
    clear yN_0 yN_1 yN_z
    clear hb2
    go_wp2
    all_goals go_ret2
    all_goals exact ⟨rfl, HB.out⟩
set_option maxHeartbeats 8000000 in
set_option maxRecDepth 100000 in
theorem size_any (x d : Int) (w : World) (hx0 : 0 ≤ x) (hx : x < 85070591730234615865843651857942052864) (hd : 0 < d) (hd1 : d ≤ 9223372036854775807) :
    Calls Try.prog 45 #[wv x, .int .i64 d] w fun e w' => e = .returned (if ceilI x d ≤ 8000000 then .tuple #[.int .i64 (ceilI x d), .bool true] else .tuple #[.int .i64 0, .bool false]) ∧ Below w.heap.size w w' := by
  obtain ⟨b0, b1⟩ := ceil_bd hd hx0
  have OF := Lib.hid fun w => wof_any d w (by omega) hd1
  have DV := Lib.hid fun w => wdivup_any x d w hx0 hx hd (by omega)
  have IN := Lib.hid fun w => near_int (x := ceilI x d) w ⟨by omega, by omega⟩
  have IB : ceilI x d ≤ 8000000 → I64 (ceilI x d) := fun h => ⟨by omega, by omega⟩
  generalize ceilI x d = v at *
  unfold wv at *
  clear hx0 hx hd hd1 b0 b1
  by_cases h : v ≤ 8000000
  · have g : decide (8000000 < v) = false := by simp; omega
    rw [if_pos (IB h), decide_eq_true (IB h)] at IN
    rw [if_pos h]
    clear h IB
    have KX := Lib.hid (Blk.of (vs := #[.int .i64 (hiW x), .int .u64 (loW x)]) (t := 51) (w := w) (b := w.heap.size) (by simp))
    have HB := Lib.hid ((Below.refl w.heap.size w).alloc (by simp; try omega) (.cells #[.int .i64 (hiW x), .int .u64 (loW x)] 51))
    go_enter Try.func45, Try.ntmps45
    go_wp2_with fail
    generalize w.alloc (.cells #[.int .i64 (hiW x), .int .u64 (loW x)] 51) = w0 at *
    have BD := Lib.hid (show Below w0.heap.size w0 w0.drew from ⟨rfl, rfl, rfl, Nat.le_refl _, fun _ _ => rfl⟩)
    have BD2 := Lib.hid (below_drew_alloc w0 (.cells #[.int .i64 0, .int .u64 0] 51))
    have DOF := Lib.hid fun W (h : Below w0.heap.size w0 W) => (OF.out W).mono fun e w' ⟨h1, h2⟩ => show _ ∧ Below w0.heap.size w0 w' ∧ Below W.heap.size W w' from ⟨h1, h.trans (h2.mono h.size), h2⟩
    have DDV := Lib.hid fun W (h : Below w0.heap.size w0 W) => (DV.out W).mono fun e w' ⟨h1, h2⟩ => show _ ∧ Below w0.heap.size w0 w' ∧ Below W.heap.size W w' from ⟨h1, h.trans (h2.mono h.size), h2⟩
    have yX := KX.out
    have yX_0 := yX.c 0 _ rfl
    have yX_1 := yX.c 1 _ rfl
    have yX_z := yX.lt
    clear yX
    go_region_held3 (fun w' => w'.cell? ⟨w.heap.size, 0, none⟩ = some (.int .i64 (hiW x)) ∧ w'.cell? ⟨w.heap.size, 1, none⟩ = some (.int .u64 (loW x))) (first | (refine ⟨?_, ?_⟩ <;> first | assumption | (rw [far2 KV.out.1 yX_z]; assumption)) | go_keep)
      (first
        | (go_at_call 60; with_reducible refine Calls.mono (DOF.out _ (by first | exact BD.out | exact BD2.out | exact HX.out | exact HX.out.alloc HX.out.size _)) ?_; rintro e9 w9 ⟨rfl, hb9, hc9⟩; have pX := KX.out.below hb9; have qX0 := pX.c 0 _ rfl; have qX1 := pX.c 1 _ rfl; clear pX; (first | (with_reducible have KV := Lib.hid (kv_drew (vs := #[.int .i64 0, .int .u64 0]) (t := 51) hc9); have pV := KV.out.2; have v0 := pV.c 0 _ rfl; have vf0 := pV.f 0 _ rfl; have v1 := pV.c 1 _ rfl; have vf1 := pV.f 1 _ rfl; have v9 := pV.lt; clear pV) | (with_reducible have KV := Lib.hid (kv_new (vs := #[.int .i64 0, .int .u64 0]) (t := 51) HX.out hc9); have pV := KV.out.2; have v0 := pV.c 0 _ rfl; have vf0 := pV.f 0 _ rfl; have v1 := pV.c 1 _ rfl; have vf1 := pV.f 1 _ rfl; have v9 := pV.lt; clear pV) | (with_reducible have KV := Lib.hid (kv_old KV.out hc9); have pV := KV.out.2; have v0 := pV.c 0 _ rfl; have vf0 := pV.f 0 _ rfl; have v1 := pV.c 1 _ rfl; have vf1 := pV.f 1 _ rfl; have v9 := pV.lt; clear pV) | skip); have HX := Lib.hid hb9; clear hb9 hc9)
        | (go_at_call 66; with_reducible refine Calls.mono (DDV.out _ (by first | exact BD.out | exact BD2.out | exact HX.out | exact HX.out.alloc HX.out.size _)) ?_; rintro e9 w9 ⟨rfl, hb9, hc9⟩; have pX := KX.out.below hb9; have qX0 := pX.c 0 _ rfl; have qX1 := pX.c 1 _ rfl; clear pX; (first | (with_reducible have KV := Lib.hid (kv_drew (vs := #[.int .i64 0, .int .u64 0]) (t := 51) hc9); have pV := KV.out.2; have v0 := pV.c 0 _ rfl; have vf0 := pV.f 0 _ rfl; have v1 := pV.c 1 _ rfl; have vf1 := pV.f 1 _ rfl; have v9 := pV.lt; clear pV) | (with_reducible have KV := Lib.hid (kv_new (vs := #[.int .i64 0, .int .u64 0]) (t := 51) HX.out hc9); have pV := KV.out.2; have v0 := pV.c 0 _ rfl; have vf0 := pV.f 0 _ rfl; have v1 := pV.c 1 _ rfl; have vf1 := pV.f 1 _ rfl; have v9 := pV.lt; clear pV) | (with_reducible have KV := Lib.hid (kv_old KV.out hc9); have pV := KV.out.2; have v0 := pV.c 0 _ rfl; have vf0 := pV.f 0 _ rfl; have v1 := pV.c 1 _ rfl; have vf1 := pV.f 1 _ rfl; have v9 := pV.lt; clear pV) | skip); have HX := Lib.hid hb9; clear hb9 hc9))
    all_goals
      first
        | (have FN := kv_set2n (.int .i64 (hiW v)) (.int .u64 (loW v)) KV.out HX.out; have FB := Lib.hid FN.1; have KN := Lib.hid FN.2.1; have n0N := FN.2.2; clear FN; generalize World.setCell (World.setCell _ _ (.int .i64 (hiW v))) _ (.int .u64 (loW v)) = w1 at *)
        | (have FN := kv_putn (vs := #[.int .i64 (hiW v), .int .u64 (loW v)]) (t := 51) HX.out; have FB := Lib.hid FN.1; have KN := Lib.hid FN.2.1; have n0N := FN.2.2; clear FN; generalize (World.alloc _ (.cells #[.int .i64 (hiW v), .int .u64 (loW v)] 51)) = w1 at *)
      have nN := Nat.le_trans HB.out.size n0N
      have neN_X := Nat.ne_of_gt (Nat.lt_of_lt_of_le KX.out.lt n0N)
      replace HB := Lib.hid (HB.out.trans (FB.out.mono HB.out.size))
      replace KX := Lib.hid (KX.out.below FB.out)
      have yN := KN.out
      have yN_0 := yN.c 0 _ rfl
      have yN_1 := yN.c 1 _ rfl
      have yN_z := yN.lt
      clear yN
      go_wp2_with fail
      refine (IN.out _).mono ?_
      rintro e2 w2 ⟨rfl, hb2⟩
      replace HB := Lib.hid (HB.out.trans (hb2.mono HB.out.size))
      replace KX := Lib.hid (KX.out.below hb2)
      replace KN := Lib.hid (KN.out.below hb2)
      clear yN_0 yN_1 yN_z
      clear hb2
      go_wp2
      all_goals go_ret2
      all_goals exact ⟨rfl, HB.out⟩
  · rw [if_neg h]
    by_cases k : I64 v
    · have g : decide (8000000 < v) = true := by simp; omega
      rw [if_pos k, decide_eq_true k] at IN
      clear h IB k
      have KX := Lib.hid (Blk.of (vs := #[.int .i64 (hiW x), .int .u64 (loW x)]) (t := 51) (w := w) (b := w.heap.size) (by simp))
      have HB := Lib.hid ((Below.refl w.heap.size w).alloc (by simp; try omega) (.cells #[.int .i64 (hiW x), .int .u64 (loW x)] 51))
      go_enter Try.func45, Try.ntmps45
      go_wp2_with fail
      generalize w.alloc (.cells #[.int .i64 (hiW x), .int .u64 (loW x)] 51) = w0 at *
      have BD := Lib.hid (show Below w0.heap.size w0 w0.drew from ⟨rfl, rfl, rfl, Nat.le_refl _, fun _ _ => rfl⟩)
      have BD2 := Lib.hid (below_drew_alloc w0 (.cells #[.int .i64 0, .int .u64 0] 51))
      have DOF := Lib.hid fun W (h : Below w0.heap.size w0 W) => (OF.out W).mono fun e w' ⟨h1, h2⟩ => show _ ∧ Below w0.heap.size w0 w' ∧ Below W.heap.size W w' from ⟨h1, h.trans (h2.mono h.size), h2⟩
      have DDV := Lib.hid fun W (h : Below w0.heap.size w0 W) => (DV.out W).mono fun e w' ⟨h1, h2⟩ => show _ ∧ Below w0.heap.size w0 w' ∧ Below W.heap.size W w' from ⟨h1, h.trans (h2.mono h.size), h2⟩
      have yX := KX.out
      have yX_0 := yX.c 0 _ rfl
      have yX_1 := yX.c 1 _ rfl
      have yX_z := yX.lt
      clear yX
      go_region_held3 (fun w' => w'.cell? ⟨w.heap.size, 0, none⟩ = some (.int .i64 (hiW x)) ∧ w'.cell? ⟨w.heap.size, 1, none⟩ = some (.int .u64 (loW x))) (first | (refine ⟨?_, ?_⟩ <;> first | assumption | (rw [far2 KV.out.1 yX_z]; assumption)) | go_keep)
        (first
          | (go_at_call 60; with_reducible refine Calls.mono (DOF.out _ (by first | exact BD.out | exact BD2.out | exact HX.out | exact HX.out.alloc HX.out.size _)) ?_; rintro e9 w9 ⟨rfl, hb9, hc9⟩; have pX := KX.out.below hb9; have qX0 := pX.c 0 _ rfl; have qX1 := pX.c 1 _ rfl; clear pX; (first | (with_reducible have KV := Lib.hid (kv_drew (vs := #[.int .i64 0, .int .u64 0]) (t := 51) hc9); have pV := KV.out.2; have v0 := pV.c 0 _ rfl; have vf0 := pV.f 0 _ rfl; have v1 := pV.c 1 _ rfl; have vf1 := pV.f 1 _ rfl; have v9 := pV.lt; clear pV) | (with_reducible have KV := Lib.hid (kv_new (vs := #[.int .i64 0, .int .u64 0]) (t := 51) HX.out hc9); have pV := KV.out.2; have v0 := pV.c 0 _ rfl; have vf0 := pV.f 0 _ rfl; have v1 := pV.c 1 _ rfl; have vf1 := pV.f 1 _ rfl; have v9 := pV.lt; clear pV) | (with_reducible have KV := Lib.hid (kv_old KV.out hc9); have pV := KV.out.2; have v0 := pV.c 0 _ rfl; have vf0 := pV.f 0 _ rfl; have v1 := pV.c 1 _ rfl; have vf1 := pV.f 1 _ rfl; have v9 := pV.lt; clear pV) | skip); have HX := Lib.hid hb9; clear hb9 hc9)
          | (go_at_call 66; with_reducible refine Calls.mono (DDV.out _ (by first | exact BD.out | exact BD2.out | exact HX.out | exact HX.out.alloc HX.out.size _)) ?_; rintro e9 w9 ⟨rfl, hb9, hc9⟩; have pX := KX.out.below hb9; have qX0 := pX.c 0 _ rfl; have qX1 := pX.c 1 _ rfl; clear pX; (first | (with_reducible have KV := Lib.hid (kv_drew (vs := #[.int .i64 0, .int .u64 0]) (t := 51) hc9); have pV := KV.out.2; have v0 := pV.c 0 _ rfl; have vf0 := pV.f 0 _ rfl; have v1 := pV.c 1 _ rfl; have vf1 := pV.f 1 _ rfl; have v9 := pV.lt; clear pV) | (with_reducible have KV := Lib.hid (kv_new (vs := #[.int .i64 0, .int .u64 0]) (t := 51) HX.out hc9); have pV := KV.out.2; have v0 := pV.c 0 _ rfl; have vf0 := pV.f 0 _ rfl; have v1 := pV.c 1 _ rfl; have vf1 := pV.f 1 _ rfl; have v9 := pV.lt; clear pV) | (with_reducible have KV := Lib.hid (kv_old KV.out hc9); have pV := KV.out.2; have v0 := pV.c 0 _ rfl; have vf0 := pV.f 0 _ rfl; have v1 := pV.c 1 _ rfl; have vf1 := pV.f 1 _ rfl; have v9 := pV.lt; clear pV) | skip); have HX := Lib.hid hb9; clear hb9 hc9))
      all_goals
        first
          | (have FN := kv_set2n (.int .i64 (hiW v)) (.int .u64 (loW v)) KV.out HX.out; have FB := Lib.hid FN.1; have KN := Lib.hid FN.2.1; have n0N := FN.2.2; clear FN; generalize World.setCell (World.setCell _ _ (.int .i64 (hiW v))) _ (.int .u64 (loW v)) = w1 at *)
          | (have FN := kv_putn (vs := #[.int .i64 (hiW v), .int .u64 (loW v)]) (t := 51) HX.out; have FB := Lib.hid FN.1; have KN := Lib.hid FN.2.1; have n0N := FN.2.2; clear FN; generalize (World.alloc _ (.cells #[.int .i64 (hiW v), .int .u64 (loW v)] 51)) = w1 at *)
        have nN := Nat.le_trans HB.out.size n0N
        have neN_X := Nat.ne_of_gt (Nat.lt_of_lt_of_le KX.out.lt n0N)
        replace HB := Lib.hid (HB.out.trans (FB.out.mono HB.out.size))
        replace KX := Lib.hid (KX.out.below FB.out)
        have yN := KN.out
        have yN_0 := yN.c 0 _ rfl
        have yN_1 := yN.c 1 _ rfl
        have yN_z := yN.lt
        clear yN
        go_wp2_with fail
        refine (IN.out _).mono ?_
        rintro e2 w2 ⟨rfl, hb2⟩
        replace HB := Lib.hid (HB.out.trans (hb2.mono HB.out.size))
        replace KX := Lib.hid (KX.out.below hb2)
        replace KN := Lib.hid (KN.out.below hb2)
        clear yN_0 yN_1 yN_z
        clear hb2
        go_wp2
        all_goals go_ret2
        all_goals exact ⟨rfl, HB.out⟩
    · rw [if_neg k, decide_eq_false k] at IN
      clear h IB k
      have KX := Lib.hid (Blk.of (vs := #[.int .i64 (hiW x), .int .u64 (loW x)]) (t := 51) (w := w) (b := w.heap.size) (by simp))
      have HB := Lib.hid ((Below.refl w.heap.size w).alloc (by simp; try omega) (.cells #[.int .i64 (hiW x), .int .u64 (loW x)] 51))
      go_enter Try.func45, Try.ntmps45
      go_wp2_with fail
      generalize w.alloc (.cells #[.int .i64 (hiW x), .int .u64 (loW x)] 51) = w0 at *
      have BD := Lib.hid (show Below w0.heap.size w0 w0.drew from ⟨rfl, rfl, rfl, Nat.le_refl _, fun _ _ => rfl⟩)
      have BD2 := Lib.hid (below_drew_alloc w0 (.cells #[.int .i64 0, .int .u64 0] 51))
      have DOF := Lib.hid fun W (h : Below w0.heap.size w0 W) => (OF.out W).mono fun e w' ⟨h1, h2⟩ => show _ ∧ Below w0.heap.size w0 w' ∧ Below W.heap.size W w' from ⟨h1, h.trans (h2.mono h.size), h2⟩
      have DDV := Lib.hid fun W (h : Below w0.heap.size w0 W) => (DV.out W).mono fun e w' ⟨h1, h2⟩ => show _ ∧ Below w0.heap.size w0 w' ∧ Below W.heap.size W w' from ⟨h1, h.trans (h2.mono h.size), h2⟩
      have yX := KX.out
      have yX_0 := yX.c 0 _ rfl
      have yX_1 := yX.c 1 _ rfl
      have yX_z := yX.lt
      clear yX
      go_region_held3 (fun w' => w'.cell? ⟨w.heap.size, 0, none⟩ = some (.int .i64 (hiW x)) ∧ w'.cell? ⟨w.heap.size, 1, none⟩ = some (.int .u64 (loW x))) (first | (refine ⟨?_, ?_⟩ <;> first | assumption | (rw [far2 KV.out.1 yX_z]; assumption)) | go_keep)
        (first
          | (go_at_call 60; with_reducible refine Calls.mono (DOF.out _ (by first | exact BD.out | exact BD2.out | exact HX.out | exact HX.out.alloc HX.out.size _)) ?_; rintro e9 w9 ⟨rfl, hb9, hc9⟩; have pX := KX.out.below hb9; have qX0 := pX.c 0 _ rfl; have qX1 := pX.c 1 _ rfl; clear pX; (first | (with_reducible have KV := Lib.hid (kv_drew (vs := #[.int .i64 0, .int .u64 0]) (t := 51) hc9); have pV := KV.out.2; have v0 := pV.c 0 _ rfl; have vf0 := pV.f 0 _ rfl; have v1 := pV.c 1 _ rfl; have vf1 := pV.f 1 _ rfl; have v9 := pV.lt; clear pV) | (with_reducible have KV := Lib.hid (kv_new (vs := #[.int .i64 0, .int .u64 0]) (t := 51) HX.out hc9); have pV := KV.out.2; have v0 := pV.c 0 _ rfl; have vf0 := pV.f 0 _ rfl; have v1 := pV.c 1 _ rfl; have vf1 := pV.f 1 _ rfl; have v9 := pV.lt; clear pV) | (with_reducible have KV := Lib.hid (kv_old KV.out hc9); have pV := KV.out.2; have v0 := pV.c 0 _ rfl; have vf0 := pV.f 0 _ rfl; have v1 := pV.c 1 _ rfl; have vf1 := pV.f 1 _ rfl; have v9 := pV.lt; clear pV) | skip); have HX := Lib.hid hb9; clear hb9 hc9)
          | (go_at_call 66; with_reducible refine Calls.mono (DDV.out _ (by first | exact BD.out | exact BD2.out | exact HX.out | exact HX.out.alloc HX.out.size _)) ?_; rintro e9 w9 ⟨rfl, hb9, hc9⟩; have pX := KX.out.below hb9; have qX0 := pX.c 0 _ rfl; have qX1 := pX.c 1 _ rfl; clear pX; (first | (with_reducible have KV := Lib.hid (kv_drew (vs := #[.int .i64 0, .int .u64 0]) (t := 51) hc9); have pV := KV.out.2; have v0 := pV.c 0 _ rfl; have vf0 := pV.f 0 _ rfl; have v1 := pV.c 1 _ rfl; have vf1 := pV.f 1 _ rfl; have v9 := pV.lt; clear pV) | (with_reducible have KV := Lib.hid (kv_new (vs := #[.int .i64 0, .int .u64 0]) (t := 51) HX.out hc9); have pV := KV.out.2; have v0 := pV.c 0 _ rfl; have vf0 := pV.f 0 _ rfl; have v1 := pV.c 1 _ rfl; have vf1 := pV.f 1 _ rfl; have v9 := pV.lt; clear pV) | (with_reducible have KV := Lib.hid (kv_old KV.out hc9); have pV := KV.out.2; have v0 := pV.c 0 _ rfl; have vf0 := pV.f 0 _ rfl; have v1 := pV.c 1 _ rfl; have vf1 := pV.f 1 _ rfl; have v9 := pV.lt; clear pV) | skip); have HX := Lib.hid hb9; clear hb9 hc9))
      all_goals
        first
          | (have FN := kv_set2n (.int .i64 (hiW v)) (.int .u64 (loW v)) KV.out HX.out; have FB := Lib.hid FN.1; have KN := Lib.hid FN.2.1; have n0N := FN.2.2; clear FN; generalize World.setCell (World.setCell _ _ (.int .i64 (hiW v))) _ (.int .u64 (loW v)) = w1 at *)
          | (have FN := kv_putn (vs := #[.int .i64 (hiW v), .int .u64 (loW v)]) (t := 51) HX.out; have FB := Lib.hid FN.1; have KN := Lib.hid FN.2.1; have n0N := FN.2.2; clear FN; generalize (World.alloc _ (.cells #[.int .i64 (hiW v), .int .u64 (loW v)] 51)) = w1 at *)
        have nN := Nat.le_trans HB.out.size n0N
        have neN_X := Nat.ne_of_gt (Nat.lt_of_lt_of_le KX.out.lt n0N)
        replace HB := Lib.hid (HB.out.trans (FB.out.mono HB.out.size))
        replace KX := Lib.hid (KX.out.below FB.out)
        have yN := KN.out
        have yN_0 := yN.c 0 _ rfl
        have yN_1 := yN.c 1 _ rfl
        have yN_z := yN.lt
        clear yN
        go_wp2_with fail
        refine (IN.out _).mono ?_
        rintro e2 w2 ⟨rfl, hb2⟩
        replace HB := Lib.hid (HB.out.trans (hb2.mono HB.out.size))
        replace KX := Lib.hid (KX.out.below hb2)
        replace KN := Lib.hid (KN.out.below hb2)
        clear yN_0 yN_1 yN_z
        clear hb2
        go_wp2
        all_goals go_ret2
        all_goals exact ⟨rfl, HB.out⟩
set_option maxHeartbeats 8000000 in
set_option maxRecDepth 100000 in
theorem apart_any (p x d : Int) (w : World) (hp : I64 p) (hd : I64 d) (hx : FitW x) (h1 : FitW (p * d - x)) (h2 : FitW (-(p * d - x))) :
    Calls Try.prog 28 #[.int .i64 p, wv x, .int .i64 d] w fun e w' => e = .returned (wv (absZ (p * d - x))) ∧ Below w.heap.size w w' := by
  have MU := Lib.hid fun w => wmul_any p d w hp.lo hp.hi hd.lo hd.hi
  have SB := Lib.hid fun w => wsub_any (p * d) x w (mul_fit hp.lo hp.hi hd.lo hd.hi) hx h1
  have AB := Lib.hid fun w => wwabs_any (p * d - x) w h1 h2
  unfold wv1 at AB
  clear hp hd hx h1 h2
  generalize absZ (p * d - x) = r at *
  generalize p * d - x = v at *
  generalize p * d = q at *
  unfold wv at *
  have KX := Lib.hid ((Blk.of (vs := #[.int .i64 (hiW x), .int .u64 (loW x)]) (t := 51) (w := w) (b := w.heap.size) (by simp)).alloc (.cells #[.int .i64 0, .int .u64 0] 51))
  have KZ := Lib.hid (Blk.of (vs := #[.int .i64 0, .int .u64 0]) (t := 51) (w := (w.alloc (.cells #[.int .i64 (hiW x), .int .u64 (loW x)] 51))) (b := w.heap.size + 1) (by simp))
  have HB := Lib.hid (((Below.refl w.heap.size w).alloc (by simp; try omega) (.cells #[.int .i64 (hiW x), .int .u64 (loW x)] 51)).alloc (by simp; try omega) (.cells #[.int .i64 0, .int .u64 0] 51))
  go_enter Try.func28, Try.ntmps28
  go_wp2_with fail
  generalize (w.alloc (.cells #[.int .i64 (hiW x), .int .u64 (loW x)] 51)).alloc (.cells #[.int .i64 0, .int .u64 0] 51) = w0 at *
  have BD := Lib.hid (show Below w0.heap.size w0 w0.drew from ⟨rfl, rfl, rfl, Nat.le_refl _, fun _ _ => rfl⟩)
  have BD2 := Lib.hid (below_drew_alloc w0 (.cells #[.int .i64 0, .int .u64 0] 51))
  have DMU := Lib.hid fun W (h : Below w0.heap.size w0 W) => (MU.out W).mono fun e w' ⟨h1, h2⟩ => show _ ∧ Below w0.heap.size w0 w' ∧ Below W.heap.size W w' from ⟨h1, h.trans (h2.mono h.size), h2⟩
  have DSB := Lib.hid fun W (h : Below w0.heap.size w0 W) => (SB.out W).mono fun e w' ⟨h1, h2⟩ => show _ ∧ Below w0.heap.size w0 w' ∧ Below W.heap.size W w' from ⟨h1, h.trans (h2.mono h.size), h2⟩
  have yX := KX.out
  have yX_0 := yX.c 0 _ rfl
  have yX_1 := yX.c 1 _ rfl
  have yX_z := yX.lt
  clear yX
  go_region_held3 (fun w' => w'.cell? ⟨w.heap.size, 0, none⟩ = some (.int .i64 (hiW x)) ∧ w'.cell? ⟨w.heap.size, 1, none⟩ = some (.int .u64 (loW x))) (first | (refine ⟨?_, ?_⟩ <;> first | assumption | (rw [far2 KV.out.1 yX_z]; assumption)) | go_keep)
    (first
      | (go_at_call 44; with_reducible refine Calls.mono (DMU.out _ (by first | exact BD.out | exact BD2.out | exact HX.out | exact HX.out.alloc HX.out.size _)) ?_; rintro e9 w9 ⟨rfl, hb9, hc9⟩; have pX := KX.out.below hb9; have qX0 := pX.c 0 _ rfl; have qX1 := pX.c 1 _ rfl; clear pX; (first | (with_reducible have KV := Lib.hid (kv_drew (vs := #[.int .i64 0, .int .u64 0]) (t := 51) hc9); have pV := KV.out.2; have v0 := pV.c 0 _ rfl; have vf0 := pV.f 0 _ rfl; have v1 := pV.c 1 _ rfl; have vf1 := pV.f 1 _ rfl; have v9 := pV.lt; clear pV) | (with_reducible have KV := Lib.hid (kv_new (vs := #[.int .i64 0, .int .u64 0]) (t := 51) HX.out hc9); have pV := KV.out.2; have v0 := pV.c 0 _ rfl; have vf0 := pV.f 0 _ rfl; have v1 := pV.c 1 _ rfl; have vf1 := pV.f 1 _ rfl; have v9 := pV.lt; clear pV) | (with_reducible have KV := Lib.hid (kv_old KV.out hc9); have pV := KV.out.2; have v0 := pV.c 0 _ rfl; have vf0 := pV.f 0 _ rfl; have v1 := pV.c 1 _ rfl; have vf1 := pV.f 1 _ rfl; have v9 := pV.lt; clear pV) | skip); have HX := Lib.hid hb9; clear hb9 hc9)
      | (go_at_call 46; with_reducible refine Calls.mono (DSB.out _ (by first | exact BD.out | exact BD2.out | exact HX.out | exact HX.out.alloc HX.out.size _)) ?_; rintro e9 w9 ⟨rfl, hb9, hc9⟩; have pX := KX.out.below hb9; have qX0 := pX.c 0 _ rfl; have qX1 := pX.c 1 _ rfl; clear pX; (first | (with_reducible have KV := Lib.hid (kv_drew (vs := #[.int .i64 0, .int .u64 0]) (t := 51) hc9); have pV := KV.out.2; have v0 := pV.c 0 _ rfl; have vf0 := pV.f 0 _ rfl; have v1 := pV.c 1 _ rfl; have vf1 := pV.f 1 _ rfl; have v9 := pV.lt; clear pV) | (with_reducible have KV := Lib.hid (kv_new (vs := #[.int .i64 0, .int .u64 0]) (t := 51) HX.out hc9); have pV := KV.out.2; have v0 := pV.c 0 _ rfl; have vf0 := pV.f 0 _ rfl; have v1 := pV.c 1 _ rfl; have vf1 := pV.f 1 _ rfl; have v9 := pV.lt; clear pV) | (with_reducible have KV := Lib.hid (kv_old KV.out hc9); have pV := KV.out.2; have v0 := pV.c 0 _ rfl; have vf0 := pV.f 0 _ rfl; have v1 := pV.c 1 _ rfl; have vf1 := pV.f 1 _ rfl; have v9 := pV.lt; clear pV) | skip); have HX := Lib.hid hb9; clear hb9 hc9))
  all_goals
    first
      | (have FN := kv_set2n (.int .i64 (hiW v)) (.int .u64 (loW v)) KV.out HX.out; have FB := Lib.hid FN.1; have KN := Lib.hid FN.2.1; have n0N := FN.2.2; clear FN; generalize World.setCell (World.setCell _ _ (.int .i64 (hiW v))) _ (.int .u64 (loW v)) = w1 at *)
      | (have FN := kv_putn (vs := #[.int .i64 (hiW v), .int .u64 (loW v)]) (t := 51) HX.out; have FB := Lib.hid FN.1; have KN := Lib.hid FN.2.1; have n0N := FN.2.2; clear FN; generalize (World.alloc _ (.cells #[.int .i64 (hiW v), .int .u64 (loW v)] 51)) = w1 at *)
    have nN := Nat.le_trans HB.out.size n0N
    have neN_X := Nat.ne_of_gt (Nat.lt_of_lt_of_le KX.out.lt n0N)
    have neN_Z := Nat.ne_of_gt (Nat.lt_of_lt_of_le KZ.out.lt n0N)
    replace HB := Lib.hid (HB.out.trans (FB.out.mono HB.out.size))
    replace KX := Lib.hid (KX.out.below FB.out)
    replace KZ := Lib.hid (KZ.out.below FB.out)
    have yN := KN.out
    have yN_0 := yN.c 0 _ rfl
    have yN_1 := yN.c 1 _ rfl
    have yN_z := yN.lt
    clear yN
    go_wp2_with fail
    refine (AB.out _).mono ?_
    rintro e2 w2 ⟨rfl, hb2⟩
    replace HB := Lib.hid (HB.out.trans (hb2.mono HB.out.size))
    replace KX := Lib.hid (KX.out.below hb2)
    replace KZ := Lib.hid (KZ.out.below hb2)
    replace KN := Lib.hid (KN.out.below hb2)
    clear yN_0 yN_1 yN_z
    clear hb2
    have yZ := KZ.out
    have yZ_0 := yZ.c 0 _ rfl
    have yZ_1 := yZ.c 1 _ rfl
    have yZ_z := yZ.lt
    have yZ_f0 := yZ.f 0 _ rfl
    have yZ_f1 := yZ.f 1 _ rfl
    clear yZ
    have yN := KN.out
    have yN_0 := yN.c 0 _ rfl
    have yN_1 := yN.c 1 _ rfl
    have yN_z := yN.lt
    have yN_f0 := yN.f 0 _ rfl
    have yN_f1 := yN.f 1 _ rfl
    clear yN
    go_wp2
    replace KX := Lib.hid (blk_other (j := 1) (blk_other (j := 0) KX.out neN_X (.int .i64 (hiW r))) neN_X (.int .u64 (loW r)))
    replace KZ := Lib.hid (blk_other (j := 1) (blk_other (j := 0) KZ.out neN_Z (.int .i64 (hiW r))) neN_Z (.int .u64 (loW r)))
    replace KN := Lib.hid (blk_set (blk_set KN.out (j := 0) (by simp) (.int .i64 (hiW r))) (j := 1) (by simp) (.int .u64 (loW r)))
    replace HB := Lib.hid ((HB.out.setCell (p := ⟨_, 0, none⟩) nN (.int .i64 (hiW r))).setCell (p := ⟨_, 1, none⟩) nN (.int .u64 (loW r)))
    clear yZ_0 yZ_1 yZ_z yZ_f0 yZ_f1 yN_0 yN_1 yN_z yN_f0 yN_f1
    generalize World.setCell (World.setCell _ _ (.int .i64 (hiW r))) _ (.int .u64 (loW r)) = w3 at *
    simp only [List.set] at KN
    replace KX := Lib.hid (blk_other (b := w.heap.size) (n := (w.heap.size + 1)) (j := 1) (blk_other (b := w.heap.size) (n := (w.heap.size + 1)) (j := 0) KX.out (by omega) (.int .i64 (hiW r))) (by omega) (.int .u64 (loW r)))
    replace KZ := Lib.hid (blk_set (blk_set KZ.out (j := 0) (by simp) (.int .i64 (hiW r))) (j := 1) (by simp) (.int .u64 (loW r)))
    replace KN := Lib.hid (blk_other (j := 1) (blk_other (j := 0) KN.out (Ne.symm neN_Z) (.int .i64 (hiW r))) (Ne.symm neN_Z) (.int .u64 (loW r)))
    replace HB := Lib.hid ((HB.out.setCell (p := ⟨(w.heap.size + 1), 0, none⟩) (show w.heap.size ≤ (w.heap.size + 1) by omega) (.int .i64 (hiW r))).setCell (p := ⟨(w.heap.size + 1), 1, none⟩) (show w.heap.size ≤ (w.heap.size + 1) by omega) (.int .u64 (loW r)))
    generalize (w3.setCell ⟨(w.heap.size + 1), 0, none⟩ (.int .i64 (hiW r))).setCell ⟨(w.heap.size + 1), 1, none⟩ (.int .u64 (loW r)) = w4 at *
    simp only [List.set] at KZ
    have yZ := KZ.out
    have yZ_0 := yZ.c 0 _ rfl
    have yZ_1 := yZ.c 1 _ rfl
    have yZ_z := yZ.lt
    clear yZ
    refine bodyPost_ret (v := .agg #[.int .i64 (hiW r), .int .u64 (loW r)]) (by simp [results, Try.results28, go_sem, yZ_0, yZ_1]) rfl ⟨rfl, HB.out⟩
end Go.Proofs.Ytplgdlooglnpmaa
