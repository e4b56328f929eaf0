/-
  Walks and laws of the layers below, gathered from several texts.
-/
import Derived.Lib.QuietBelow
import Derived.Laws.OwnMore
import Derived.Maps.AppendAt
import Derived.OwnWalk
import Derived.OneCell
import Derived.Lib.SmallJoins
import Derived.Deep.Onto
import Derived.Lib.SlicesCompact
import Derived.Lib.RowBridge
import Derived.Test.YtajmjkliblippaaGreatDoorFixPlain
import Derived.Test.YtajmjkliblippaaGreatDoorM62
namespace Go.Proofs.YtajmjkliblippaaGreatDoor
set_option linter.unusedVariables false
open Go.RowKit
theorem kv_set2n {w W : World} {u0 u1 : Value} {b : Nat} (v0 v1 : Value) (h : w.heap.size ≤ b ∧ Blk [u0, u1] b W) (hb : Below w.heap.size w W) :
    Below w.heap.size w ((W.setCell ⟨b, 0, none⟩ v0).setCell ⟨b, 1, none⟩ v1) ∧ Blk [v0, v1] b ((W.setCell ⟨b, 0, none⟩ v0).setCell ⟨b, 1, none⟩ v1) ∧ w.heap.size ≤ b :=
  ⟨((hb.setCell (p := ⟨b, 0, none⟩) h.1 v0).setCell (p := ⟨b, 1, none⟩) h.1 v1), (blk_set (blk_set h.2 (j := 0) (by simp) v0) (j := 1) (by simp) v1), h.1⟩
theorem kv_set7 {w W : World} {u0 u1 u2 u3 u4 u5 u6 : Value} {b : Nat} (v0 v1 v2 v3 v4 v5 v6 : Value) (h : w.heap.size ≤ b ∧ Blk [u0, u1, u2, u3, u4, u5, u6] b W) (hb : Below w.heap.size w W) :
    Below w.heap.size w (((((((W.setCell ⟨b, 0, none⟩ v0).setCell ⟨b, 1, none⟩ v1).setCell ⟨b, 2, none⟩ v2).setCell ⟨b, 3, none⟩ v3).setCell ⟨b, 4, none⟩ v4).setCell ⟨b, 5, none⟩ v5).setCell ⟨b, 6, none⟩ v6) ∧ Blk [v0, v1, v2, v3, v4, v5, v6] b (((((((W.setCell ⟨b, 0, none⟩ v0).setCell ⟨b, 1, none⟩ v1).setCell ⟨b, 2, none⟩ v2).setCell ⟨b, 3, none⟩ v3).setCell ⟨b, 4, none⟩ v4).setCell ⟨b, 5, none⟩ v5).setCell ⟨b, 6, none⟩ v6) ∧ w.heap.size ≤ b :=
  ⟨(((((((hb.setCell (p := ⟨b, 0, none⟩) h.1 v0).setCell (p := ⟨b, 1, none⟩) h.1 v1).setCell (p := ⟨b, 2, none⟩) h.1 v2).setCell (p := ⟨b, 3, none⟩) h.1 v3).setCell (p := ⟨b, 4, none⟩) h.1 v4).setCell (p := ⟨b, 5, none⟩) h.1 v5).setCell (p := ⟨b, 6, none⟩) h.1 v6), (blk_set (blk_set (blk_set (blk_set (blk_set (blk_set (blk_set h.2 (j := 0) (by simp) v0) (j := 1) (by simp) v1) (j := 2) (by simp) v2) (j := 3) (by simp) v3) (j := 4) (by simp) v4) (j := 5) (by simp) v5) (j := 6) (by simp) v6), h.1⟩
theorem kv_set9 {w W : World} {u0 u1 u2 u3 u4 u5 u6 u7 u8 : Value} {b : Nat} (v0 v1 v2 v3 v4 v5 v6 v7 v8 : Value) (h : w.heap.size ≤ b ∧ Blk [u0, u1, u2, u3, u4, u5, u6, u7, u8] b W) (hb : Below w.heap.size w W) :
    Below w.heap.size w (((((((((W.setCell ⟨b, 0, none⟩ v0).setCell ⟨b, 1, none⟩ v1).setCell ⟨b, 2, none⟩ v2).setCell ⟨b, 3, none⟩ v3).setCell ⟨b, 4, none⟩ v4).setCell ⟨b, 5, none⟩ v5).setCell ⟨b, 6, none⟩ v6).setCell ⟨b, 7, none⟩ v7).setCell ⟨b, 8, none⟩ v8) ∧ Blk [v0, v1, v2, v3, v4, v5, v6, v7, v8] b (((((((((W.setCell ⟨b, 0, none⟩ v0).setCell ⟨b, 1, none⟩ v1).setCell ⟨b, 2, none⟩ v2).setCell ⟨b, 3, none⟩ v3).setCell ⟨b, 4, none⟩ v4).setCell ⟨b, 5, none⟩ v5).setCell ⟨b, 6, none⟩ v6).setCell ⟨b, 7, none⟩ v7).setCell ⟨b, 8, none⟩ v8) ∧ w.heap.size ≤ b :=
  ⟨(((((((((hb.setCell (p := ⟨b, 0, none⟩) h.1 v0).setCell (p := ⟨b, 1, none⟩) h.1 v1).setCell (p := ⟨b, 2, none⟩) h.1 v2).setCell (p := ⟨b, 3, none⟩) h.1 v3).setCell (p := ⟨b, 4, none⟩) h.1 v4).setCell (p := ⟨b, 5, none⟩) h.1 v5).setCell (p := ⟨b, 6, none⟩) h.1 v6).setCell (p := ⟨b, 7, none⟩) h.1 v7).setCell (p := ⟨b, 8, none⟩) h.1 v8), (blk_set (blk_set (blk_set (blk_set (blk_set (blk_set (blk_set (blk_set (blk_set h.2 (j := 0) (by simp) v0) (j := 1) (by simp) v1) (j := 2) (by simp) v2) (j := 3) (by simp) v3) (j := 4) (by simp) v4) (j := 5) (by simp) v5) (j := 6) (by simp) v6) (j := 7) (by simp) v7) (j := 8) (by simp) v8), h.1⟩
theorem kv_putn {w W : World} {vs : Array Value} {t : TypeId} (hb : Below w.heap.size w W) : Below w.heap.size w (W.alloc (.cells vs t)) ∧ Blk vs.toList W.heap.size (W.alloc (.cells vs t)) ∧ w.heap.size ≤ W.heap.size :=
  ⟨hb.alloc hb.size _, Blk.new vs W t, hb.size⟩
theorem near_bd {x d : Int} (hd : 0 < d) (h0 : -85070591730234615865843651857942052864 < x) (h1 : x < 85070591730234615865843651857942052864) (hd1 : d ≤ 9223372036854775807) : FitW (nearI2 x d) := by
  unfold nearI2
  have e := Int.mul_ediv_add_emod (2 * x + d) (2 * d)
  have r0 := Int.emod_nonneg (2 * x + d) (show 2 * d ≠ 0 by omega)
  have r1 := Int.emod_lt_of_pos (2 * x + d) (show 0 < 2 * d by omega)
  generalize (2 * x + d) / (2 * d) = q at *
  generalize (2 * x + d) % (2 * d) = r at *
  have e2 : 2 * d * q = 2 * (d * q) := Int.mul_assoc _ _ _
  rw [e2] at e
  constructor
  · rcases Int.le_total 0 q with h | h
    · omega
    · have := Int.mul_le_mul_of_nonpos_right (show 1 ≤ d by omega) h
      omega
  · rcases Int.le_total 0 q with h | h
    · have := Int.mul_le_mul_of_nonneg_right (show 1 ≤ d by omega) h
      omega
    · omega
theorem ceil_bd {x d : Int} (hd : 0 < d) (h0 : 0 ≤ x) : 0 ≤ ceilI x d ∧ ceilI x d ≤ x := by
  unfold ceilI
  have h1 : -x / d < 1 := Int.ediv_lt_of_lt_mul hd (by omega)
  have h2 : -x ≤ -x / d := Int.le_ediv_of_mul_le hd (by
    have := Int.mul_le_mul_of_nonneg_left (show 1 ≤ d by omega) h0
    rw [Int.neg_mul]
    omega)
  omega
theorem near_int {x : Int} (w : World) (hf : FitW x) : Calls Tryz.prog 183 #[wv x] w fun e w' => e = .returned (.tuple #[.int .i64 (if I64 x then x else 0), .bool (decide (I64 x))]) ∧ Below w.heap.size w w' := by
  by_cases h : I64 x
  · rw [if_pos h, decide_eq_true h]
    exact wint_any x w h.lo (by have := h.hi; omega)
  · rw [if_neg h, decide_eq_false h]
    refine wint_out x w hf ?_
    rcases Int.lt_or_le x (-9223372036854775808) with a | a
    · exact .inl a
    · rcases Int.lt_or_le 9223372036854775807 x with b | b
      · exact .inr b
      · exact absurd ⟨a, b⟩ h
set_option maxHeartbeats 8000000 in
set_option maxRecDepth 100000 in
theorem nearest_any (x d : Int) (w : World) (hx0 : -85070591730234615865843651857942052864 < x) (hx : x < 85070591730234615865843651857942052864) (hd : 0 < d) (hd1 : d ≤ 9223372036854775807) :
    Calls Tryz.prog 142 #[wv x, .int .i64 d] w fun e w' => e = .returned (.tuple #[.int .i64 (if I64 (nearI2 x d) then nearI2 x d else 0), .bool (decide (I64 (nearI2 x d)))]) ∧ Below w.heap.size w w' := by
  have OF := Lib.hid fun w => wof_any d w (by omega) hd1
  have DV := Lib.hid fun w => wnear_any x d w hx0 hx hd (by omega)
  have IN := Lib.hid fun w => near_int (x := nearI2 x d) w (near_bd hd hx0 hx hd1)
  generalize decide (I64 (nearI2 x d)) = ok at *
  generalize (if I64 (nearI2 x d) then nearI2 x d else 0) = u at *
  generalize nearI2 x d = v at *
  unfold wv at *
  clear hx0 hx hd hd1
  have KX := Lib.hid (Blk.of (vs := #[.int .i64 (hiW x), .int .u64 (loW x)]) (t := 112) (w := w) (b := w.heap.size) (by simp))
  have HB := Lib.hid ((Below.refl w.heap.size w).alloc (by simp; try omega) (.cells #[.int .i64 (hiW x), .int .u64 (loW x)] 112))
  go_enter Tryz.func142, Tryz.ntmps142
  go_wp2_with fail
  generalize w.alloc (.cells #[.int .i64 (hiW x), .int .u64 (loW x)] 112) = w0 at *
  have BD := Lib.hid (show Below w0.heap.size w0 w0.drew from ⟨rfl, rfl, rfl, Nat.le_refl _, fun _ _ => rfl⟩)
  have BD2 := Lib.hid (below_drew_alloc w0 (.cells #[.int .i64 0, .int .u64 0] 112))
  have DOF := Lib.hid fun W (h : Below w0.heap.size w0 W) => (OF.out W).mono fun e w' ⟨h1, h2⟩ => show _ ∧ Below w0.heap.size w0 w' ∧ Below W.heap.size W w' from ⟨h1, h.trans (h2.mono h.size), h2⟩
  have DDV := Lib.hid fun W (h : Below w0.heap.size w0 W) => (DV.out W).mono fun e w' ⟨h1, h2⟩ => show _ ∧ Below w0.heap.size w0 w' ∧ Below W.heap.size W w' from ⟨h1, h.trans (h2.mono h.size), h2⟩
  have yX := KX.out
  have yX_0 := yX.c 0 _ rfl
  have yX_1 := yX.c 1 _ rfl
  have yX_z := yX.lt
  clear yX
  go_region_held3 (fun w' => w'.cell? ⟨w.heap.size, 0, none⟩ = some (.int .i64 (hiW x)) ∧ w'.cell? ⟨w.heap.size, 1, none⟩ = some (.int .u64 (loW x))) (first | (refine ⟨?_, ?_⟩ <;> first | assumption | (rw [far2 KV.out.1 yX_z]; assumption)) | go_keep)
    (first
      | (go_at_call 182; with_reducible refine Calls.mono (DOF.out _ (by first | exact BD.out | exact BD2.out | exact HX.out | exact HX.out.alloc HX.out.size _)) ?_; rintro e9 w9 ⟨rfl, hb9, hc9⟩; have pX := KX.out.below hb9; have qX0 := pX.c 0 _ rfl; have qX1 := pX.c 1 _ rfl; clear pX; (first | (with_reducible have KV := Lib.hid (kv_drew (vs := #[.int .i64 0, .int .u64 0]) (t := 112) hc9); have pV := KV.out.2; have v0 := pV.c 0 _ rfl; have vf0 := pV.f 0 _ rfl; have v1 := pV.c 1 _ rfl; have vf1 := pV.f 1 _ rfl; have v9 := pV.lt; clear pV) | (with_reducible have KV := Lib.hid (kv_new (vs := #[.int .i64 0, .int .u64 0]) (t := 112) HX.out hc9); have pV := KV.out.2; have v0 := pV.c 0 _ rfl; have vf0 := pV.f 0 _ rfl; have v1 := pV.c 1 _ rfl; have vf1 := pV.f 1 _ rfl; have v9 := pV.lt; clear pV) | (with_reducible have KV := Lib.hid (kv_old KV.out hc9); have pV := KV.out.2; have v0 := pV.c 0 _ rfl; have vf0 := pV.f 0 _ rfl; have v1 := pV.c 1 _ rfl; have vf1 := pV.f 1 _ rfl; have v9 := pV.lt; clear pV) | skip); have HX := Lib.hid hb9; clear hb9 hc9)
      | (go_at_call 181; with_reducible refine Calls.mono (DDV.out _ (by first | exact BD.out | exact BD2.out | exact HX.out | exact HX.out.alloc HX.out.size _)) ?_; rintro e9 w9 ⟨rfl, hb9, hc9⟩; have pX := KX.out.below hb9; have qX0 := pX.c 0 _ rfl; have qX1 := pX.c 1 _ rfl; clear pX; (first | (with_reducible have KV := Lib.hid (kv_drew (vs := #[.int .i64 0, .int .u64 0]) (t := 112) hc9); have pV := KV.out.2; have v0 := pV.c 0 _ rfl; have vf0 := pV.f 0 _ rfl; have v1 := pV.c 1 _ rfl; have vf1 := pV.f 1 _ rfl; have v9 := pV.lt; clear pV) | (with_reducible have KV := Lib.hid (kv_new (vs := #[.int .i64 0, .int .u64 0]) (t := 112) HX.out hc9); have pV := KV.out.2; have v0 := pV.c 0 _ rfl; have vf0 := pV.f 0 _ rfl; have v1 := pV.c 1 _ rfl; have vf1 := pV.f 1 _ rfl; have v9 := pV.lt; clear pV) | (with_reducible have KV := Lib.hid (kv_old KV.out hc9); have pV := KV.out.2; have v0 := pV.c 0 _ rfl; have vf0 := pV.f 0 _ rfl; have v1 := pV.c 1 _ rfl; have vf1 := pV.f 1 _ rfl; have v9 := pV.lt; clear pV) | skip); have HX := Lib.hid hb9; clear hb9 hc9))
  all_goals
    first
      | (have FN := kv_set2n (.int .i64 (hiW v)) (.int .u64 (loW v)) KV.out HX.out; have FB := Lib.hid FN.1; have KN := Lib.hid FN.2.1; have n0N := FN.2.2; clear FN; generalize World.setCell (World.setCell _ _ (.int .i64 (hiW v))) _ (.int .u64 (loW v)) = w1 at *)
      | (have FN := kv_putn (vs := #[.int .i64 (hiW v), .int .u64 (loW v)]) (t := 112) HX.out; have FB := Lib.hid FN.1; have KN := Lib.hid FN.2.1; have n0N := FN.2.2; clear FN; generalize (World.alloc _ (.cells #[.int .i64 (hiW v), .int .u64 (loW v)] 112)) = w1 at *)
    have nN := Nat.le_trans HB.out.size n0N
    have neN_X := Nat.ne_of_gt (Nat.lt_of_lt_of_le KX.out.lt n0N)
    replace HB := Lib.hid (HB.out.trans (FB.out.mono HB.out.size))
    replace KX := Lib.hid (KX.out.below FB.out)
    have yN := KN.out
    have yN_0 := yN.c 0 _ rfl
    have yN_1 := yN.c 1 _ rfl
    have yN_z := yN.lt
    clear yN
    go_wp2_with fail
    refine (IN.out _).mono ?_
    rintro e2 w2 ⟨rfl, hb2⟩
    replace HB := Lib.hid (HB.out.trans (hb2.mono HB.out.size))
    replace KX := Lib.hid (KX.out.below hb2)
    replace KN := Lib.hid (KN.out.below hb2)
    clear yN_0 yN_1 yN_z
    clear hb2
    go_wp2
    all_goals go_ret2
    all_goals exact ⟨rfl, HB.out⟩
set_option maxHeartbeats 8000000 in
set_option maxRecDepth 100000 in
theorem size_any (x d : Int) (w : World) (hx0 : 0 ≤ x) (hx : x < 85070591730234615865843651857942052864) (hd : 0 < d) (hd1 : d ≤ 9223372036854775807) :
    Calls Tryz.prog 187 #[wv x, .int .i64 d] w fun e w' => e = .returned (if ceilI x d ≤ 8000000 then .tuple #[.int .i64 (ceilI x d), .bool true] else .tuple #[.int .i64 0, .bool false]) ∧ Below w.heap.size w w' := by
  obtain ⟨b0, b1⟩ := ceil_bd hd hx0
  have OF := Lib.hid fun w => wof_any d w (by omega) hd1
  have DV := Lib.hid fun w => wdivup_any x d w hx0 hx hd (by omega)
  have IN := Lib.hid fun w => near_int (x := ceilI x d) w ⟨by omega, by omega⟩
  have IB : ceilI x d ≤ 8000000 → I64 (ceilI x d) := fun h => ⟨by omega, by omega⟩
  generalize ceilI x d = v at *
  unfold wv at *
  clear hx0 hx hd hd1 b0 b1
  by_cases h : v ≤ 8000000
  · have g : decide (8000000 < v) = false := by simp; omega
    rw [if_pos (IB h), decide_eq_true (IB h)] at IN
    rw [if_pos h]
    clear h IB
    have KX := Lib.hid (Blk.of (vs := #[.int .i64 (hiW x), .int .u64 (loW x)]) (t := 112) (w := w) (b := w.heap.size) (by simp))
    have HB := Lib.hid ((Below.refl w.heap.size w).alloc (by simp; try omega) (.cells #[.int .i64 (hiW x), .int .u64 (loW x)] 112))
    go_enter Tryz.func187, Tryz.ntmps187
    go_wp2_with fail
    generalize w.alloc (.cells #[.int .i64 (hiW x), .int .u64 (loW x)] 112) = w0 at *
    have BD := Lib.hid (show Below w0.heap.size w0 w0.drew from ⟨rfl, rfl, rfl, Nat.le_refl _, fun _ _ => rfl⟩)
    have BD2 := Lib.hid (below_drew_alloc w0 (.cells #[.int .i64 0, .int .u64 0] 112))
    have DOF := Lib.hid fun W (h : Below w0.heap.size w0 W) => (OF.out W).mono fun e w' ⟨h1, h2⟩ => show _ ∧ Below w0.heap.size w0 w' ∧ Below W.heap.size W w' from ⟨h1, h.trans (h2.mono h.size), h2⟩
    have DDV := Lib.hid fun W (h : Below w0.heap.size w0 W) => (DV.out W).mono fun e w' ⟨h1, h2⟩ => show _ ∧ Below w0.heap.size w0 w' ∧ Below W.heap.size W w' from ⟨h1, h.trans (h2.mono h.size), h2⟩
    have yX := KX.out
    have yX_0 := yX.c 0 _ rfl
    have yX_1 := yX.c 1 _ rfl
    have yX_z := yX.lt
    clear yX
    go_region_held3 (fun w' => w'.cell? ⟨w.heap.size, 0, none⟩ = some (.int .i64 (hiW x)) ∧ w'.cell? ⟨w.heap.size, 1, none⟩ = some (.int .u64 (loW x))) (first | (refine ⟨?_, ?_⟩ <;> first | assumption | (rw [far2 KV.out.1 yX_z]; assumption)) | go_keep)
      (first
        | (go_at_call 182; with_reducible refine Calls.mono (DOF.out _ (by first | exact BD.out | exact BD2.out | exact HX.out | exact HX.out.alloc HX.out.size _)) ?_; rintro e9 w9 ⟨rfl, hb9, hc9⟩; have pX := KX.out.below hb9; have qX0 := pX.c 0 _ rfl; have qX1 := pX.c 1 _ rfl; clear pX; (first | (with_reducible have KV := Lib.hid (kv_drew (vs := #[.int .i64 0, .int .u64 0]) (t := 112) hc9); have pV := KV.out.2; have v0 := pV.c 0 _ rfl; have vf0 := pV.f 0 _ rfl; have v1 := pV.c 1 _ rfl; have vf1 := pV.f 1 _ rfl; have v9 := pV.lt; clear pV) | (with_reducible have KV := Lib.hid (kv_new (vs := #[.int .i64 0, .int .u64 0]) (t := 112) HX.out hc9); have pV := KV.out.2; have v0 := pV.c 0 _ rfl; have vf0 := pV.f 0 _ rfl; have v1 := pV.c 1 _ rfl; have vf1 := pV.f 1 _ rfl; have v9 := pV.lt; clear pV) | (with_reducible have KV := Lib.hid (kv_old KV.out hc9); have pV := KV.out.2; have v0 := pV.c 0 _ rfl; have vf0 := pV.f 0 _ rfl; have v1 := pV.c 1 _ rfl; have vf1 := pV.f 1 _ rfl; have v9 := pV.lt; clear pV) | skip); have HX := Lib.hid hb9; clear hb9 hc9)
        | (go_at_call 224; with_reducible refine Calls.mono (DDV.out _ (by first | exact BD.out | exact BD2.out | exact HX.out | exact HX.out.alloc HX.out.size _)) ?_; rintro e9 w9 ⟨rfl, hb9, hc9⟩; have pX := KX.out.below hb9; have qX0 := pX.c 0 _ rfl; have qX1 := pX.c 1 _ rfl; clear pX; (first | (with_reducible have KV := Lib.hid (kv_drew (vs := #[.int .i64 0, .int .u64 0]) (t := 112) hc9); have pV := KV.out.2; have v0 := pV.c 0 _ rfl; have vf0 := pV.f 0 _ rfl; have v1 := pV.c 1 _ rfl; have vf1 := pV.f 1 _ rfl; have v9 := pV.lt; clear pV) | (with_reducible have KV := Lib.hid (kv_new (vs := #[.int .i64 0, .int .u64 0]) (t := 112) HX.out hc9); have pV := KV.out.2; have v0 := pV.c 0 _ rfl; have vf0 := pV.f 0 _ rfl; have v1 := pV.c 1 _ rfl; have vf1 := pV.f 1 _ rfl; have v9 := pV.lt; clear pV) | (with_reducible have KV := Lib.hid (kv_old KV.out hc9); have pV := KV.out.2; have v0 := pV.c 0 _ rfl; have vf0 := pV.f 0 _ rfl; have v1 := pV.c 1 _ rfl; have vf1 := pV.f 1 _ rfl; have v9 := pV.lt; clear pV) | skip); have HX := Lib.hid hb9; clear hb9 hc9))
    all_goals
      first
        | (have FN := kv_set2n (.int .i64 (hiW v)) (.int .u64 (loW v)) KV.out HX.out; have FB := Lib.hid FN.1; have KN := Lib.hid FN.2.1; have n0N := FN.2.2; clear FN; generalize World.setCell (World.setCell _ _ (.int .i64 (hiW v))) _ (.int .u64 (loW v)) = w1 at *)
        | (have FN := kv_putn (vs := #[.int .i64 (hiW v), .int .u64 (loW v)]) (t := 112) HX.out; have FB := Lib.hid FN.1; have KN := Lib.hid FN.2.1; have n0N := FN.2.2; clear FN; generalize (World.alloc _ (.cells #[.int .i64 (hiW v), .int .u64 (loW v)] 112)) = w1 at *)
      have nN := Nat.le_trans HB.out.size n0N
      have neN_X := Nat.ne_of_gt (Nat.lt_of_lt_of_le KX.out.lt n0N)
      replace HB := Lib.hid (HB.out.trans (FB.out.mono HB.out.size))
      replace KX := Lib.hid (KX.out.below FB.out)
      have yN := KN.out
      have yN_0 := yN.c 0 _ rfl
      have yN_1 := yN.c 1 _ rfl
      have yN_z := yN.lt
      clear yN
      go_wp2_with fail
      refine (IN.out _).mono ?_
      rintro e2 w2 ⟨rfl, hb2⟩
      replace HB := Lib.hid (HB.out.trans (hb2.mono HB.out.size))
      replace KX := Lib.hid (KX.out.below hb2)
      replace KN := Lib.hid (KN.out.below hb2)
      clear yN_0 yN_1 yN_z
      clear hb2
      go_wp2
      all_goals go_ret2
      all_goals exact ⟨rfl, HB.out⟩
  · rw [if_neg h]
    by_cases k : I64 v
    · have g : decide (8000000 < v) = true := by simp; omega
      rw [if_pos k, decide_eq_true k] at IN
      clear h IB k
      have KX := Lib.hid (Blk.of (vs := #[.int .i64 (hiW x), .int .u64 (loW x)]) (t := 112) (w := w) (b := w.heap.size) (by simp))
      have HB := Lib.hid ((Below.refl w.heap.size w).alloc (by simp; try omega) (.cells #[.int .i64 (hiW x), .int .u64 (loW x)] 112))
      go_enter Tryz.func187, Tryz.ntmps187
      go_wp2_with fail
      generalize w.alloc (.cells #[.int .i64 (hiW x), .int .u64 (loW x)] 112) = w0 at *
      have BD := Lib.hid (show Below w0.heap.size w0 w0.drew from ⟨rfl, rfl, rfl, Nat.le_refl _, fun _ _ => rfl⟩)
      have BD2 := Lib.hid (below_drew_alloc w0 (.cells #[.int .i64 0, .int .u64 0] 112))
      have DOF := Lib.hid fun W (h : Below w0.heap.size w0 W) => (OF.out W).mono fun e w' ⟨h1, h2⟩ => show _ ∧ Below w0.heap.size w0 w' ∧ Below W.heap.size W w' from ⟨h1, h.trans (h2.mono h.size), h2⟩
      have DDV := Lib.hid fun W (h : Below w0.heap.size w0 W) => (DV.out W).mono fun e w' ⟨h1, h2⟩ => show _ ∧ Below w0.heap.size w0 w' ∧ Below W.heap.size W w' from ⟨h1, h.trans (h2.mono h.size), h2⟩
      have yX := KX.out
      have yX_0 := yX.c 0 _ rfl
      have yX_1 := yX.c 1 _ rfl
      have yX_z := yX.lt
      clear yX
      go_region_held3 (fun w' => w'.cell? ⟨w.heap.size, 0, none⟩ = some (.int .i64 (hiW x)) ∧ w'.cell? ⟨w.heap.size, 1, none⟩ = some (.int .u64 (loW x))) (first | (refine ⟨?_, ?_⟩ <;> first | assumption | (rw [far2 KV.out.1 yX_z]; assumption)) | go_keep)
        (first
          | (go_at_call 182; with_reducible refine Calls.mono (DOF.out _ (by first | exact BD.out | exact BD2.out | exact HX.out | exact HX.out.alloc HX.out.size _)) ?_; rintro e9 w9 ⟨rfl, hb9, hc9⟩; have pX := KX.out.below hb9; have qX0 := pX.c 0 _ rfl; have qX1 := pX.c 1 _ rfl; clear pX; (first | (with_reducible have KV := Lib.hid (kv_drew (vs := #[.int .i64 0, .int .u64 0]) (t := 112) hc9); have pV := KV.out.2; have v0 := pV.c 0 _ rfl; have vf0 := pV.f 0 _ rfl; have v1 := pV.c 1 _ rfl; have vf1 := pV.f 1 _ rfl; have v9 := pV.lt; clear pV) | (with_reducible have KV := Lib.hid (kv_new (vs := #[.int .i64 0, .int .u64 0]) (t := 112) HX.out hc9); have pV := KV.out.2; have v0 := pV.c 0 _ rfl; have vf0 := pV.f 0 _ rfl; have v1 := pV.c 1 _ rfl; have vf1 := pV.f 1 _ rfl; have v9 := pV.lt; clear pV) | (with_reducible have KV := Lib.hid (kv_old KV.out hc9); have pV := KV.out.2; have v0 := pV.c 0 _ rfl; have vf0 := pV.f 0 _ rfl; have v1 := pV.c 1 _ rfl; have vf1 := pV.f 1 _ rfl; have v9 := pV.lt; clear pV) | skip); have HX := Lib.hid hb9; clear hb9 hc9)
          | (go_at_call 224; with_reducible refine Calls.mono (DDV.out _ (by first | exact BD.out | exact BD2.out | exact HX.out | exact HX.out.alloc HX.out.size _)) ?_; rintro e9 w9 ⟨rfl, hb9, hc9⟩; have pX := KX.out.below hb9; have qX0 := pX.c 0 _ rfl; have qX1 := pX.c 1 _ rfl; clear pX; (first | (with_reducible have KV := Lib.hid (kv_drew (vs := #[.int .i64 0, .int .u64 0]) (t := 112) hc9); have pV := KV.out.2; have v0 := pV.c 0 _ rfl; have vf0 := pV.f 0 _ rfl; have v1 := pV.c 1 _ rfl; have vf1 := pV.f 1 _ rfl; have v9 := pV.lt; clear pV) | (with_reducible have KV := Lib.hid (kv_new (vs := #[.int .i64 0, .int .u64 0]) (t := 112) HX.out hc9); have pV := KV.out.2; have v0 := pV.c 0 _ rfl; have vf0 := pV.f 0 _ rfl; have v1 := pV.c 1 _ rfl; have vf1 := pV.f 1 _ rfl; have v9 := pV.lt; clear pV) | (with_reducible have KV := Lib.hid (kv_old KV.out hc9); have pV := KV.out.2; have v0 := pV.c 0 _ rfl; have vf0 := pV.f 0 _ rfl; have v1 := pV.c 1 _ rfl; have vf1 := pV.f 1 _ rfl; have v9 := pV.lt; clear pV) | skip); have HX := Lib.hid hb9; clear hb9 hc9))
      all_goals
        first
          | (have FN := kv_set2n (.int .i64 (hiW v)) (.int .u64 (loW v)) KV.out HX.out; have FB := Lib.hid FN.1; have KN := Lib.hid FN.2.1; have n0N := FN.2.2; clear FN; generalize World.setCell (World.setCell _ _ (.int .i64 (hiW v))) _ (.int .u64 (loW v)) = w1 at *)
          | (have FN := kv_putn (vs := #[.int .i64 (hiW v), .int .u64 (loW v)]) (t := 112) HX.out; have FB := Lib.hid FN.1; have KN := Lib.hid FN.2.1; have n0N := FN.2.2; clear FN; generalize (World.alloc _ (.cells #[.int .i64 (hiW v), .int .u64 (loW v)] 112)) = w1 at *)
        have nN := Nat.le_trans HB.out.size n0N
        have neN_X := Nat.ne_of_gt (Nat.lt_of_lt_of_le KX.out.lt n0N)
        replace HB := Lib.hid (HB.out.trans (FB.out.mono HB.out.size))
        replace KX := Lib.hid (KX.out.below FB.out)
        have yN := KN.out
        have yN_0 := yN.c 0 _ rfl
        have yN_1 := yN.c 1 _ rfl
        have yN_z := yN.lt
        clear yN
        go_wp2_with fail
        refine (IN.out _).mono ?_
        rintro e2 w2 ⟨rfl, hb2⟩
        replace HB := Lib.hid (HB.out.trans (hb2.mono HB.out.size))
        replace KX := Lib.hid (KX.out.below hb2)
        replace KN := Lib.hid (KN.out.below hb2)
        clear yN_0 yN_1 yN_z
        clear hb2
        go_wp2
        all_goals go_ret2
        all_goals exact ⟨rfl, HB.out⟩
    · rw [if_neg k, decide_eq_false k] at IN
      clear h IB k
      have KX := Lib.hid (Blk.of (vs := #[.int .i64 (hiW x), .int .u64 (loW x)]) (t := 112) (w := w) (b := w.heap.size) (by simp))
      have HB := Lib.hid ((Below.refl w.heap.size w).alloc (by simp; try omega) (.cells #[.int .i64 (hiW x), .int .u64 (loW x)] 112))
      go_enter Tryz.func187, Tryz.ntmps187
      go_wp2_with fail
      generalize w.alloc (.cells #[.int .i64 (hiW x), .int .u64 (loW x)] 112) = w0 at *
      have BD := Lib.hid (show Below w0.heap.size w0 w0.drew from ⟨rfl, rfl, rfl, Nat.le_refl _, fun _ _ => rfl⟩)
      have BD2 := Lib.hid (below_drew_alloc w0 (.cells #[.int .i64 0, .int .u64 0] 112))
      have DOF := Lib.hid fun W (h : Below w0.heap.size w0 W) => (OF.out W).mono fun e w' ⟨h1, h2⟩ => show _ ∧ Below w0.heap.size w0 w' ∧ Below W.heap.size W w' from ⟨h1, h.trans (h2.mono h.size), h2⟩
      have DDV := Lib.hid fun W (h : Below w0.heap.size w0 W) => (DV.out W).mono fun e w' ⟨h1, h2⟩ => show _ ∧ Below w0.heap.size w0 w' ∧ Below W.heap.size W w' from ⟨h1, h.trans (h2.mono h.size), h2⟩
      have yX := KX.out
      have yX_0 := yX.c 0 _ rfl
      have yX_1 := yX.c 1 _ rfl
      have yX_z := yX.lt
      clear yX
      go_region_held3 (fun w' => w'.cell? ⟨w.heap.size, 0, none⟩ = some (.int .i64 (hiW x)) ∧ w'.cell? ⟨w.heap.size, 1, none⟩ = some (.int .u64 (loW x))) (first | (refine ⟨?_, ?_⟩ <;> first | assumption | (rw [far2 KV.out.1 yX_z]; assumption)) | go_keep)
        (first
          | (go_at_call 182; with_reducible refine Calls.mono (DOF.out _ (by first | exact BD.out | exact BD2.out | exact HX.out | exact HX.out.alloc HX.out.size _)) ?_; rintro e9 w9 ⟨rfl, hb9, hc9⟩; have pX := KX.out.below hb9; have qX0 := pX.c 0 _ rfl; have qX1 := pX.c 1 _ rfl; clear pX; (first | (with_reducible have KV := Lib.hid (kv_drew (vs := #[.int .i64 0, .int .u64 0]) (t := 112) hc9); have pV := KV.out.2; have v0 := pV.c 0 _ rfl; have vf0 := pV.f 0 _ rfl; have v1 := pV.c 1 _ rfl; have vf1 := pV.f 1 _ rfl; have v9 := pV.lt; clear pV) | (with_reducible have KV := Lib.hid (kv_new (vs := #[.int .i64 0, .int .u64 0]) (t := 112) HX.out hc9); have pV := KV.out.2; have v0 := pV.c 0 _ rfl; have vf0 := pV.f 0 _ rfl; have v1 := pV.c 1 _ rfl; have vf1 := pV.f 1 _ rfl; have v9 := pV.lt; clear pV) | (with_reducible have KV := Lib.hid (kv_old KV.out hc9); have pV := KV.out.2; have v0 := pV.c 0 _ rfl; have vf0 := pV.f 0 _ rfl; have v1 := pV.c 1 _ rfl; have vf1 := pV.f 1 _ rfl; have v9 := pV.lt; clear pV) | skip); have HX := Lib.hid hb9; clear hb9 hc9)
          | (go_at_call 224; with_reducible refine Calls.mono (DDV.out _ (by first | exact BD.out | exact BD2.out | exact HX.out | exact HX.out.alloc HX.out.size _)) ?_; rintro e9 w9 ⟨rfl, hb9, hc9⟩; have pX := KX.out.below hb9; have qX0 := pX.c 0 _ rfl; have qX1 := pX.c 1 _ rfl; clear pX; (first | (with_reducible have KV := Lib.hid (kv_drew (vs := #[.int .i64 0, .int .u64 0]) (t := 112) hc9); have pV := KV.out.2; have v0 := pV.c 0 _ rfl; have vf0 := pV.f 0 _ rfl; have v1 := pV.c 1 _ rfl; have vf1 := pV.f 1 _ rfl; have v9 := pV.lt; clear pV) | (with_reducible have KV := Lib.hid (kv_new (vs := #[.int .i64 0, .int .u64 0]) (t := 112) HX.out hc9); have pV := KV.out.2; have v0 := pV.c 0 _ rfl; have vf0 := pV.f 0 _ rfl; have v1 := pV.c 1 _ rfl; have vf1 := pV.f 1 _ rfl; have v9 := pV.lt; clear pV) | (with_reducible have KV := Lib.hid (kv_old KV.out hc9); have pV := KV.out.2; have v0 := pV.c 0 _ rfl; have vf0 := pV.f 0 _ rfl; have v1 := pV.c 1 _ rfl; have vf1 := pV.f 1 _ rfl; have v9 := pV.lt; clear pV) | skip); have HX := Lib.hid hb9; clear hb9 hc9))
      all_goals
        first
          | (have FN := kv_set2n (.int .i64 (hiW v)) (.int .u64 (loW v)) KV.out HX.out; have FB := Lib.hid FN.1; have KN := Lib.hid FN.2.1; have n0N := FN.2.2; clear FN; generalize World.setCell (World.setCell _ _ (.int .i64 (hiW v))) _ (.int .u64 (loW v)) = w1 at *)
          | (have FN := kv_putn (vs := #[.int .i64 (hiW v), .int .u64 (loW v)]) (t := 112) HX.out; have FB := Lib.hid FN.1; have KN := Lib.hid FN.2.1; have n0N := FN.2.2; clear FN; generalize (World.alloc _ (.cells #[.int .i64 (hiW v), .int .u64 (loW v)] 112)) = w1 at *)
        have nN := Nat.le_trans HB.out.size n0N
        have neN_X := Nat.ne_of_gt (Nat.lt_of_lt_of_le KX.out.lt n0N)
        replace HB := Lib.hid (HB.out.trans (FB.out.mono HB.out.size))
        replace KX := Lib.hid (KX.out.below FB.out)
        have yN := KN.out
        have yN_0 := yN.c 0 _ rfl
        have yN_1 := yN.c 1 _ rfl
        have yN_z := yN.lt
        clear yN
        go_wp2_with fail
        refine (IN.out _).mono ?_
        rintro e2 w2 ⟨rfl, hb2⟩
        replace HB := Lib.hid (HB.out.trans (hb2.mono HB.out.size))
        replace KX := Lib.hid (KX.out.below hb2)
        replace KN := Lib.hid (KN.out.below hb2)
        clear yN_0 yN_1 yN_z
        clear hb2
        go_wp2
        all_goals go_ret2
        all_goals exact ⟨rfl, HB.out⟩
set_option maxHeartbeats 8000000 in
set_option maxRecDepth 100000 in
theorem apart_any (p x d : Int) (w : World) (hp : I64 p) (hd : I64 d) (hx : FitW x) (h1 : FitW (p * d - x)) (h2 : FitW (-(p * d - x))) :
    Calls Tryz.prog 147 #[.int .i64 p, wv x, .int .i64 d] w fun e w' => e = .returned (wv (absZ (p * d - x))) ∧ Below w.heap.size w w' := by
  have MU := Lib.hid fun w => wmul_any p d w hp.lo hp.hi hd.lo hd.hi
  have SB := Lib.hid fun w => wsub_any (p * d) x w (mul_fit hp.lo hp.hi hd.lo hd.hi) hx h1
  have AB := Lib.hid fun w => wwabs_any (p * d - x) w h1 h2
  unfold wv1 at AB
  clear hp hd hx h1 h2
  generalize absZ (p * d - x) = r at *
  generalize p * d - x = v at *
  generalize p * d = q at *
  unfold wv at *
  have KX := Lib.hid ((Blk.of (vs := #[.int .i64 (hiW x), .int .u64 (loW x)]) (t := 112) (w := w) (b := w.heap.size) (by simp)).alloc (.cells #[.int .i64 0, .int .u64 0] 112))
  have KZ := Lib.hid (Blk.of (vs := #[.int .i64 0, .int .u64 0]) (t := 112) (w := (w.alloc (.cells #[.int .i64 (hiW x), .int .u64 (loW x)] 112))) (b := w.heap.size + 1) (by simp))
  have HB := Lib.hid (((Below.refl w.heap.size w).alloc (by simp; try omega) (.cells #[.int .i64 (hiW x), .int .u64 (loW x)] 112)).alloc (by simp; try omega) (.cells #[.int .i64 0, .int .u64 0] 112))
  go_enter Tryz.func147, Tryz.ntmps147
  go_wp2_with fail
  generalize (w.alloc (.cells #[.int .i64 (hiW x), .int .u64 (loW x)] 112)).alloc (.cells #[.int .i64 0, .int .u64 0] 112) = w0 at *
  have BD := Lib.hid (show Below w0.heap.size w0 w0.drew from ⟨rfl, rfl, rfl, Nat.le_refl _, fun _ _ => rfl⟩)
  have BD2 := Lib.hid (below_drew_alloc w0 (.cells #[.int .i64 0, .int .u64 0] 112))
  have DMU := Lib.hid fun W (h : Below w0.heap.size w0 W) => (MU.out W).mono fun e w' ⟨h1, h2⟩ => show _ ∧ Below w0.heap.size w0 w' ∧ Below W.heap.size W w' from ⟨h1, h.trans (h2.mono h.size), h2⟩
  have DSB := Lib.hid fun W (h : Below w0.heap.size w0 W) => (SB.out W).mono fun e w' ⟨h1, h2⟩ => show _ ∧ Below w0.heap.size w0 w' ∧ Below W.heap.size W w' from ⟨h1, h.trans (h2.mono h.size), h2⟩
  have yX := KX.out
  have yX_0 := yX.c 0 _ rfl
  have yX_1 := yX.c 1 _ rfl
  have yX_z := yX.lt
  clear yX
  go_region_held3 (fun w' => w'.cell? ⟨w.heap.size, 0, none⟩ = some (.int .i64 (hiW x)) ∧ w'.cell? ⟨w.heap.size, 1, none⟩ = some (.int .u64 (loW x))) (first | (refine ⟨?_, ?_⟩ <;> first | assumption | (rw [far2 KV.out.1 yX_z]; assumption)) | go_keep)
    (first
      | (go_at_call 145; with_reducible refine Calls.mono (DMU.out _ (by first | exact BD.out | exact BD2.out | exact HX.out | exact HX.out.alloc HX.out.size _)) ?_; rintro e9 w9 ⟨rfl, hb9, hc9⟩; have pX := KX.out.below hb9; have qX0 := pX.c 0 _ rfl; have qX1 := pX.c 1 _ rfl; clear pX; (first | (with_reducible have KV := Lib.hid (kv_drew (vs := #[.int .i64 0, .int .u64 0]) (t := 112) hc9); have pV := KV.out.2; have v0 := pV.c 0 _ rfl; have vf0 := pV.f 0 _ rfl; have v1 := pV.c 1 _ rfl; have vf1 := pV.f 1 _ rfl; have v9 := pV.lt; clear pV) | (with_reducible have KV := Lib.hid (kv_new (vs := #[.int .i64 0, .int .u64 0]) (t := 112) HX.out hc9); have pV := KV.out.2; have v0 := pV.c 0 _ rfl; have vf0 := pV.f 0 _ rfl; have v1 := pV.c 1 _ rfl; have vf1 := pV.f 1 _ rfl; have v9 := pV.lt; clear pV) | (with_reducible have KV := Lib.hid (kv_old KV.out hc9); have pV := KV.out.2; have v0 := pV.c 0 _ rfl; have vf0 := pV.f 0 _ rfl; have v1 := pV.c 1 _ rfl; have vf1 := pV.f 1 _ rfl; have v9 := pV.lt; clear pV) | skip); have HX := Lib.hid hb9; clear hb9 hc9)
      | (go_at_call 180; with_reducible refine Calls.mono (DSB.out _ (by first | exact BD.out | exact BD2.out | exact HX.out | exact HX.out.alloc HX.out.size _)) ?_; rintro e9 w9 ⟨rfl, hb9, hc9⟩; have pX := KX.out.below hb9; have qX0 := pX.c 0 _ rfl; have qX1 := pX.c 1 _ rfl; clear pX; (first | (with_reducible have KV := Lib.hid (kv_drew (vs := #[.int .i64 0, .int .u64 0]) (t := 112) hc9); have pV := KV.out.2; have v0 := pV.c 0 _ rfl; have vf0 := pV.f 0 _ rfl; have v1 := pV.c 1 _ rfl; have vf1 := pV.f 1 _ rfl; have v9 := pV.lt; clear pV) | (with_reducible have KV := Lib.hid (kv_new (vs := #[.int .i64 0, .int .u64 0]) (t := 112) HX.out hc9); have pV := KV.out.2; have v0 := pV.c 0 _ rfl; have vf0 := pV.f 0 _ rfl; have v1 := pV.c 1 _ rfl; have vf1 := pV.f 1 _ rfl; have v9 := pV.lt; clear pV) | (with_reducible have KV := Lib.hid (kv_old KV.out hc9); have pV := KV.out.2; have v0 := pV.c 0 _ rfl; have vf0 := pV.f 0 _ rfl; have v1 := pV.c 1 _ rfl; have vf1 := pV.f 1 _ rfl; have v9 := pV.lt; clear pV) | skip); have HX := Lib.hid hb9; clear hb9 hc9))
  all_goals
    first
      | (have FN := kv_set2n (.int .i64 (hiW v)) (.int .u64 (loW v)) KV.out HX.out; have FB := Lib.hid FN.1; have KN := Lib.hid FN.2.1; have n0N := FN.2.2; clear FN; generalize World.setCell (World.setCell _ _ (.int .i64 (hiW v))) _ (.int .u64 (loW v)) = w1 at *)
      | (have FN := kv_putn (vs := #[.int .i64 (hiW v), .int .u64 (loW v)]) (t := 112) HX.out; have FB := Lib.hid FN.1; have KN := Lib.hid FN.2.1; have n0N := FN.2.2; clear FN; generalize (World.alloc _ (.cells #[.int .i64 (hiW v), .int .u64 (loW v)] 112)) = w1 at *)
    have nN := Nat.le_trans HB.out.size n0N
    have neN_X := Nat.ne_of_gt (Nat.lt_of_lt_of_le KX.out.lt n0N)
    have neN_Z := Nat.ne_of_gt (Nat.lt_of_lt_of_le KZ.out.lt n0N)
    replace HB := Lib.hid (HB.out.trans (FB.out.mono HB.out.size))
    replace KX := Lib.hid (KX.out.below FB.out)
    replace KZ := Lib.hid (KZ.out.below FB.out)
    have yN := KN.out
    have yN_0 := yN.c 0 _ rfl
    have yN_1 := yN.c 1 _ rfl
    have yN_z := yN.lt
    clear yN
    go_wp2_with fail
    refine (AB.out _).mono ?_
    rintro e2 w2 ⟨rfl, hb2⟩
    replace HB := Lib.hid (HB.out.trans (hb2.mono HB.out.size))
    replace KX := Lib.hid (KX.out.below hb2)
    replace KZ := Lib.hid (KZ.out.below hb2)
    replace KN := Lib.hid (KN.out.below hb2)
    clear yN_0 yN_1 yN_z
    clear hb2
    have yZ := KZ.out
    have yZ_0 := yZ.c 0 _ rfl
    have yZ_1 := yZ.c 1 _ rfl
    have yZ_z := yZ.lt
    have yZ_f0 := yZ.f 0 _ rfl
    have yZ_f1 := yZ.f 1 _ rfl
    clear yZ
    have yN := KN.out
    have yN_0 := yN.c 0 _ rfl
    have yN_1 := yN.c 1 _ rfl
    have yN_z := yN.lt
    have yN_f0 := yN.f 0 _ rfl
    have yN_f1 := yN.f 1 _ rfl
    clear yN
    go_wp2
    replace KX := Lib.hid (blk_other (j := 1) (blk_other (j := 0) KX.out neN_X (.int .i64 (hiW r))) neN_X (.int .u64 (loW r)))
    replace KZ := Lib.hid (blk_other (j := 1) (blk_other (j := 0) KZ.out neN_Z (.int .i64 (hiW r))) neN_Z (.int .u64 (loW r)))
    replace KN := Lib.hid (blk_set (blk_set KN.out (j := 0) (by simp) (.int .i64 (hiW r))) (j := 1) (by simp) (.int .u64 (loW r)))
    replace HB := Lib.hid ((HB.out.setCell (p := ⟨_, 0, none⟩) nN (.int .i64 (hiW r))).setCell (p := ⟨_, 1, none⟩) nN (.int .u64 (loW r)))
    clear yZ_0 yZ_1 yZ_z yZ_f0 yZ_f1 yN_0 yN_1 yN_z yN_f0 yN_f1
    generalize World.setCell (World.setCell _ _ (.int .i64 (hiW r))) _ (.int .u64 (loW r)) = w3 at *
    simp only [List.set] at KN
    replace KX := Lib.hid (blk_other (b := w.heap.size) (n := (w.heap.size + 1)) (j := 1) (blk_other (b := w.heap.size) (n := (w.heap.size + 1)) (j := 0) KX.out (by omega) (.int .i64 (hiW r))) (by omega) (.int .u64 (loW r)))
    replace KZ := Lib.hid (blk_set (blk_set KZ.out (j := 0) (by simp) (.int .i64 (hiW r))) (j := 1) (by simp) (.int .u64 (loW r)))
    replace KN := Lib.hid (blk_other (j := 1) (blk_other (j := 0) KN.out (Ne.symm neN_Z) (.int .i64 (hiW r))) (Ne.symm neN_Z) (.int .u64 (loW r)))
    replace HB := Lib.hid ((HB.out.setCell (p := ⟨(w.heap.size + 1), 0, none⟩) (show w.heap.size ≤ (w.heap.size + 1) by omega) (.int .i64 (hiW r))).setCell (p := ⟨(w.heap.size + 1), 1, none⟩) (show w.heap.size ≤ (w.heap.size + 1) by omega) (.int .u64 (loW r)))
    generalize (w3.setCell ⟨(w.heap.size + 1), 0, none⟩ (.int .i64 (hiW r))).setCell ⟨(w.heap.size + 1), 1, none⟩ (.int .u64 (loW r)) = w4 at *
    simp only [List.set] at KZ
    have yZ := KZ.out
    have yZ_0 := yZ.c 0 _ rfl
    have yZ_1 := yZ.c 1 _ rfl
    have yZ_z := yZ.lt
    clear yZ
    refine bodyPost_ret (v := .agg #[.int .i64 (hiW r), .int .u64 (loW r)]) (by simp [results, Tryz.results147, go_sem, yZ_0, yZ_1]) rfl ⟨rfl, HB.out⟩
end Go.Proofs.YtajmjkliblippaaGreatDoor
namespace Go.Proofs.YtajmjkliblippaaGreatDoor
set_option linter.unusedVariables false
open Go.RowKit
def absI (x : Int) : Int := if x < 0 then -x else x
theorem abs_any (x : Int) (w : World) (_h0 : -9223372036854775807 ≤ x) (_h1 : x ≤ 9223372036854775807) :
    Calls Tryz.prog 86 #[.int .i64 x] w fun e w' => e = .returned (.int .i64 (absI x)) ∧ w = w' := by
  have h2 : (x == -9223372036854775808) = false := by simp; omega
  go_enter Tryz.func86, Tryz.ntmps86
  go_wp2
  all_goals go_ret
  · exact ⟨ret_int (by unfold absI; rw [if_pos (by assumption)]), rfl⟩
  · exact ⟨ret_int (by unfold absI; rw [if_neg (by omega)]), rfl⟩
def vldP (x y : Int) : Bool := decide (-2000000 ≤ x ∧ x ≤ 2000000 ∧ -2000000 ≤ y ∧ y ≤ 2000000)
theorem vldP_iff {x y : Int} : vldP x y = true ↔ -2000000 ≤ x ∧ x ≤ 2000000 ∧ -2000000 ≤ y ∧ y ≤ 2000000 := by unfold vldP; rw [decide_eq_true_iff]
set_option maxHeartbeats 4000000 in
theorem vldP_any (x y : Int) (w : World) : Calls Tryz.prog 49 #[.agg #[.int .i64 x, .int .i64 y]] w fun e w' => e = .returned (.bool (vldP x y)) ∧ Below w.heap.size w w' := by
  have key : (decide (-2000000 ≤ x) = false ∧ vldP x y = false) ∨ (decide (-2000000 ≤ x) = true ∧ decide (x ≤ 2000000) = false ∧ vldP x y = false) ∨ (decide (-2000000 ≤ x) = true ∧ decide (x ≤ 2000000) = true ∧ decide (-2000000 ≤ y) = false ∧ vldP x y = false) ∨ (decide (-2000000 ≤ x) = true ∧ decide (x ≤ 2000000) = true ∧ decide (-2000000 ≤ y) = true ∧ decide (y ≤ 2000000) = false ∧ vldP x y = false) ∨ (decide (-2000000 ≤ x) = true ∧ decide (x ≤ 2000000) = true ∧ decide (-2000000 ≤ y) = true ∧ decide (y ≤ 2000000) = true ∧ vldP x y = true) := by
    unfold vldP
    simp only [decide_eq_true_eq, decide_eq_false_iff_not]
    omega
  rcases key with ⟨g0, E⟩ | ⟨g0, g1, E⟩ | ⟨g0, g1, g2, E⟩ | ⟨g0, g1, g2, g3, E⟩ | ⟨g0, g1, g2, g3, E⟩
  all_goals
    rw [E]
    clear E
    go_enter Tryz.func49, Tryz.ntmps49
    go_wp2
    go_ret
    exact ⟨rfl, (Below.refl _ _).alloc (Nat.le_refl _) _⟩
theorem regrown_drewN {B : Nat} {w w' : World} {P : Program} {f : FuncId} {args : Array Value} {v : Value} (h : Calls P f args w fun e w' => e = .returned v ∧ w = w') : Calls P f args w fun e w' => e = .returned v ∧ Below w.heap.size w w' :=
  h.mono fun e w' ⟨h1, h2⟩ => ⟨h1, by rw [← h2]; exact Below.refl _ _⟩
theorem lst_form {l : List Ms} {v : Value} {w : World} (h : LstAt l v w) : ∃ p cap, v = .slice p l.length cap := by
  rcases h with ⟨rfl, rfl⟩ | ⟨b, o, cap, rfl, _⟩
  · exact ⟨none, 0, rfl⟩
  · exact ⟨_, _, rfl⟩
theorem lst_at {l : List Ms} {p : Option Addr} {cap : Nat} {w : World} (h : LstAt l (.slice p l.length cap) w) {k : Nat} (q : k < l.length) : ∃ b o, p = some ⟨b, o, none⟩ ∧ l.length ≤ cap ∧ cap ≤ 9223372036854775807 ∧ MsAt l b o w := by
  rcases h with ⟨_, rfl⟩ | ⟨b, o, cap', e, h2, h3, h4⟩
  · exact absurd q (by simp)
  · injection e with e1 e2 e3
    subst e3
    exact ⟨b, o, e1, h2, h3, h4⟩
theorem ex_blk {vs : List Value} {b : Nat} {W : World} (_ : Hid (Blk vs b W)) : ∃ b', b' = b := ⟨b, rfl⟩
end Go.Proofs.YtajmjkliblippaaGreatDoor
namespace Go.Proofs.YtajmjkliblippaaGreatDoor
set_option linter.unusedVariables false
open Go.RowKit
theorem grown_of_below {W w' : World} (hb : Below W.heap.size W w') : W.grownBy w' none := ⟨hb.os, hb.tape, hb.output, hb.size, fun k hk _ => hb.block k hk⟩
def Halt (p : Prop) : Prop := p
theorem Halt.mk {p : Prop} (h : Halt p) : p := h
end Go.Proofs.YtajmjkliblippaaGreatDoor
namespace Go.Proofs.YtajmjkliblippaaGreatDoor
set_option linter.unusedVariables false
open Go.RowKit
def msC (l : List Ms) : List Value := l.flatMap fun m => [Value.int .i64 m.s, Value.int .i64 m.a, Value.int .i64 m.b, Value.int .i64 m.z, Value.int .i64 m.d, Value.int .i64 m.w]
theorem msC_append (l k : List Ms) : msC (l ++ k) = msC l ++ msC k := by unfold msC; rw [List.flatMap_append]
theorem msC_len (l : List Ms) : (msC l).length = l.length * 6 := by
  unfold msC
  induction l with
  | nil => rfl
  | cons p r ih => simp only [List.flatMap_cons, List.length_append, List.length_cons, List.length_nil, ih]; omega
theorem msC_get : ∀ (l : List Ms) (i : Nat) (h : i < l.length), (msC l)[i * 6]? = some (.int .i64 l[i].s) ∧ (msC l)[i * 6 + 1]? = some (.int .i64 l[i].a) ∧ (msC l)[i * 6 + 2]? = some (.int .i64 l[i].b) ∧ (msC l)[i * 6 + 3]? = some (.int .i64 l[i].z) ∧ (msC l)[i * 6 + 4]? = some (.int .i64 l[i].d) ∧ (msC l)[i * 6 + 5]? = some (.int .i64 l[i].w)
  | [], i, h => absurd h (by simp)
  | p :: l, 0, h => ⟨rfl, rfl, rfl, rfl, rfl, rfl⟩
  | p :: l, i + 1, h => by
    obtain ⟨a, b, c, d, e, f⟩ := msC_get l i (by simpa using h)
    unfold msC at *
    rw [List.flatMap_cons, show (i + 1) * 6 = i * 6 + 6 by omega]
    exact ⟨a, b, c, d, e, f⟩
/-- a slice of the call's own that holds these measurements -/
def OM (B : Nat) (w : World) (v : Value) (l : List Ms) : Prop := w.ownsRow B 71 6 v l.length (msC l)
theorem infoMeas : (Tryz.prog.info? 71).map (fun i => (i.zero, i.size, i.bytes)) = some (some (.agg #[.int .i64 0, .int .i64 0, .int .i64 0, .int .i64 0, .int .i64 0, .int .i64 0]), 6, 48) := by kernel_rfl
theorem wpList_om {ops : Array Oper} {rest : List Oper} {o : Oper} {a : Act} {Q : Exit → Act → World → Prop} (hgd : o.guard = none) (s x : Operand)
    (ho : o.op = .call { callee := .builtin .append, args := #[s, x], argTypes := #[50, 50] })
    (B : Nat) (v : Value) (l : List Ms) (hs : a.eval s = v) (w0 : World) (h : OM B w0 v l) (T : TypeId) (p : Ms) (c : Nat)
    (hx : a.eval x = .slice (some ⟨w0.heap.size, 0, none⟩) 1 c) (hl : l.length ≤ 100000) (hB : B ≤ w0.heap.size)
    (H : ∀ v' w', OM B w' v' (l ++ [p]) → (w0.alloc (.cells #[.int .i64 p.s, .int .i64 p.a, .int .i64 p.b, .int .i64 p.z, .int .i64 p.d, .int .i64 p.w] T)).grownBy w' v.ownBlock → (v'.ownBlock = v.ownBlock ∨ v'.ownBlock = some (w0.heap.size + 1)) → wpList Tryz.prog ops Q rest (a.put o.dst v') w') :
    wpList Tryz.prog ops Q (o :: rest) a (w0.alloc (.cells #[.int .i64 p.s, .int .i64 p.a, .int .i64 p.b, .int .i64 p.z, .int .i64 p.d, .int .i64 p.w] T)) := by
  obtain ⟨i0, hi, hz0, hz1, hz2⟩ := info_parts infoMeas
  refine wpList_append_own_at _ hgd s x 50 ho B 71 i0 (.agg #[.int .i64 0, .int .i64 0, .int .i64 0, .int .i64 0, .int .i64 0, .int .i64 0]) 6 48 Tryz.underlying50 hi hz0 hz1 hz2 rfl (by decide) v l.length (msC l) hs (World.ownsRow.alloc h _) ⟨w0.heap.size, 0, none⟩ 1 c (msC [p]) hx (by rw [msC_len]; rfl) ?_ ?_ (by unfold maxLen; omega) (by omega) (by simp; omega) ?_
  · intro j u hu
    have hadd : (⟨w0.heap.size, 0, none⟩ : Addr).add j = ⟨w0.heap.size, j, none⟩ := by unfold Addr.add; split <;> simp_all
    rw [hadd, World.cell?_alloc_at _ _ _ _ (by rfl)]
    unfold msC at hu
    simpa using hu
  · intro u hu
    unfold msC at hu
    simp only [List.flatMap_cons, List.flatMap_nil, List.append_nil, List.mem_cons, List.not_mem_nil, or_false] at hu
    rcases hu with rfl | rfl | rfl | rfl | rfl | rfl <;> rfl
  · intro v' w' ho' hg _ hat
    refine H v' w' (by unfold OM; rw [List.length_append, msC_append]; exact ho') hg ?_
    simpa using hat
/-- what a slice of measurements of the call's own is -/
theorem om_cases {B : Nat} {w : World} {v : Value} {l : List Ms} (h : OM B w v l) : (v = .slice none 0 0 ∧ l = []) ∨ ∃ g cap, v = .slice (some ⟨g, 0, none⟩) l.length cap ∧ l.length ≤ cap ∧ cap ≤ 9223372036854775807 ∧ B ≤ g ∧ MsAt l g 0 w ∧ ∀ j, w.frozen? ⟨g, j, none⟩ = false := by
  obtain ⟨h1, h2⟩ := h
  rcases h2 with ⟨rfl, hn⟩ | ⟨g, cap, cur, rfl, hb, hg, hc, hm, hs, ht⟩
  · exact .inl ⟨rfl, List.eq_nil_of_length_eq_zero hn⟩
  · have hlt : g < w.heap.size := (Array.getElem?_eq_some_iff.1 hg).1
    have hget : ∀ j, j < l.length * 6 → w.cell? ⟨g, j, none⟩ = (msC l)[j]? := fun j hj => by
      rw [← ht, List.getElem?_take, if_pos hj]
      unfold World.cell?
      rw [hg]
      simp
    unfold maxLen at hm
    refine .inr ⟨g, cap, rfl, hc, hm, hb, ⟨hlt, fun i hi => ?_, fun i hi => ?_, fun i hi => ?_, fun i hi => ?_, fun i hi => ?_, fun i hi => ?_⟩, fun j => by simp [World.frozen?, hg]⟩
    · rw [Nat.zero_add, hget _ (by omega), nth_eq hi]; exact (msC_get l i hi).1
    · rw [Nat.zero_add, hget _ (by omega), nth_eq hi]; exact (msC_get l i hi).2.1
    · rw [Nat.zero_add, hget _ (by omega), nth_eq hi]; exact (msC_get l i hi).2.2.1
    · rw [Nat.zero_add, hget _ (by omega), nth_eq hi]; exact (msC_get l i hi).2.2.2.1
    · rw [Nat.zero_add, hget _ (by omega), nth_eq hi]; exact (msC_get l i hi).2.2.2.2.1
    · rw [Nat.zero_add, hget _ (by omega), nth_eq hi]; exact (msC_get l i hi).2.2.2.2.2
theorem OM.lst {B : Nat} {w : World} {v : Value} {l : List Ms} (h : OM B w v l) : LstAt l v w := by
  rcases om_cases h with ⟨rfl, rfl⟩ | ⟨g, cap, rfl, h2, h3, _, h4, _⟩
  · exact .inl ⟨rfl, rfl⟩
  · exact .inr ⟨g, 0, cap, rfl, h2, h3, h4⟩
theorem OM.below {B : Nat} {w w' : World} {v : Value} {l : List Ms} (h : OM B w v l) (hb : Below w.heap.size w w') : OM B w' v l := by
  refine World.ownsRow.kept h (grown_of_below hb) ?_
  cases v.ownBlock <;> simp
theorem below_grown {B : Nat} {a b c : World} {r : Option Nat} (h : Below B a b) (g : b.grownBy c r) (hB : B ≤ b.heap.size) (hr : ∀ k, r = some k → B ≤ k) : Below B a c :=
  h.trans ⟨g.os, g.tape, g.output, g.size, fun k hk => g.block k (by omega) (fun e => by have := hr k e.symm; omega)⟩
def notS (s : Int) (m : Ms) : Bool := decide (m.s ≠ s)
def woL (l : List Ms) (s : Int) : List Ms := l.filter (notS s)
theorem woL_succ {l : List Ms} {s : Int} {k : Nat} (h : k < l.length) : woL (l.take (k + 1)) s = if (nth l k).s = s then woL (l.take k) s else woL (l.take k) s ++ [nth l k] := by
  unfold woL
  rw [take_nth h, List.filter_append]
  unfold notS
  by_cases q : (nth l k).s = s
  · rw [if_pos q]
    simp [q]
  · rw [if_neg q]
    simp [q]
theorem woL_len (l : List Ms) (s : Int) : (woL l s).length ≤ l.length := List.length_filter_le _ _
def WoR (l : List Ms) (s : Int) (w : World) (v u : Value) (wr : World) : Prop := ∃ k : Nat, u = .int .i64 k ∧ k ≤ l.length ∧ Hid (Below w.heap.size w wr) ∧ Hid (OM w.heap.size wr v (woL (l.take k) s))
set_option maxHeartbeats 4000000 in
set_option maxRecDepth 100000 in
theorem wo_some (l : List Ms) (s : Int) (b o cap : Nat) (w : World) (h : MsAt l b o w) (hc : l.length ≤ cap) (hm : cap ≤ 9223372036854775807) (hl : l.length ≤ 18) :
    Calls Tryz.prog 62 #[.slice (some ⟨b, o, none⟩) l.length cap, .int .i64 s] w fun e w' => (∃ u, e = .returned u ∧ OM w.heap.size w' u (woL l s)) ∧ Below w.heap.size w w' := by
  have H := Lib.hid h
  have hlt := h.lt
  clear h
  go_enter Tryz.func62, Tryz.ntmps62
  go_wp2
  go_loopw [5, 10] (WoR l s w) (fun _ i _ => l.length - (intOf i).toNat)
  case atStart => exact ⟨0, rfl, Nat.zero_le _, Lib.hid (Below.refl _ _), Lib.hid (World.ownsRow_nil _ _ _ _)⟩
  case round =>
    obtain ⟨k, rfl, hk, HB, HO⟩ := hrel
    by_cases q : k < l.length
    · have q' : decide (k < l.length) = true := by simpa using q
      have M := H.out.keep HB.out hlt
      have c0 := M.c0 k q
      have c1 := M.c1 k q
      have c2 := M.c2 k q
      have c3 := M.c3 k q
      have c4 := M.c4 k q
      have c5 := M.c5 k q
      have WS := Lib.hid (woL_succ (s := s) q)
      have SZ := Lib.hid (show (woL (l.take k) s).length ≤ 100000 by have := woL_len (l.take k) s; rw [List.length_take] at this; omega)
      have HS := Lib.hid HB.out.size
      clear M
      generalize hp : nth l k = p at *
      clear hp
      by_cases e : p.s = s
      · have g : (p.s != s) = false := by simpa using e
        have E := Lib.hid e
        clear e
        go_wp2
        go_roundw
        case rel =>
          have hb := (Below.refl wr.heap.size wr).alloc (Nat.le_refl _) (.cells #[.int .i64 p.s, .int .i64 p.a, .int .i64 p.b, .int .i64 p.z, .int .i64 p.d, .int .i64 p.w] 71)
          exact ⟨k + 1, by go_num, by omega, HB.out.trans (hb.mono HS.out), by rw [WS.out, if_pos E.out]; exact HO.out.below hb⟩
        case measure => simp [intOf]; omega
      · have g : (p.s != s) = true := by simpa using e
        have HA := Lib.hid ((Below.refl wr.heap.size wr).alloc (Nat.le_refl _) (.cells #[.int .i64 p.s, .int .i64 p.a, .int .i64 p.b, .int .i64 p.z, .int .i64 p.d, .int .i64 p.w] 71))
        go_wp2_with (at_builtin; refine Halt.mk ?_)
        unfold Halt
        refine wpList_om rfl (.tmp 18) (.tmp 20) rfl w.heap.size u5 (woL (l.take k) s) rfl (wr.alloc (.cells #[.int .i64 p.s, .int .i64 p.a, .int .i64 p.b, .int .i64 p.z, .int .i64 p.d, .int .i64 p.w] 71)) (HO.out.below HA.out) _ p 1 (by rw [World.size_alloc]; rfl) SZ.out (by have := HS.out; simp; omega) ?_
        intro u2 w5 ho5 hg5 hat5
        have HO5 : Hid (OM w.heap.size w5 u2 (woL (l.take (k + 1)) s)) := Lib.hid (by rw [WS.out, if_neg e]; exact ho5)
        have HB5 : Hid (Below w.heap.size w w5) := Lib.hid (below_grown ((HB.out.trans (HA.out.mono HS.out)).alloc (by simp; have := HS.out; omega) _) hg5 (by simp; have := HS.out; omega) (fun k hk => (World.ownsRow.lt HO.out k hk).1))
        clear hg5 hat5 c0 c1 c2 c3 c4 c5
        obtain ⟨g5, cap5, hu2⟩ := Go.Joins.ownsRow_form ho5 (show 0 < (woL (l.take k) s ++ [p]).length by rw [List.length_append, List.length_singleton]; omega)
        obtain ⟨N5, hN5⟩ : ∃ N, (woL (l.take k) s ++ [p]).length = N := ⟨_, rfl⟩
        rw [hN5] at hu2
        clear ho5 hN5
        subst hu2
        go_wp2
        go_roundw
        case rel => exact ⟨k + 1, by go_num, by omega, HB5, HO5⟩
        case measure => simp [intOf]; omega
    · obtain rfl : k = l.length := by omega
      rw [List.take_length] at HO
      rcases om_cases HO.out with ⟨rfl, hz⟩ | ⟨g, cap', rfl, _⟩
      · go_wp2
        go_ret
        exact ⟨⟨_, rfl, HO.out⟩, HB.out⟩
      · go_wp2
        go_ret
        exact ⟨⟨_, rfl, HO.out⟩, HB.out⟩
theorem wo_nil (s : Int) (w : World) :
    Calls Tryz.prog 62 #[.slice none 0 0, .int .i64 s] w fun e w' => (∃ u, e = .returned u ∧ OM w.heap.size w' u (woL [] s)) ∧ Below w.heap.size w w' := by
  go_enter Tryz.func62, Tryz.ntmps62
  go_wp2
  go_loop [5, 10] (fun u v => u = .slice none 0 0 ∧ v = .int .i64 0) (fun _ _ => 0)
  case atStart => exact ⟨rfl, rfl⟩
  case round =>
    obtain ⟨rfl, rfl⟩ := hrel
    go_wp2
    go_ret
    exact ⟨⟨_, rfl, World.ownsRow_nil _ _ _ _⟩, Below.refl _ _⟩
theorem wo_any (l : List Ms) (s : Int) (v : Value) (w : World) (h : LstAt l v w) (hl : l.length ≤ 18) :
    Calls Tryz.prog 62 #[v, .int .i64 s] w fun e w' => (∃ u, e = .returned u ∧ OM w.heap.size w' u (woL l s)) ∧ Below w.heap.size w w' := by
  rcases h with ⟨rfl, rfl⟩ | ⟨b, o, cap, rfl, h2, h3, h4⟩
  · exact wo_nil s w
  · exact wo_some l s b o cap w h4 h2 h3 hl
end Go.Proofs.YtajmjkliblippaaGreatDoor
namespace Go.Proofs.YtajmjkliblippaaGreatDoor
set_option linter.unusedVariables false
def srtL (l : List Ms) : List Int := (l.map Ms.s).mergeSort fun x y => decide (x ≤ y)
def srcL (l : List Ms) : List Int := Lib.compact (srtL l)
theorem toArr (zs : List Int) {i : Nat} (h : i < zs.length) : zs.toArray[i]! = zs[i] := by
  rw [getElem!_pos zs.toArray i (by simpa using h)]
  rfl
theorem mem_compact {zs : List Int} {x : Int} : x ∈ Lib.compact zs ↔ x ∈ zs := by
  unfold Lib.compact Lib.compactUpTo
  rw [List.mem_map]
  constructor
  · rintro ⟨j, hj, rfl⟩
    have h := List.mem_range.1 (List.mem_filter.1 hj).1
    rw [toArr zs h]
    exact List.getElem_mem h
  · intro hx
    obtain ⟨i, hi, rfl⟩ := List.getElem_of_mem hx
    have key : ∀ n : Nat, n < zs.length → ∃ j, j < zs.length ∧ Lib.keeps zs.toArray j = true ∧ zs.toArray[j]! = zs.toArray[n]! := by
      intro n
      induction n with
      | zero => exact fun h => ⟨0, h, Lib.keeps_lt_one _ 0 (by omega), rfl⟩
      | succ n ih =>
        intro h
        by_cases e : zs.toArray[n + 1]! = zs.toArray[n]!
        · obtain ⟨j, h1, h2, h3⟩ := ih (by omega)
          exact ⟨j, h1, h2, h3.trans e.symm⟩
        · exact ⟨n + 1, h, Lib.keeps_pos (by simpa using e), rfl⟩
    obtain ⟨j, h1, h2, h3⟩ := key i hi
    exact ⟨j, List.mem_filter.2 ⟨List.mem_range.2 h1, h2⟩, by rw [h3, toArr zs hi]⟩
theorem compact_lt {zs : List Int} (h : zs.Pairwise (· ≤ ·)) : (Lib.compact zs).Pairwise (· < ·) := by
  unfold Lib.compact Lib.compactUpTo
  rw [List.pairwise_map, List.pairwise_filter]
  refine List.pairwise_lt_range.imp_of_mem ?_
  intro i j hi hj hij ki kj
  have hi' := List.mem_range.1 hi
  have hj' := List.mem_range.1 hj
  have hk : zs.toArray[j]! ≠ zs.toArray[j - 1]! := by
    unfold Lib.keeps at kj
    rcases of_decide_eq_true kj with h | h
    · omega
    · exact h
  rw [toArr zs hj', toArr zs (show j - 1 < zs.length by omega)] at hk
  rw [toArr zs hi', toArr zs hj']
  rw [List.pairwise_iff_getElem] at h
  have h1 : zs[j - 1] ≤ zs[j] := h (j - 1) j (by omega) hj' (by omega)
  have h2 : zs[i] ≤ zs[j - 1] := by
    by_cases e : i = j - 1
    · subst e; exact Int.le_refl _
    · exact h i (j - 1) hi' (by omega) (by omega)
  omega
theorem srt_le (l : List Ms) : (srtL l).Pairwise (· ≤ ·) := by
  have := List.pairwise_mergeSort (le := fun x y : Int => decide (x ≤ y)) (fun a b c h1 h2 => by simp at *; omega) (fun a b => by simp; omega) (l.map Ms.s)
  exact this.imp fun h => by simpa using h
theorem srt_len (l : List Ms) : (srtL l).length = l.length := by
  unfold srtL
  rw [List.length_mergeSort, List.length_map]
theorem src_len (l : List Ms) : (srcL l).length ≤ l.length := by
  have := Lib.compact_length_le (srtL l)
  rw [srt_len] at this
  exact this
theorem mem_srcL {l : List Ms} {x : Int} : x ∈ srcL l ↔ ∃ m ∈ l, m.s = x := by
  unfold srcL
  rw [mem_compact]
  unfold srtL
  rw [List.mem_mergeSort, List.mem_map]
theorem srcL_lt (l : List Ms) : (srcL l).Pairwise (· < ·) := compact_lt (srt_le l)
/-- a strictly ascending list is known by its members -/
theorem asc_uniq : ∀ (a b : List Int), a.Pairwise (· < ·) → b.Pairwise (· < ·) → (∀ x, x ∈ a ↔ x ∈ b) → a = b
  | [], [], _, _, _ => rfl
  | [], y :: b, _, _, h => absurd ((h y).2 List.mem_cons_self) (by simp)
  | x :: a, [], _, _, h => absurd ((h x).1 List.mem_cons_self) (by simp)
  | x :: a, y :: b, ha, hb, h => by
    rw [List.pairwise_cons] at ha hb
    have e : x = y := by
      have h1 := (h x).1 List.mem_cons_self
      have h2 := (h y).2 List.mem_cons_self
      rw [List.mem_cons] at h1 h2
      rcases h1 with h1 | h1
      · exact h1
      · rcases h2 with h2 | h2
        · exact h2.symm
        · have := hb.1 x h1
          have := ha.1 y h2
          omega
    subst e
    congr 1
    refine asc_uniq a b ha.2 hb.2 fun z => ⟨fun hz => ?_, fun hz => ?_⟩
    · have := (h z).1 (List.mem_cons_of_mem _ hz)
      rw [List.mem_cons] at this
      rcases this with rfl | g
      · exact absurd (ha.1 z hz) (by omega)
      · exact g
    · have := (h z).2 (List.mem_cons_of_mem _ hz)
      rw [List.mem_cons] at this
      rcases this with rfl | g
      · exact absurd (hb.1 z hz) (by omega)
      · exact g
end Go.Proofs.YtajmjkliblippaaGreatDoor
namespace Go.Proofs.YtajmjkliblippaaGreatDoor
set_option linter.unusedVariables false
/-- the integer nearest to x / d, upwards at a tie -/
def nearW (x d : Int) : Int := (2 * x + d) / (2 * d)
def pOk (v : Int) : Bool := decide (-2000000 ≤ v ∧ v ≤ 2000000)
def cenX (l : List Ms) : Int := nearW (solX l) (detN l)
def cenY (l : List Ms) : Int := nearW (solY l) (detN l)
/-- the error of the solution -/
def solE (l : List Ms) : Int := if chkL l = 0 then (if detN l = 0 then 14 else if (pOk (cenX l) && pOk (cenY l)) = true then 0 else 2) else chkL l
/-- how far an integer lies from x / d, times d -/
def apartI (p x d : Int) : Int := absZ (p * d - x)
/-- two fractions rounded up, if they are not too great -/
def pairF (x y d : Int) : (Int × Int) × Int := if ceilI x d ≤ 8000000 ∧ ceilI y d ≤ 8000000 then ((ceilI x d, ceilI y d), 0) else ((0, 0), 2)
def reachF (cx cy : Int) (l : List Ms) : (Int × Int) × Int := pairF (apartI cx (solX l) (detN l) + noiX l) (apartI cy (solY l) (detN l) + noiY l) (detN l)
structure BoxI where
  cx : Int
  cy : Int
  x : Int
  y : Int
def box0 : BoxI := ⟨0, 0, 0, 0⟩
def maxF (f : Int → Int) : List Int → Int
  | [] => 0
  | k :: r => max (f k) (maxF f r)
theorem max_ge (f : Int → Int) {zs : List Int} {k : Int} (h : k ∈ zs) : f k ≤ maxF f zs := by
  induction zs with
  | nil => cases h
  | cons z r ih =>
    simp only [maxF]
    rcases List.mem_cons.1 h with rfl | h
    · omega
    · have := ih h
      omega
def rankB (l : List Ms) (k : Int) : Bool := decide (detN (woL l k) = 0)
def wideB (l : List Ms) (k : Int) : Bool := decide ((reachF (cenX l) (cenY l) (woL l k)).2 ≠ 0)
def levF (l : List Ms) : BoxI × Int :=
  if solE l = 0 then (if (srcL l).any (rankB l) = true then (box0, 14) else if (srcL l).any (wideB l) = true then (box0, 2) else
    (⟨cenX l, cenY l, maxF (fun k => (reachF (cenX l) (cenY l) (woL l k)).1.1) (srcL l), maxF (fun k => (reachF (cenX l) (cenY l) (woL l k)).1.2) (srcL l)⟩, 0)) else (box0, solE l)
theorem le_ceilI {v d u : Int} (hd : 0 < d) (h : u * d ≤ v) : u ≤ ceilI v d := by
  have e : ceilI v d = -(-v / d) := by unfold ceilI; rfl
  rw [e]
  have h2 : -v / d ≤ -u := by
    have : -v ≤ -u * d := by rw [Int.neg_mul]; omega
    exact Int.ediv_le_of_le_mul hd this
  omega
theorem pair_ok {x y d : Int} (h : (pairF x y d).2 = 0) : (pairF x y d).1 = (ceilI x d, ceilI y d) := by
  unfold pairF at h ⊢
  split
  · rfl
  · rename_i g
    rw [if_neg g] at h
    cases h
/-- the box of the reach holds every point that meets the measurements -/
theorem reach_in {l : List Ms} {cx cy px py : Int} (hd : 0 < detN l) (hw : ∀ m ∈ l, 0 ≤ m.w) (h : ∀ m ∈ l, -m.d ≤ m.a * px + m.b * py - m.z ∧ m.a * px + m.b * py - m.z ≤ m.d) (hr : (reachF cx cy l).2 = 0) :
    px - cx ≤ (reachF cx cy l).1.1 ∧ cx - px ≤ (reachF cx cy l).1.1 ∧ py - cy ≤ (reachF cx cy l).1.2 ∧ cy - py ≤ (reachF cx cy l).1.2 := by
  obtain ⟨n1, n2⟩ := near_sol hw h
  have e := pair_ok (x := apartI cx (solX l) (detN l) + noiX l) (y := apartI cy (solY l) (detN l) + noiY l) (d := detN l) hr
  have e' : (reachF cx cy l).1 = (ceilI (apartI cx (solX l) (detN l) + noiX l) (detN l), ceilI (apartI cy (solY l) (detN l) + noiY l) (detN l)) := e
  rw [e']
  have tri : ∀ (p c X N : Int), absZ (detN l * p - X) ≤ N → (p - c) * detN l ≤ apartI c X (detN l) + N ∧ (c - p) * detN l ≤ apartI c X (detN l) + N := by
    intro p c X N hN
    have e1 : (p - c) * detN l = (detN l * p - X) - (c * detN l - X) := by grind
    have e2 : (c - p) * detN l = (c * detN l - X) - (detN l * p - X) := by grind
    rw [e1, e2]
    unfold apartI
    generalize detN l * p - X = s at *
    generalize c * detN l - X = t at *
    unfold absZ at *
    constructor <;> (split at hN <;> split <;> omega)
  obtain ⟨t1, t2⟩ := tri px cx (solX l) (noiX l) n1
  obtain ⟨t3, t4⟩ := tri py cy (solY l) (noiY l) n2
  exact ⟨le_ceilI hd t1, le_ceilI hd t2, le_ceilI hd t3, le_ceilI hd t4⟩
end Go.Proofs.YtajmjkliblippaaGreatDoor
namespace Go.Proofs.YtajmjkliblippaaGreatDoor
set_option linter.unusedVariables false
theorem mulb {x y X Y : Int} (hX : 0 ≤ X) (hx0 : -X ≤ x) (hx : x ≤ X) (hy0 : -Y ≤ y) (hy : y ≤ Y) : -(X * Y) ≤ x * y ∧ x * y ≤ X * Y := by
  have hY : 0 ≤ Y := by omega
  rcases Int.le_total 0 x with h | h
  · have a := Int.mul_le_mul_of_nonneg_left hy0 h
    have b := Int.mul_le_mul_of_nonneg_left hy h
    have c := Int.mul_le_mul_of_nonneg_right hx hY
    have e : x * -Y = -(x * Y) := by grind
    omega
  · have a := Int.mul_le_mul_of_nonneg_left hy0 (show 0 ≤ -x by omega)
    have b := Int.mul_le_mul_of_nonneg_left hy (show 0 ≤ -x by omega)
    have c := Int.mul_le_mul_of_nonneg_right (show -x ≤ X by omega) hY
    have e1 : -x * -Y = x * Y := by grind
    have e2 : -x * y = -(x * y) := by grind
    have e3 : -x * Y = -(x * Y) := by grind
    omega
/-- valid measurements, at most 16 -/
structure OkL (l : List Ms) : Prop where
  len : l.length ≤ 16
  ok : ∀ m ∈ l, OkM m
theorem okL_of {l : List Ms} (h : chkL l = 0) : OkL l := ⟨(chkL_ok h).1, (chkL_ok h).2⟩
theorem OkL.take {l : List Ms} (h : OkL l) (k : Nat) : OkL (l.take k) := ⟨by rw [List.length_take]; have := h.len; omega, fun m hm => h.ok m (List.mem_of_mem_take hm)⟩
theorem OkL.wo {l : List Ms} (h : OkL l) (k : Int) : OkL (woL l k) := ⟨Nat.le_trans (woL_len _ _) h.len, fun m hm => h.ok m (List.mem_filter.1 hm).1⟩
theorem OkL.sum {l : List Ms} (h : OkL l) (f : Ms → Int) (B : Int) (hB : 0 ≤ B) (hf : ∀ m ∈ l, -B ≤ f m ∧ f m ≤ B) : -(16 * B) ≤ sumL f l ∧ sumL f l ≤ 16 * B := by
  have s := sum_bd f B l hf
  have e := Int.mul_le_mul_of_nonneg_right (show (l.length : Int) ≤ 16 by have := h.len; omega) hB
  omega
theorem term2 {w a b A B : Int} (hA : 0 ≤ A) (w0 : 1 ≤ w) (w1 : w ≤ 16) (a0 : -A ≤ a) (a1 : a ≤ A) (b0 : -B ≤ b) (b1 : b ≤ B) : -(16 * A * B) ≤ w * a * b ∧ w * a * b ≤ 16 * A * B := by
  obtain ⟨h1, h2⟩ := mulb (X := 16) (Y := A) (by omega) (show -16 ≤ w by omega) w1 a0 a1
  exact mulb (by omega) h1 h2 b0 b1
structure NrmB (l : List Ms) : Prop where
  xx : -16777216 ≤ nXX l ∧ nXX l ≤ 16777216
  xy : -16777216 ≤ nXY l ∧ nXY l ≤ 16777216
  yy : -16777216 ≤ nYY l ∧ nYY l ≤ 16777216
  xz : -281474976710656 ≤ nXZ l ∧ nXZ l ≤ 281474976710656
  yz : -281474976710656 ≤ nYZ l ∧ nYZ l ≤ 281474976710656
theorem nrm_bd {l : List Ms} (h : OkL l) : NrmB l := by
  have t1 : ∀ m ∈ l, -1048576 ≤ m.w * m.a * m.a ∧ m.w * m.a * m.a ≤ 1048576 := fun m hm => by
    have o := h.ok m hm
    have := term2 (A := 256) (B := 256) (by omega) o.w0 o.w1 o.a0 o.a1 o.a0 o.a1
    omega
  have t2 : ∀ m ∈ l, -1048576 ≤ m.w * m.a * m.b ∧ m.w * m.a * m.b ≤ 1048576 := fun m hm => by
    have o := h.ok m hm
    have := term2 (A := 256) (B := 256) (by omega) o.w0 o.w1 o.a0 o.a1 o.b0 o.b1
    omega
  have t3 : ∀ m ∈ l, -1048576 ≤ m.w * m.b * m.b ∧ m.w * m.b * m.b ≤ 1048576 := fun m hm => by
    have o := h.ok m hm
    have := term2 (A := 256) (B := 256) (by omega) o.w0 o.w1 o.b0 o.b1 o.b0 o.b1
    omega
  have t4 : ∀ m ∈ l, -17592186044416 ≤ m.w * m.a * m.z ∧ m.w * m.a * m.z ≤ 17592186044416 := fun m hm => by
    have o := h.ok m hm
    have := term2 (A := 256) (B := 4294967296) (by omega) o.w0 o.w1 o.a0 o.a1 o.z0 o.z1
    omega
  have t5 : ∀ m ∈ l, -17592186044416 ≤ m.w * m.b * m.z ∧ m.w * m.b * m.z ≤ 17592186044416 := fun m hm => by
    have o := h.ok m hm
    have := term2 (A := 256) (B := 4294967296) (by omega) o.w0 o.w1 o.b0 o.b1 o.z0 o.z1
    omega
  have s1 := h.sum _ _ (by omega) t1
  have s2 := h.sum _ _ (by omega) t2
  have s3 := h.sum _ _ (by omega) t3
  have s4 := h.sum _ _ (by omega) t4
  have s5 := h.sum _ _ (by omega) t5
  exact ⟨by unfold nXX; omega, by unfold nXY; omega, by unfold nYY; omega, by unfold nXZ; omega, by unfold nYZ; omega⟩
structure SolB (l : List Ms) : Prop where
  det : -562949953421312 ≤ detN l ∧ detN l ≤ 562949953421312
  x : -9444732965739290427392 ≤ solX l ∧ solX l ≤ 9444732965739290427392
  y : -9444732965739290427392 ≤ solY l ∧ solY l ≤ 9444732965739290427392
theorem sol_bd {l : List Ms} (h : NrmB l) : SolB l := by
  obtain ⟨⟨a0, a1⟩, ⟨b0, b1⟩, ⟨c0, c1⟩, ⟨d0, d1⟩, ⟨e0, e1⟩⟩ := h
  have p1 := mulb (X := 16777216) (Y := 16777216) (by omega) a0 a1 c0 c1
  have p2 := mulb (X := 16777216) (Y := 16777216) (by omega) b0 b1 b0 b1
  have p3 := mulb (X := 16777216) (Y := 281474976710656) (by omega) c0 c1 d0 d1
  have p4 := mulb (X := 16777216) (Y := 281474976710656) (by omega) b0 b1 e0 e1
  have p5 := mulb (X := 16777216) (Y := 281474976710656) (by omega) a0 a1 e0 e1
  have p6 := mulb (X := 16777216) (Y := 281474976710656) (by omega) b0 b1 d0 d1
  exact ⟨by unfold detN; omega, by unfold solX; omega, by unfold solY; omega⟩
theorem absZ_le {x B : Int} (h0 : -B ≤ x) (h1 : x ≤ B) : absZ x ≤ B := by unfold absZ; split <;> omega
theorem absZ_ge (x : Int) : 0 ≤ absZ x := by unfold absZ; split <;> omega
/-- the noise of each measurement, with the coefficients u and v -/
theorem noi_term {m : Ms} (o : OkM m) {u v a b : Int} (hu0 : -16777216 ≤ u) (hu : u ≤ 16777216) (hv0 : -16777216 ≤ v) (hv : v ≤ 16777216) (ha0 : -256 ≤ a) (ha : a ≤ 256) (hb0 : -256 ≤ b) (hb : b ≤ 256) :
    0 ≤ absZ (u * a - v * b) ∧ absZ (u * a - v * b) ≤ 8589934592 ∧ 0 ≤ m.w * absZ (u * a - v * b) ∧ m.w * absZ (u * a - v * b) ≤ 137438953472 ∧ 0 ≤ m.w * absZ (u * a - v * b) * m.d ∧ m.w * absZ (u * a - v * b) * m.d ≤ 590295810358705651712 := by
  have p1 := mulb (X := 16777216) (Y := 256) (by omega) hu0 hu ha0 ha
  have p2 := mulb (X := 16777216) (Y := 256) (by omega) hv0 hv hb0 hb
  have l1 : absZ (u * a - v * b) ≤ 8589934592 := absZ_le (by omega) (by omega)
  have l0 := absZ_ge (u * a - v * b)
  generalize absZ (u * a - v * b) = c at *
  have w0 := o.w0
  have w1 := o.w1
  have d0 := o.d0
  have d1 := o.d1
  have q0 := Int.mul_nonneg (show 0 ≤ m.w by omega) l0
  have q1 := (mulb (X := 16) (Y := 8589934592) (x := m.w) (y := c) (by omega) (by omega) w1 (by omega) l1).2
  have r0 := Int.mul_nonneg q0 d0
  have r1 := (mulb (X := 137438953472) (Y := 4294967296) (x := m.w * c) (y := m.d) (by omega) (by omega) (by omega) (by omega) d1).2
  exact ⟨l0, l1, q0, by omega, r0, by omega⟩
end Go.Proofs.YtajmjkliblippaaGreatDoor
namespace Go.Proofs.YtajmjkliblippaaGreatDoor
set_option linter.unusedVariables false
open Go.RowKit
/-- one measurement more: the sums without an overflow -/
structure NStep (l : List Ms) (k : Nat) (m : Ms) : Prop where
  wa : IntKind.i64.wrap (m.w * m.a) = m.w * m.a
  wb : IntKind.i64.wrap (m.w * m.b) = m.w * m.b
  waa : IntKind.i64.wrap (m.w * m.a * m.a) = m.w * m.a * m.a
  wab : IntKind.i64.wrap (m.w * m.a * m.b) = m.w * m.a * m.b
  wbb : IntKind.i64.wrap (m.w * m.b * m.b) = m.w * m.b * m.b
  waz : IntKind.i64.wrap (m.w * m.a * m.z) = m.w * m.a * m.z
  wbz : IntKind.i64.wrap (m.w * m.b * m.z) = m.w * m.b * m.z
  xx : IntKind.i64.wrap (nXX (l.take k) + m.w * m.a * m.a) = nXX (l.take (k + 1))
  xy : IntKind.i64.wrap (nXY (l.take k) + m.w * m.a * m.b) = nXY (l.take (k + 1))
  yy : IntKind.i64.wrap (nYY (l.take k) + m.w * m.b * m.b) = nYY (l.take (k + 1))
  xz : IntKind.i64.wrap (nXZ (l.take k) + m.w * m.a * m.z) = nXZ (l.take (k + 1))
  yz : IntKind.i64.wrap (nYZ (l.take k) + m.w * m.b * m.z) = nYZ (l.take (k + 1))
theorem nstep {l : List Ms} (h : OkL l) {k : Nat} (q : k < l.length) : NStep l k (nth l k) := by
  have o := h.ok _ (nth_mem q)
  have B := nrm_bd (h.take (k + 1))
  have xx0 : nXX (l.take (k + 1)) = nXX (l.take k) + (nth l k).w * (nth l k).a * (nth l k).a := sum_take _ q
  have xy0 : nXY (l.take (k + 1)) = nXY (l.take k) + (nth l k).w * (nth l k).a * (nth l k).b := sum_take _ q
  have yy0 : nYY (l.take (k + 1)) = nYY (l.take k) + (nth l k).w * (nth l k).b * (nth l k).b := sum_take _ q
  have xz0 : nXZ (l.take (k + 1)) = nXZ (l.take k) + (nth l k).w * (nth l k).a * (nth l k).z := sum_take _ q
  have yz0 : nYZ (l.take (k + 1)) = nYZ (l.take k) + (nth l k).w * (nth l k).b * (nth l k).z := sum_take _ q
  generalize nth l k = m at *
  have p1 := mulb (X := 16) (Y := 256) (x := m.w) (y := m.a) (by omega) (by have := o.w0; omega) o.w1 o.a0 o.a1
  have p2 := mulb (X := 16) (Y := 256) (x := m.w) (y := m.b) (by omega) (by have := o.w0; omega) o.w1 o.b0 o.b1
  have t1 := term2 (A := 256) (B := 256) (by omega) o.w0 o.w1 o.a0 o.a1 o.a0 o.a1
  have t2 := term2 (A := 256) (B := 256) (by omega) o.w0 o.w1 o.a0 o.a1 o.b0 o.b1
  have t3 := term2 (A := 256) (B := 256) (by omega) o.w0 o.w1 o.b0 o.b1 o.b0 o.b1
  have t4 := term2 (A := 256) (B := 4294967296) (by omega) o.w0 o.w1 o.a0 o.a1 o.z0 o.z1
  have t5 := term2 (A := 256) (B := 4294967296) (by omega) o.w0 o.w1 o.b0 o.b1 o.z0 o.z1
  obtain ⟨⟨a0, a1⟩, ⟨b0, b1⟩, ⟨c0, c1⟩, ⟨d0, d1⟩, ⟨e0, e1⟩⟩ := B
  exact ⟨IntWalk.i64_in _ (by omega), IntWalk.i64_in _ (by omega), IntWalk.i64_in _ (by omega), IntWalk.i64_in _ (by omega), IntWalk.i64_in _ (by omega), IntWalk.i64_in _ (by omega), IntWalk.i64_in _ (by omega),
    by rw [← xx0]; exact IntWalk.i64_in _ (by omega), by rw [← xy0]; exact IntWalk.i64_in _ (by omega), by rw [← yy0]; exact IntWalk.i64_in _ (by omega), by rw [← xz0]; exact IntWalk.i64_in _ (by omega), by rw [← yz0]; exact IntWalk.i64_in _ (by omega)⟩
def NrR (l : List Ms) (p : Option Addr) (cap : Nat) (w : World) (bn : Nat) (u : Value) (wr : World) : Prop := ∃ k : Nat, u = .int .i64 k ∧ k ≤ l.length ∧ Hid (Below w.heap.size w wr) ∧ Hid (Blk [.int .i64 (nXX (l.take k)), .int .i64 (nXY (l.take k)), .int .i64 (nYY (l.take k)), .int .i64 (nXZ (l.take k)), .int .i64 (nYZ (l.take k))] bn wr) ∧ Hid (Blk [.int .i64 0, .int .i64 0, .int .i64 0, .int .i64 0, .int .i64 0] w.heap.size wr)
set_option maxHeartbeats 8000000 in
set_option maxRecDepth 100000 in
theorem normal_any (l : List Ms) (v : Value) (w : World) (h : LstAt l v w) (hc : chkL l = 0) :
    Calls Tryz.prog 140 #[v] w fun e w' => e = .returned (.tuple #[.agg #[.int .i64 (nXX l), .int .i64 (nXY l), .int .i64 (nYY l), .int .i64 (nXZ l), .int .i64 (nYZ l)], .int .i64 0]) ∧ Below w.heap.size w w' := by
  obtain ⟨p, cap, rfl⟩ := lst_form h
  have OL := Lib.hid (okL_of hc)
  have CH := Lib.hid fun w h => check_any l (.slice p l.length cap) w h
  rw [hc] at CH
  clear hc
  have H0 := Lib.hid h
  obtain ⟨KZ, HB⟩ := ent1 w #[.int .i64 0, .int .i64 0, .int .i64 0, .int .i64 0, .int .i64 0] 160
  go_enter Tryz.func140, Tryz.ntmps140
  clear h
  go_wp2_with fail
  generalize w.alloc (.cells #[.int .i64 0, .int .i64 0, .int .i64 0, .int .i64 0, .int .i64 0] 160) = w0 at *
  refine (CH.out _ (H0.out.below HB.out)).mono ?_
  rintro e1 w1 ⟨rfl, hb1⟩
  replace HB := hT HB hb1
  replace KZ := hK KZ hb1
  clear hb1
  go_wp2
  obtain ⟨KN, hb2⟩ := alB w1 #[.int .i64 0, .int .i64 0, .int .i64 0, .int .i64 0, .int .i64 0] 160
  have hnN := HB.out.size
  have nzN_Z := KZ.out.lt
  replace HB := hT HB hb2
  replace KZ := hK KZ hb2
  clear hb2
  generalize w1.alloc (.cells #[.int .i64 0, .int .i64 0, .int .i64 0, .int .i64 0, .int .i64 0] 160) = w2 at *
  generalize w1.heap.size = bN at *
  have neN_Z : bN ≠ w.heap.size := by omega
  clear nzN_Z
  go_loopw [16] (NrR l p cap w bN) (fun i _ => l.length - (intOf i).toNat)
  case atStart => exact ⟨0, rfl, Nat.zero_le _, HB, KN, KZ⟩
  case round =>
    clear HB KN KZ
    obtain ⟨k, rfl, hk, HB, KN, KZ⟩ := hrel
    by_cases q : k < l.length
    · have q' : decide (k < l.length) = true := by simpa using q
      obtain ⟨b, o, rfl, hcap, hmax, MM⟩ := lst_at (H0.out.below HB.out) q
      have c0 := MM.c0 k q
      have c1 := MM.c1 k q
      have c2 := MM.c2 k q
      have c3 := MM.c3 k q
      have c4 := MM.c4 k q
      have c5 := MM.c5 k q
      have clt := MM.lt
      have NS := nstep OL.out q
      obtain ⟨s0, s1, s2, s3, s4, s5, s6, s7, s8, s9, s10, s11⟩ := NS
      clear MM
      generalize nth l k = m at *
      generalize nXX (l.take k) = A at *
      generalize nXY (l.take k) = B at *
      generalize nYY (l.take k) = C at *
      generalize nXZ (l.take k) = D at *
      generalize nYZ (l.take k) = E at *
      obtain ⟨A1, EA⟩ : ∃ x, nXX (l.take (k + 1)) = x := ⟨_, rfl⟩
      obtain ⟨B1, EB⟩ : ∃ x, nXY (l.take (k + 1)) = x := ⟨_, rfl⟩
      obtain ⟨C1, EC⟩ : ∃ x, nYY (l.take (k + 1)) = x := ⟨_, rfl⟩
      obtain ⟨D1, ED⟩ : ∃ x, nXZ (l.take (k + 1)) = x := ⟨_, rfl⟩
      obtain ⟨E1, EE⟩ : ∃ x, nYZ (l.take (k + 1)) = x := ⟨_, rfl⟩
      rw [EA] at s7
      rw [EB] at s8
      rw [EC] at s9
      rw [ED] at s10
      rw [EE] at s11
      have HA := Lib.hid EA
      have HBB := Lib.hid EB
      have HC := Lib.hid EC
      have HD := Lib.hid ED
      have HE := Lib.hid EE
      clear EA EB EC ED EE
      obtain ⟨yN_0, yN_1, yN_2, yN_3, yN_4, yN_z, yN_f0, yN_f1, yN_f2, yN_f3, yN_f4⟩ := blf5 KN
      obtain ⟨yN_0, yN_1, yN_2, yN_3, yN_4, yN_z, yN_f0, yN_f1, yN_f2, yN_f3, yN_f4⟩ := blf5 KN
      go_wp2
      have hs := st5 wr bN 0 (.int .i64 A1) 1 (.int .i64 B1) 2 (.int .i64 C1) 3 (.int .i64 D1) 4 (.int .i64 E1)
      replace KZ := oB hs KZ (by omega)
      replace KN := Lib.hid (blk_set (blk_set (blk_set (blk_set (blk_set KN.out (j := 0) (by simp) (.int .i64 A1)) (j := 1) (by simp) (.int .i64 B1)) (j := 2) (by simp) (.int .i64 C1)) (j := 3) (by simp) (.int .i64 D1)) (j := 4) (by simp) (.int .i64 E1))
      replace HB := oH hs HB (by omega)
      clear hs
      clear yN_0 yN_1 yN_2 yN_3 yN_4 yN_z yN_f0 yN_f1 yN_f2 yN_f3 yN_f4
      generalize ((((wr.setCell ⟨bN, 0, none⟩ (.int .i64 A1)).setCell ⟨bN, 1, none⟩ (.int .i64 B1)).setCell ⟨bN, 2, none⟩ (.int .i64 C1)).setCell ⟨bN, 3, none⟩ (.int .i64 D1)).setCell ⟨bN, 4, none⟩ (.int .i64 E1) = w51 at *
      simp only [List.set] at KN
      obtain ⟨KM, hb52⟩ := alB w51 #[.int .i64 m.s, .int .i64 m.a, .int .i64 m.b, .int .i64 m.z, .int .i64 m.d, .int .i64 m.w] 71
      have hnM := HB.out.size
      have nzM_Z := KZ.out.lt
      have nzM_N := KN.out.lt
      replace HB := hT HB hb52
      replace KZ := hK KZ hb52
      replace KN := hK KN hb52
      clear hb52
      generalize w51.alloc (.cells #[.int .i64 m.s, .int .i64 m.a, .int .i64 m.b, .int .i64 m.z, .int .i64 m.d, .int .i64 m.w] 71) = w52 at *
      generalize w51.heap.size = bM at *
      have neM_Z : bM ≠ w.heap.size := by omega
      have neM_N : bM ≠ bN := by omega
      clear nzM_Z nzM_N
      exact ⟨⟨k + 1, by go_num, by omega, HB, by rw [HA.out, HBB.out, HC.out, HD.out, HE.out]; exact KN, KZ⟩, by simp [intOf]; omega⟩
    · obtain rfl : k = l.length := by omega
      rw [List.take_length] at KN
      obtain ⟨A, EA⟩ : ∃ x, nXX l = x := ⟨_, rfl⟩
      rw [EA] at KN
      have HA := Lib.hid EA
      clear EA
      obtain ⟨B, EB⟩ : ∃ x, nXY l = x := ⟨_, rfl⟩
      rw [EB] at KN
      have HBB := Lib.hid EB
      clear EB
      obtain ⟨C, EC⟩ : ∃ x, nYY l = x := ⟨_, rfl⟩
      rw [EC] at KN
      have HC := Lib.hid EC
      clear EC
      obtain ⟨D, ED⟩ : ∃ x, nXZ l = x := ⟨_, rfl⟩
      rw [ED] at KN
      have HD := Lib.hid ED
      clear ED
      obtain ⟨E, EE⟩ : ∃ x, nYZ l = x := ⟨_, rfl⟩
      rw [EE] at KN
      have HE := Lib.hid EE
      clear EE
      obtain ⟨yZ_0, yZ_1, yZ_2, yZ_3, yZ_4, yZ_z, yZ_f0, yZ_f1, yZ_f2, yZ_f3, yZ_f4⟩ := blf5 KZ
      obtain ⟨yN_0, yN_1, yN_2, yN_3, yN_4, yN_z⟩ := blk5 KN
      go_wp2
      have hs := st5 wr w.heap.size 0 (.int .i64 A) 1 (.int .i64 B) 2 (.int .i64 C) 3 (.int .i64 D) 4 (.int .i64 E)
      replace KZ := Lib.hid (blk_set (blk_set (blk_set (blk_set (blk_set KZ.out (j := 0) (by simp) (.int .i64 A)) (j := 1) (by simp) (.int .i64 B)) (j := 2) (by simp) (.int .i64 C)) (j := 3) (by simp) (.int .i64 D)) (j := 4) (by simp) (.int .i64 E))
      replace KN := oB hs KN (by omega)
      replace HB := oH hs HB (by omega)
      clear hs
      clear yZ_0 yZ_1 yZ_2 yZ_3 yZ_4 yZ_z yZ_f0 yZ_f1 yZ_f2 yZ_f3 yZ_f4 yN_0 yN_1 yN_2 yN_3 yN_4 yN_z
      generalize ((((wr.setCell ⟨w.heap.size, 0, none⟩ (.int .i64 A)).setCell ⟨w.heap.size, 1, none⟩ (.int .i64 B)).setCell ⟨w.heap.size, 2, none⟩ (.int .i64 C)).setCell ⟨w.heap.size, 3, none⟩ (.int .i64 D)).setCell ⟨w.heap.size, 4, none⟩ (.int .i64 E) = w51 at *
      simp only [List.set] at KZ
      obtain ⟨yZ_0, yZ_1, yZ_2, yZ_3, yZ_4, yZ_z⟩ := blk5 KZ
      refine bodyPost_ret (v := .tuple #[.agg #[.int .i64 A, .int .i64 B, .int .i64 C, .int .i64 D, .int .i64 E], .int .i64 0]) (by simp [results, Tryz.results140, go_sem, yZ_0, yZ_1, yZ_2, yZ_3, yZ_4]) rfl ⟨by rw [HA.out, HBB.out, HC.out, HD.out, HE.out], HB.out⟩
set_option maxHeartbeats 8000000 in
set_option maxRecDepth 100000 in
theorem normal_bad (l : List Ms) (v : Value) (w : World) (h : LstAt l v w) (hc : chkL l ≠ 0) :
    Calls Tryz.prog 140 #[v] w fun e w' => e = .returned (.tuple #[.agg #[.int .i64 0, .int .i64 0, .int .i64 0, .int .i64 0, .int .i64 0], .int .i64 (chkL l)]) ∧ Below w.heap.size w w' := by
  obtain ⟨p, cap, rfl⟩ := lst_form h
  have CH := Lib.hid fun w h => check_any l (.slice p l.length cap) w h
  have g : (chkL l != 0) = true := by simpa using hc
  have g' : (chkL l == 0) = false := by simpa using hc
  clear hc
  generalize chkL l = c at *
  have H0 := Lib.hid h
  obtain ⟨KZ, HB⟩ := ent1 w #[.int .i64 0, .int .i64 0, .int .i64 0, .int .i64 0, .int .i64 0] 160
  go_enter Tryz.func140, Tryz.ntmps140
  clear h
  go_wp2_with fail
  generalize w.alloc (.cells #[.int .i64 0, .int .i64 0, .int .i64 0, .int .i64 0, .int .i64 0] 160) = w0 at *
  refine (CH.out _ (H0.out.below HB.out)).mono ?_
  rintro e1 w1 ⟨rfl, hb1⟩
  replace HB := hT HB hb1
  replace KZ := hK KZ hb1
  clear hb1
  obtain ⟨yZ_0, yZ_1, yZ_2, yZ_3, yZ_4, yZ_z, yZ_f0, yZ_f1, yZ_f2, yZ_f3, yZ_f4⟩ := blf5 KZ
  go_wp2
  have hs := st5 w1 w.heap.size 0 (.int .i64 0) 1 (.int .i64 0) 2 (.int .i64 0) 3 (.int .i64 0) 4 (.int .i64 0)
  replace KZ := Lib.hid (blk_set (blk_set (blk_set (blk_set (blk_set KZ.out (j := 0) (by simp) (.int .i64 0)) (j := 1) (by simp) (.int .i64 0)) (j := 2) (by simp) (.int .i64 0)) (j := 3) (by simp) (.int .i64 0)) (j := 4) (by simp) (.int .i64 0))
  replace HB := oH hs HB (by omega)
  clear hs
  clear yZ_0 yZ_1 yZ_2 yZ_3 yZ_4 yZ_z yZ_f0 yZ_f1 yZ_f2 yZ_f3 yZ_f4
  generalize ((((w1.setCell ⟨w.heap.size, 0, none⟩ (.int .i64 0)).setCell ⟨w.heap.size, 1, none⟩ (.int .i64 0)).setCell ⟨w.heap.size, 2, none⟩ (.int .i64 0)).setCell ⟨w.heap.size, 3, none⟩ (.int .i64 0)).setCell ⟨w.heap.size, 4, none⟩ (.int .i64 0) = w2 at *
  simp only [List.set] at KZ
  obtain ⟨yZ_0, yZ_1, yZ_2, yZ_3, yZ_4, yZ_z⟩ := blk5 KZ
  refine bodyPost_ret (v := .tuple #[.agg #[.int .i64 0, .int .i64 0, .int .i64 0, .int .i64 0, .int .i64 0], .int .i64 c]) (by simp [results, Tryz.results140, go_sem, yZ_0, yZ_1, yZ_2, yZ_3, yZ_4]) rfl ⟨rfl, HB.out⟩
end Go.Proofs.YtajmjkliblippaaGreatDoor
namespace Go.Proofs.YtajmjkliblippaaGreatDoor
set_option linter.unusedVariables false
open Go.RowKit
/-- what reach asks of its numbers -/
structure ReachB (cx cy X Y NX NY D : Int) : Prop where
  c : -2000000 ≤ cx ∧ cx ≤ 2000000 ∧ -2000000 ≤ cy ∧ cy ≤ 2000000
  x : -9444732965739290427392 ≤ X ∧ X ≤ 9444732965739290427392
  y : -9444732965739290427392 ≤ Y ∧ Y ≤ 9444732965739290427392
  nx : 0 ≤ NX ∧ NX ≤ 9444732965739290427392
  ny : 0 ≤ NY ∧ NY ≤ 9444732965739290427392
  d : 0 < D ∧ D ≤ 562949953421312
set_option maxHeartbeats 8000000 in
set_option maxRecDepth 100000 in
theorem sizes_any (x y d : Int) (w : World) (hx0 : 0 ≤ x) (hx : x < 85070591730234615865843651857942052864) (hy0 : 0 ≤ y) (hy : y < 85070591730234615865843651857942052864) (hd : 0 < d) (hd1 : d ≤ 9223372036854775807) :
    Calls Tryz.prog 146 #[wv x, wv y, .int .i64 d] w fun e w' => e = .returned (.tuple #[.int .i64 (pairF x y d).1.1, .int .i64 (pairF x y d).1.2, .int .i64 (pairF x y d).2]) ∧ Below w.heap.size w w' := by
  have SX := Lib.hid fun w => size_any x d w hx0 hx hd hd1
  have SY := Lib.hid fun w => size_any y d w hy0 hy hd hd1
  have E0 : pairF x y d = if ceilI x d ≤ 8000000 ∧ ceilI y d ≤ 8000000 then ((ceilI x d, ceilI y d), 0) else ((0, 0), 2) := rfl
  clear hx0 hx hy0 hy hd hd1
  generalize pairF x y d = P at *
  generalize ceilI x d = u at *
  generalize ceilI y d = v at *
  unfold wv at *
  by_cases h : u ≤ 8000000
  · rw [if_pos h] at SX
    by_cases k : v ≤ 8000000
    · rw [if_pos k] at SY
      have E := Lib.hid (E0.trans (if_pos ⟨h, k⟩))
      clear E0 h k
      obtain ⟨KX, KY, HB⟩ := ent2 w #[.int .i64 (hiW x), .int .u64 (loW x)] 112 #[.int .i64 (hiW y), .int .u64 (loW y)] 112
      go_enter Tryz.func146, Tryz.ntmps146
      go_wp2_with fail
      generalize (w.alloc (.cells #[.int .i64 (hiW x), .int .u64 (loW x)] 112)).alloc (.cells #[.int .i64 (hiW y), .int .u64 (loW y)] 112) = w0 at *
      refine (SX.out _).mono ?_
      rintro e1 w1 ⟨rfl, hb1⟩
      replace HB := hT HB hb1
      replace KX := hK KX hb1
      replace KY := hK KY hb1
      clear hb1
      obtain ⟨yY_0, yY_1, yY_z⟩ := blk2 KY
      go_wp2_with fail
      refine (SY.out _).mono ?_
      rintro e2 w2 ⟨rfl, hb2⟩
      replace HB := hT HB hb2
      replace KX := hK KX hb2
      replace KY := hK KY hb2
      clear yY_0 yY_1 yY_z
      clear hb2
      go_wp2
      refine bodyPost_ret (v := .tuple #[.int .i64 u, .int .i64 v, .int .i64 0]) (by simp [results, Tryz.results146, go_sem]) rfl ⟨by rw [E.out], HB.out⟩
    · rw [if_neg k] at SY
      have E := Lib.hid (E0.trans (if_neg fun q => k q.2))
      clear E0 h k
      obtain ⟨KX, KY, HB⟩ := ent2 w #[.int .i64 (hiW x), .int .u64 (loW x)] 112 #[.int .i64 (hiW y), .int .u64 (loW y)] 112
      go_enter Tryz.func146, Tryz.ntmps146
      go_wp2_with fail
      generalize (w.alloc (.cells #[.int .i64 (hiW x), .int .u64 (loW x)] 112)).alloc (.cells #[.int .i64 (hiW y), .int .u64 (loW y)] 112) = w0 at *
      refine (SX.out _).mono ?_
      rintro e1 w1 ⟨rfl, hb1⟩
      replace HB := hT HB hb1
      replace KX := hK KX hb1
      replace KY := hK KY hb1
      clear hb1
      obtain ⟨yY_0, yY_1, yY_z⟩ := blk2 KY
      go_wp2_with fail
      refine (SY.out _).mono ?_
      rintro e2 w2 ⟨rfl, hb2⟩
      replace HB := hT HB hb2
      replace KX := hK KX hb2
      replace KY := hK KY hb2
      clear yY_0 yY_1 yY_z
      clear hb2
      go_wp2
      refine bodyPost_ret (v := .tuple #[.int .i64 0, .int .i64 0, .int .i64 2]) (by simp [results, Tryz.results146, go_sem]) rfl ⟨by rw [E.out], HB.out⟩
  · rw [if_neg h] at SX
    by_cases k : v ≤ 8000000
    · rw [if_pos k] at SY
      have E := Lib.hid (E0.trans (if_neg fun q => h q.1))
      clear E0 h k
      obtain ⟨KX, KY, HB⟩ := ent2 w #[.int .i64 (hiW x), .int .u64 (loW x)] 112 #[.int .i64 (hiW y), .int .u64 (loW y)] 112
      go_enter Tryz.func146, Tryz.ntmps146
      go_wp2_with fail
      generalize (w.alloc (.cells #[.int .i64 (hiW x), .int .u64 (loW x)] 112)).alloc (.cells #[.int .i64 (hiW y), .int .u64 (loW y)] 112) = w0 at *
      refine (SX.out _).mono ?_
      rintro e1 w1 ⟨rfl, hb1⟩
      replace HB := hT HB hb1
      replace KX := hK KX hb1
      replace KY := hK KY hb1
      clear hb1
      obtain ⟨yY_0, yY_1, yY_z⟩ := blk2 KY
      go_wp2_with fail
      refine (SY.out _).mono ?_
      rintro e2 w2 ⟨rfl, hb2⟩
      replace HB := hT HB hb2
      replace KX := hK KX hb2
      replace KY := hK KY hb2
      clear yY_0 yY_1 yY_z
      clear hb2
      go_wp2
      refine bodyPost_ret (v := .tuple #[.int .i64 0, .int .i64 0, .int .i64 2]) (by simp [results, Tryz.results146, go_sem]) rfl ⟨by rw [E.out], HB.out⟩
    · rw [if_neg k] at SY
      have E := Lib.hid (E0.trans (if_neg fun q => h q.1))
      clear E0 h k
      obtain ⟨KX, KY, HB⟩ := ent2 w #[.int .i64 (hiW x), .int .u64 (loW x)] 112 #[.int .i64 (hiW y), .int .u64 (loW y)] 112
      go_enter Tryz.func146, Tryz.ntmps146
      go_wp2_with fail
      generalize (w.alloc (.cells #[.int .i64 (hiW x), .int .u64 (loW x)] 112)).alloc (.cells #[.int .i64 (hiW y), .int .u64 (loW y)] 112) = w0 at *
      refine (SX.out _).mono ?_
      rintro e1 w1 ⟨rfl, hb1⟩
      replace HB := hT HB hb1
      replace KX := hK KX hb1
      replace KY := hK KY hb1
      clear hb1
      obtain ⟨yY_0, yY_1, yY_z⟩ := blk2 KY
      go_wp2_with fail
      refine (SY.out _).mono ?_
      rintro e2 w2 ⟨rfl, hb2⟩
      replace HB := hT HB hb2
      replace KX := hK KX hb2
      replace KY := hK KY hb2
      clear yY_0 yY_1 yY_z
      clear hb2
      go_wp2
      refine bodyPost_ret (v := .tuple #[.int .i64 0, .int .i64 0, .int .i64 2]) (by simp [results, Tryz.results146, go_sem]) rfl ⟨by rw [E.out], HB.out⟩
theorem apart_bd {p d x : Int} (hp0 : -2000000 ≤ p) (hp : p ≤ 2000000) (hd0 : 0 < d) (hd : d ≤ 562949953421312) (hx0 : -9444732965739290427392 ≤ x) (hx : x ≤ 9444732965739290427392) :
    -10570632872582575427392 ≤ p * d - x ∧ p * d - x ≤ 10570632872582575427392 ∧ 0 ≤ absZ (p * d - x) ∧ absZ (p * d - x) ≤ 10570632872582575427392 := by
  have h := mulb (X := 2000000) (Y := 562949953421312) (x := p) (y := d) (by omega) hp0 hp (by omega) hd
  have h1 : -10570632872582575427392 ≤ p * d - x := by omega
  have h2 : p * d - x ≤ 10570632872582575427392 := by omega
  exact ⟨h1, h2, absZ_ge _, absZ_le h1 h2⟩
set_option maxHeartbeats 8000000 in
set_option maxRecDepth 100000 in
theorem reach_any (cx cy X Y NX NY D : Int) (w : World) (h : ReachB cx cy X Y NX NY D) :
    Calls Tryz.prog 98 #[.agg #[.int .i64 cx, .int .i64 cy], .agg #[.int .i64 (hiW X), .int .u64 (loW X), .int .i64 (hiW Y), .int .u64 (loW Y), .int .i64 (hiW NX), .int .u64 (loW NX), .int .i64 (hiW NY), .int .u64 (loW NY), .int .i64 D]] w fun e w' => e = .returned (.tuple #[.int .i64 (pairF (apartI cx X D + NX) (apartI cy Y D + NY) D).1.1, .int .i64 (pairF (apartI cx X D + NX) (apartI cy Y D + NY) D).1.2, .int .i64 (pairF (apartI cx X D + NX) (apartI cy Y D + NY) D).2]) ∧ Below w.heap.size w w' := by
  obtain ⟨⟨c0, c1, c2, c3⟩, ⟨x0, x1⟩, ⟨y0, y1⟩, ⟨nx0, nx1⟩, ⟨ny0, ny1⟩, d0, d1⟩ := h
  obtain ⟨a0, a1, a2, a3⟩ := apart_bd c0 c1 d0 d1 x0 x1
  obtain ⟨b0, b1, b2, b3⟩ := apart_bd c2 c3 d0 d1 y0 y1
  have AX := Lib.hid fun w => apart_any cx X D w ⟨by omega, by omega⟩ ⟨by omega, by omega⟩ ⟨by omega, by omega⟩ ⟨by omega, by omega⟩ ⟨by omega, by omega⟩
  have AY := Lib.hid fun w => apart_any cy Y D w ⟨by omega, by omega⟩ ⟨by omega, by omega⟩ ⟨by omega, by omega⟩ ⟨by omega, by omega⟩ ⟨by omega, by omega⟩
  unfold apartI
  generalize absZ (cx * D - X) = u at *
  generalize absZ (cy * D - Y) = v at *
  have PX := Lib.hid fun w => plus_any u NX w ⟨by omega, by omega⟩ ⟨by omega, by omega⟩ ⟨by omega, by omega⟩
  have PY := Lib.hid fun w => plus_any v NY w ⟨by omega, by omega⟩ ⟨by omega, by omega⟩ ⟨by omega, by omega⟩
  have SZ := Lib.hid fun w => sizes_any (u + NX) (v + NY) D w (by omega) (by omega) (by omega) (by omega) d0 (by omega)
  generalize pairF (u + NX) (v + NY) D = q at *
  generalize u + NX = s at *
  generalize v + NY = t at *
  unfold wv at *
  clear c0 c1 c2 c3 x0 x1 y0 y1 nx0 nx1 ny0 ny1 d0 d1 a0 a1 a2 a3 b0 b1 b2 b3
  obtain ⟨KP, KS, HB⟩ := ent2 w #[.int .i64 cx, .int .i64 cy] 23 #[.int .i64 (hiW X), .int .u64 (loW X), .int .i64 (hiW Y), .int .u64 (loW Y), .int .i64 (hiW NX), .int .u64 (loW NX), .int .i64 (hiW NY), .int .u64 (loW NY), .int .i64 D] 119
  go_enter Tryz.func98, Tryz.ntmps98
  go_wp2_with fail
  generalize (w.alloc (.cells #[.int .i64 cx, .int .i64 cy] 23)).alloc (.cells #[.int .i64 (hiW X), .int .u64 (loW X), .int .i64 (hiW Y), .int .u64 (loW Y), .int .i64 (hiW NX), .int .u64 (loW NX), .int .i64 (hiW NY), .int .u64 (loW NY), .int .i64 D] 119) = w0 at *
  have gP_0 := fun d os => cell_regrown (KP.out.c 0 _ rfl) d os
  have gP_1 := fun d os => cell_regrown (KP.out.c 1 _ rfl) d os
  have gS_0 := fun d os => cell_regrown (KS.out.c 0 _ rfl) d os
  have gS_1 := fun d os => cell_regrown (KS.out.c 1 _ rfl) d os
  have gS_2 := fun d os => cell_regrown (KS.out.c 2 _ rfl) d os
  have gS_3 := fun d os => cell_regrown (KS.out.c 3 _ rfl) d os
  have gS_4 := fun d os => cell_regrown (KS.out.c 4 _ rfl) d os
  have gS_5 := fun d os => cell_regrown (KS.out.c 5 _ rfl) d os
  have gS_6 := fun d os => cell_regrown (KS.out.c 6 _ rfl) d os
  have gS_7 := fun d os => cell_regrown (KS.out.c 7 _ rfl) d os
  have gS_8 := fun d os => cell_regrown (KS.out.c 8 _ rfl) d os
  have rv0 := Lib.hid (fun d os => Calls.regrown_of (AX.out (Go.Sort.grow (redrawn w0 d) os)))
  have rv1 := Lib.hid (fun d os => Calls.regrown_of (AY.out (Go.Sort.grow (redrawn w0 d) os)))
  have rv2 := Lib.hid (fun d os => Calls.regrown_of (PX.out (Go.Sort.grow (redrawn w0 d) os)))
  have rv3 := Lib.hid (fun d os => Calls.regrown_of (PY.out (Go.Sort.grow (redrawn w0 d) os)))
  have rv4 := Lib.hid (fun d os => Calls.regrown_of (SZ.out (Go.Sort.grow (redrawn w0 d) os)))
  refine wp_region_quiet_below (by kernel_rfl) (by kernel_rfl) ?_
  repeat (quiet_step (first | with_reducible exact rv0.out _ _ | with_reducible exact rv1.out _ _ | with_reducible exact rv2.out _ _ | with_reducible exact rv3.out _ _ | with_reducible exact rv4.out _ _))
  refine wpQuiet_nil ?_
  intro w1 hw1
  have hb1 : Below w0.heap.size w0 w1 := by
    obtain ⟨⟨dq, osq⟩, hw2⟩ := hw1
    rw [hw2]; exact below_regrown _ dq osq
  clear gP_0 gP_1 gS_0 gS_1 gS_2 gS_3 gS_4 gS_5 gS_6 gS_7 gS_8 rv0 rv1 rv2 rv3 rv4 hw1
  replace HB := hT HB hb1
  replace KP := hK KP hb1
  replace KS := hK KS hb1
  clear hb1
  go_wp2
  refine bodyPost_ret (v := .tuple #[.int .i64 q.1.1, .int .i64 q.1.2, .int .i64 q.2]) (by simp [results, Tryz.results98, go_sem]) rfl ⟨rfl, HB.out⟩
end Go.Proofs.YtajmjkliblippaaGreatDoor
namespace Go.Proofs.YtajmjkliblippaaGreatDoor
set_option linter.unusedVariables false
open Go.RowKit
theorem far9 {m b c : Nat} {W : World} (h : m ≤ c) (hb : b < m) {v0 v1 v2 v3 v4 v5 v6 v7 v8 : Value} (i : Nat) : (((((((((W.setCell ⟨c, 0, none⟩ v0).setCell ⟨c, 1, none⟩ v1).setCell ⟨c, 2, none⟩ v2).setCell ⟨c, 3, none⟩ v3).setCell ⟨c, 4, none⟩ v4).setCell ⟨c, 5, none⟩ v5).setCell ⟨c, 6, none⟩ v6).setCell ⟨c, 7, none⟩ v7).setCell ⟨c, 8, none⟩ v8).cell? ⟨b, i, none⟩ = W.cell? ⟨b, i, none⟩ :=
  have hne : c ≠ b := by omega
  (((((((((World.cell?_setCell_far _ _ _ _ hne).trans (World.cell?_setCell_far _ _ _ _ hne)).trans (World.cell?_setCell_far _ _ _ _ hne)).trans (World.cell?_setCell_far _ _ _ _ hne)).trans (World.cell?_setCell_far _ _ _ _ hne)).trans (World.cell?_setCell_far _ _ _ _ hne)).trans (World.cell?_setCell_far _ _ _ _ hne)).trans (World.cell?_setCell_far _ _ _ _ hne)).trans (World.cell?_setCell_far _ _ _ _ hne))
/-- a way out that is the normal one alone -/
def OnlyN (R : Act → World → Prop) : Exit → Act → World → Prop
  | .normal, a, w => R a w
  | _, _, _ => False
theorem OnlyN.mk {R : Act → World → Prop} {a : Act} {w : World} (h : R a w) : OnlyN R .normal a w := h
theorem OnlyN.imp {R : Act → World → Prop} {Q : Exit → Act → World → Prop} (k : ∀ a w, R a w → Q .normal a w) : ∀ (e : Exit) (a : Act) (w : World), OnlyN R e a w → Q e a w := fun e a w h => by
  cases e <;> first | exact k a w h | exact (h : False).elim
/-- all the ways through a region that draws its order, joined: their states are alike but for a block's number -/
theorem wp_join {P : Program} {c : Code} {Q : Exit → Act → World → Prop} {a : Act} {w : World} {F : Nat → Act} {R : Nat → World → Prop} (h : c.wp P (OnlyN fun a' w' => ∃ b, a' = F b ∧ R b w') a w) (k : ∀ b w', R b w' → Q .normal (F b) w') : c.wp P Q a w :=
  Code.wp_mono (OnlyN.imp fun a' w' ⟨b, ha, hr⟩ => by subst ha; exact k b w' hr) h
theorem wp_join0 {P : Program} {c : Code} {Q : Exit → Act → World → Prop} {a : Act} {w : World} {A : Act} {R : World → Prop} (h : c.wp P (OnlyN fun a' w' => a' = A ∧ R w') a w) (k : ∀ w', R w' → Q .normal A w') : c.wp P Q a w :=
  Code.wp_mono (OnlyN.imp fun a' w' ⟨ha, hr⟩ => by subst ha; exact k w' hr) h
theorem abs_anyZ (x : Int) (w : World) (h0 : -9223372036854775807 ≤ x) (h1 : x ≤ 9223372036854775807) :
    Calls Tryz.prog 86 #[.int .i64 x] w fun e w' => e = .returned (.int .i64 (absZ x)) ∧ Below w.heap.size w w' := regrown_drewN (B := 0) (w' := w) (abs_any x w h0 h1)
def nxF (l : List Ms) (m : Ms) : Int := m.w * absZ (nYY l * m.a - nXY l * m.b) * m.d
def nyF (l : List Ms) (m : Ms) : Int := m.w * absZ (nXX l * m.b - nXY l * m.a) * m.d
theorem noiX_is (l : List Ms) : noiX l = sumL (nxF l) l := rfl
theorem noiY_is (l : List Ms) : noiY l = sumL (nyF l) l := rfl
/-- one measurement of the noise along an axis -/
structure SvHalf (u v a b : Int) (m : Ms) (U U1 : Int) : Prop where
  s1 : IntKind.i64.wrap (u * a) = u * a
  s2 : IntKind.i64.wrap (v * b) = v * b
  s3 : IntKind.i64.wrap (u * a - v * b) = u * a - v * b
  s4 : IntKind.i64.wrap (m.w * absZ (u * a - v * b)) = m.w * absZ (u * a - v * b)
  ab : ∀ w, Calls Tryz.prog 86 #[.int .i64 (u * a - v * b)] w fun e w' => e = .returned (.int .i64 (absZ (u * a - v * b))) ∧ Below w.heap.size w w'
  mu : ∀ w, Calls Tryz.prog 145 #[.int .i64 (m.w * absZ (u * a - v * b)), .int .i64 m.d] w fun e w' => e = .returned (wv (m.w * absZ (u * a - v * b) * m.d)) ∧ Below w.heap.size w w'
  pl : ∀ w, Calls Tryz.prog 144 #[wv U, wv (m.w * absZ (u * a - v * b) * m.d)] w fun e w' => e = .returned (wv U1) ∧ Below w.heap.size w w'
theorem sv_half {m : Ms} (o : OkM m) {u v a b U U1 : Int} (hu0 : -16777216 ≤ u) (hu : u ≤ 16777216) (hv0 : -16777216 ≤ v) (hv : v ≤ 16777216) (ha0 : -256 ≤ a) (ha : a ≤ 256) (hb0 : -256 ≤ b) (hb : b ≤ 256)
    (hU0 : 0 ≤ U) (hU : U ≤ 9444732965739290427392) (e : U1 = U + m.w * absZ (u * a - v * b) * m.d) : SvHalf u v a b m U U1 := by
  obtain ⟨t0, t1, t2, t3, t4, t5⟩ := noi_term o hu0 hu hv0 hv ha0 ha hb0 hb
  have p1 := mulb (X := 16777216) (Y := 256) (by omega) hu0 hu ha0 ha
  have p2 := mulb (X := 16777216) (Y := 256) (by omega) hv0 hv hb0 hb
  have d0 := o.d0
  have d1 := o.d1
  refine ⟨IntWalk.i64_in _ (by omega), IntWalk.i64_in _ (by omega), IntWalk.i64_in _ (by omega), IntWalk.i64_in _ (by omega), fun w => abs_anyZ _ w (by omega) (by omega), fun w => wmul_any _ _ w (by omega) (by omega) (by omega) (by omega), fun w => ?_⟩
  rw [e]
  exact plus_any _ _ w ⟨by omega, by omega⟩ ⟨by omega, by omega⟩ ⟨by omega, by omega⟩
theorem noi_part {l : List Ms} (h : OkL l) (k : Nat) : (0 ≤ sumL (nxF l) (l.take k) ∧ sumL (nxF l) (l.take k) ≤ 9444732965739290427392) ∧ 0 ≤ sumL (nyF l) (l.take k) ∧ sumL (nyF l) (l.take k) ≤ 9444732965739290427392 := by
  obtain ⟨⟨a0, a1⟩, ⟨b0, b1⟩, ⟨c0, c1⟩, _, _⟩ := nrm_bd h
  have o := h.take k
  have f1 : ∀ m ∈ l.take k, 0 ≤ nxF l m ∧ nxF l m ≤ 590295810358705651712 := fun m hm => by
    have q := o.ok m hm
    obtain ⟨_, _, _, _, t4, t5⟩ := noi_term q c0 c1 b0 b1 q.a0 q.a1 q.b0 q.b1
    exact ⟨t4, t5⟩
  have f2 : ∀ m ∈ l.take k, 0 ≤ nyF l m ∧ nyF l m ≤ 590295810358705651712 := fun m hm => by
    have q := o.ok m hm
    obtain ⟨_, _, _, _, t4, t5⟩ := noi_term q a0 a1 b0 b1 q.b0 q.b1 q.a0 q.a1
    exact ⟨t4, t5⟩
  have s1 := o.sum (nxF l) 590295810358705651712 (by omega) fun m hm => by have := f1 m hm; omega
  have s2 := o.sum (nyF l) 590295810358705651712 (by omega) fun m hm => by have := f2 m hm; omega
  have n1 := sum_nonneg (nxF l) (l.take k) fun m hm => (f1 m hm).1
  have n2 := sum_nonneg (nyF l) (l.take k) fun m hm => (f2 m hm).1
  omega
theorem noi_bd {l : List Ms} (h : OkL l) : (0 ≤ noiX l ∧ noiX l ≤ 9444732965739290427392) ∧ 0 ≤ noiY l ∧ noiY l ≤ 9444732965739290427392 := by
  have := noi_part h l.length
  rw [List.take_length] at this
  exact this
theorem sv_step {l : List Ms} (h : OkL l) {k : Nat} (q : k < l.length) :
    SvHalf (nYY l) (nXY l) (nth l k).a (nth l k).b (nth l k) (sumL (nxF l) (l.take k)) (sumL (nxF l) (l.take (k + 1))) ∧ SvHalf (nXX l) (nXY l) (nth l k).b (nth l k).a (nth l k) (sumL (nyF l) (l.take k)) (sumL (nyF l) (l.take (k + 1))) := by
  obtain ⟨⟨a0, a1⟩, ⟨b0, b1⟩, ⟨c0, c1⟩, _, _⟩ := nrm_bd h
  have o := h.ok _ (nth_mem q)
  have N := noi_part h k
  exact ⟨sv_half o c0 c1 b0 b1 o.a0 o.a1 o.b0 o.b1 N.1.1 N.1.2 (sum_take _ q), sv_half o a0 a1 b0 b1 o.b0 o.b1 o.a0 o.a1 N.2.1 N.2.2 (sum_take _ q)⟩
def SvR (l : List Ms) (p : Option Addr) (cap : Nat) (w : World) (bn bs : Nat) (u : Value) (wr : World) : Prop := ∃ k : Nat, u = .int .i64 k ∧ k ≤ l.length ∧ Hid (Below w.heap.size w wr) ∧ Hid (Blk [.int .i64 (nXX l), .int .i64 (nXY l), .int .i64 (nYY l), .int .i64 (nXZ l), .int .i64 (nYZ l)] bn wr) ∧ Hid (Blk [.int .i64 (hiW (solX l)), .int .u64 (loW (solX l)), .int .i64 (hiW (solY l)), .int .u64 (loW (solY l)), .int .i64 (hiW (sumL (nxF l) (l.take k))), .int .u64 (loW (sumL (nxF l) (l.take k))), .int .i64 (hiW (sumL (nyF l) (l.take k))), .int .u64 (loW (sumL (nyF l) (l.take k))), .int .i64 ((detN l))] bs wr) ∧ Hid (Blk [.int .i64 0, .int .u64 0, .int .i64 0, .int .u64 0, .int .i64 0, .int .u64 0, .int .i64 0, .int .u64 0, .int .i64 0] w.heap.size wr)
set_option maxHeartbeats 40000000 in
set_option maxRecDepth 100000 in
theorem solve_any (l : List Ms) (v : Value) (w : World) (h : LstAt l v w) (hc : chkL l = 0) :
    Calls Tryz.prog 97 #[v] w fun e w' => e = .returned (.agg #[.int .i64 (hiW (solX l)), .int .u64 (loW (solX l)), .int .i64 (hiW (solY l)), .int .u64 (loW (solY l)), .int .i64 (hiW (noiX l)), .int .u64 (loW (noiX l)), .int .i64 (hiW (noiY l)), .int .u64 (loW (noiY l)), .int .i64 ((detN l))]) ∧ Below w.heap.size w w' := by
  obtain ⟨p, cap, rfl⟩ := lst_form h
  have OL := Lib.hid (okL_of hc)
  obtain ⟨⟨a0, a1⟩, ⟨b0, b1⟩, ⟨c0, c1⟩, ⟨d0, d1⟩, ⟨e0, e1⟩⟩ := nrm_bd OL.out
  obtain ⟨⟨dt0, dt1⟩, ⟨sx0, sx1⟩, ⟨sy0, sy1⟩⟩ := sol_bd (nrm_bd OL.out)
  have NO := Lib.hid fun w h => normal_any l (.slice p l.length cap) w h hc
  have P1 := mulb (X := 16777216) (Y := 16777216) (by omega) a0 a1 c0 c1
  have P2 := mulb (X := 16777216) (Y := 16777216) (by omega) b0 b1 b0 b1
  have LX := Lib.hid fun w => integrity_less (nYY l) (nXZ l) (nXY l) (nYZ l) w ⟨by omega, by omega⟩ ⟨by omega, by omega⟩ ⟨by omega, by omega⟩ ⟨by omega, by omega⟩ (show FitW (solX l) from ⟨by omega, by omega⟩)
  have LY := Lib.hid fun w => integrity_less (nXX l) (nYZ l) (nXY l) (nXZ l) w ⟨by omega, by omega⟩ ⟨by omega, by omega⟩ ⟨by omega, by omega⟩ ⟨by omega, by omega⟩ (show FitW (solY l) from ⟨by omega, by omega⟩)
  have q1 : IntKind.i64.wrap (nXX l * nYY l) = nXX l * nYY l := IntWalk.i64_in _ (by omega)
  have q2 : IntKind.i64.wrap (nXY l * nXY l) = nXY l * nXY l := IntWalk.i64_in _ (by omega)
  have q3 : IntKind.i64.wrap (nXX l * nYY l - nXY l * nXY l) = detN l := IntWalk.i64_in _ (by unfold detN at dt0 dt1; omega)
  have HX : Hid (solX l = nYY l * nXZ l - nXY l * nYZ l) := Lib.hid rfl
  have HY : Hid (solY l = nXX l * nYZ l - nXY l * nXZ l) := Lib.hid rfl
  rw [← HX.out] at LX
  rw [← HY.out] at LY
  clear hc a0 a1 b0 b1 c0 c1 d0 d1 e0 e1 dt0 dt1 sx0 sx1 sy0 sy1 P1 P2 HX HY
  obtain ⟨A, EA⟩ : ∃ x, nXX l = x := ⟨_, rfl⟩
  obtain ⟨B, EB⟩ : ∃ x, nXY l = x := ⟨_, rfl⟩
  obtain ⟨C, EC⟩ : ∃ x, nYY l = x := ⟨_, rfl⟩
  obtain ⟨D, ED⟩ : ∃ x, nXZ l = x := ⟨_, rfl⟩
  obtain ⟨E, EE⟩ : ∃ x, nYZ l = x := ⟨_, rfl⟩
  obtain ⟨X, EX⟩ : ∃ x, solX l = x := ⟨_, rfl⟩
  obtain ⟨Y, EY⟩ : ∃ x, solY l = x := ⟨_, rfl⟩
  obtain ⟨T, ET⟩ : ∃ x, detN l = x := ⟨_, rfl⟩
  rw [EA, EB, EC, ED, EE] at NO
  rw [EC, ED, EB, EE, EX] at LX
  rw [EA, EE, EB, ED, EY] at LY
  rw [EA, EC] at q1
  rw [EB] at q2
  rw [EA, EB, EC, ET] at q3
  have HA := Lib.hid EA
  have HBB := Lib.hid EB
  have HC := Lib.hid EC
  have HD := Lib.hid ED
  have HE := Lib.hid EE
  have HX := Lib.hid EX
  have HY := Lib.hid EY
  have HT := Lib.hid ET
  clear EA EB EC ED EE EX EY ET
  unfold wv at LX LY
  have H0 := Lib.hid h
  obtain ⟨KZ, HB⟩ := ent1 w #[.int .i64 0, .int .u64 0, .int .i64 0, .int .u64 0, .int .i64 0, .int .u64 0, .int .i64 0, .int .u64 0, .int .i64 0] 119
  go_enter Tryz.func97, Tryz.ntmps97
  clear h
  go_wp2_with fail
  generalize w.alloc (.cells #[.int .i64 0, .int .u64 0, .int .i64 0, .int .u64 0, .int .i64 0, .int .u64 0, .int .i64 0, .int .u64 0, .int .i64 0] 119) = w0 at *
  refine (NO.out _ (H0.out.below HB.out)).mono ?_
  rintro e1 w1 ⟨rfl, hb1⟩
  replace HB := hT HB hb1
  replace KZ := hK KZ hb1
  clear hb1
  go_wp2_with fail
  obtain ⟨KN, hb2⟩ := alB w1 #[.int .i64 A, .int .i64 B, .int .i64 C, .int .i64 D, .int .i64 E] 160
  have hnN := HB.out.size
  have nzN_Z := KZ.out.lt
  replace HB := hT HB hb2
  replace KZ := hK KZ hb2
  clear hb2
  generalize w1.alloc (.cells #[.int .i64 A, .int .i64 B, .int .i64 C, .int .i64 D, .int .i64 E] 160) = w2 at *
  generalize w1.heap.size = bN at *
  have neN_Z : bN ≠ w.heap.size := by omega
  clear nzN_Z
  have BD := Lib.hid (show Below w2.heap.size w2 w2.drew from ⟨rfl, rfl, rfl, Nat.le_refl _, fun _ _ => rfl⟩)
  have BD2 := Lib.hid (below_drew_alloc w2 (.cells #[.int .i64 0, .int .u64 0, .int .i64 0, .int .u64 0, .int .i64 0, .int .u64 0, .int .i64 0, .int .u64 0, .int .i64 0] 119))
  have DLX := Lib.hid fun W (h : Below w2.heap.size w2 W) => (LX.out W).mono fun e w' ⟨h1, h2⟩ => show _ ∧ Below w2.heap.size w2 w' ∧ Below W.heap.size W w' from ⟨h1, h.trans (h2.mono h.size), h2⟩
  have DLY := Lib.hid fun W (h : Below w2.heap.size w2 W) => (LY.out W).mono fun e w' ⟨h1, h2⟩ => show _ ∧ Below w2.heap.size w2 w' ∧ Below W.heap.size W w' from ⟨h1, h.trans (h2.mono h.size), h2⟩
  obtain ⟨yN_0, yN_1, yN_2, yN_3, yN_4, yN_z⟩ := blk5 KN
  apply wp_join (R := fun b w' => w.heap.size ≤ b ∧ b ≠ w.heap.size ∧ b ≠ bN ∧ Hid (Below w.heap.size w w') ∧ Hid (Blk [.int .i64 (hiW X), .int .u64 (loW X), .int .i64 (hiW Y), .int .u64 (loW Y), .int .i64 0, .int .u64 0, .int .i64 0, .int .u64 0, .int .i64 T] b w') ∧ Hid (Blk [.int .i64 0, .int .u64 0, .int .i64 0, .int .u64 0, .int .i64 0, .int .u64 0, .int .i64 0, .int .u64 0, .int .i64 0] w.heap.size w') ∧ Hid (Blk [.int .i64 A, .int .i64 B, .int .i64 C, .int .i64 D, .int .i64 E] bN w'))
  · go_region_held3 (fun w' => w'.cell? ⟨bN, 0, none⟩ = some (.int .i64 A) ∧ w'.cell? ⟨bN, 1, none⟩ = some (.int .i64 B) ∧ w'.cell? ⟨bN, 2, none⟩ = some (.int .i64 C) ∧ w'.cell? ⟨bN, 3, none⟩ = some (.int .i64 D) ∧ w'.cell? ⟨bN, 4, none⟩ = some (.int .i64 E)) (first | (refine ⟨?_, ?_, ?_, ?_, ?_⟩ <;> first | with_reducible assumption | (rw [far9 KV.out.1 yN_z]; with_reducible assumption)) | go_keep)
      (first
        | (go_at_call 143; with_reducible refine Calls.mono (DLX.out _ (by first | with_reducible exact BD.out | with_reducible exact BD2.out | with_reducible exact HX.out | with_reducible exact HX.out.alloc HX.out.size _)) ?_; rintro e9 w9 ⟨rfl, hb9, hc9⟩; have pN := KN.out.below hb9; have qN0 := pN.c 0 _ rfl; have qN1 := pN.c 1 _ rfl; have qN2 := pN.c 2 _ rfl; have qN3 := pN.c 3 _ rfl; have qN4 := pN.c 4 _ rfl; clear pN; (first | (with_reducible have KV := Lib.hid (kv_drew (vs := #[.int .i64 0, .int .u64 0, .int .i64 0, .int .u64 0, .int .i64 0, .int .u64 0, .int .i64 0, .int .u64 0, .int .i64 0]) (t := 119) hc9); have pV := KV.out.2; have v0 := pV.c 0 _ rfl; have vf0 := pV.f 0 _ rfl; have v1 := pV.c 1 _ rfl; have vf1 := pV.f 1 _ rfl; have v2 := pV.c 2 _ rfl; have vf2 := pV.f 2 _ rfl; have v3 := pV.c 3 _ rfl; have vf3 := pV.f 3 _ rfl; have v4 := pV.c 4 _ rfl; have vf4 := pV.f 4 _ rfl; have v5 := pV.c 5 _ rfl; have vf5 := pV.f 5 _ rfl; have v6 := pV.c 6 _ rfl; have vf6 := pV.f 6 _ rfl; have v7 := pV.c 7 _ rfl; have vf7 := pV.f 7 _ rfl; have v8 := pV.c 8 _ rfl; have vf8 := pV.f 8 _ rfl; have v9 := pV.lt; clear pV) | (with_reducible have KV := Lib.hid (kv_new (vs := #[.int .i64 0, .int .u64 0, .int .i64 0, .int .u64 0, .int .i64 0, .int .u64 0, .int .i64 0, .int .u64 0, .int .i64 0]) (t := 119) HX.out hc9); have pV := KV.out.2; have v0 := pV.c 0 _ rfl; have vf0 := pV.f 0 _ rfl; have v1 := pV.c 1 _ rfl; have vf1 := pV.f 1 _ rfl; have v2 := pV.c 2 _ rfl; have vf2 := pV.f 2 _ rfl; have v3 := pV.c 3 _ rfl; have vf3 := pV.f 3 _ rfl; have v4 := pV.c 4 _ rfl; have vf4 := pV.f 4 _ rfl; have v5 := pV.c 5 _ rfl; have vf5 := pV.f 5 _ rfl; have v6 := pV.c 6 _ rfl; have vf6 := pV.f 6 _ rfl; have v7 := pV.c 7 _ rfl; have vf7 := pV.f 7 _ rfl; have v8 := pV.c 8 _ rfl; have vf8 := pV.f 8 _ rfl; have v9 := pV.lt; clear pV) | (with_reducible have KV := Lib.hid (kv_old KV.out hc9); have pV := KV.out.2; have v0 := pV.c 0 _ rfl; have vf0 := pV.f 0 _ rfl; have v1 := pV.c 1 _ rfl; have vf1 := pV.f 1 _ rfl; have v2 := pV.c 2 _ rfl; have vf2 := pV.f 2 _ rfl; have v3 := pV.c 3 _ rfl; have vf3 := pV.f 3 _ rfl; have v4 := pV.c 4 _ rfl; have vf4 := pV.f 4 _ rfl; have v5 := pV.c 5 _ rfl; have vf5 := pV.f 5 _ rfl; have v6 := pV.c 6 _ rfl; have vf6 := pV.f 6 _ rfl; have v7 := pV.c 7 _ rfl; have vf7 := pV.f 7 _ rfl; have v8 := pV.c 8 _ rfl; have vf8 := pV.f 8 _ rfl; have v9 := pV.lt; clear pV) | skip); have HX := Lib.hid hb9; clear hb9 hc9)
        | (go_at_call 143; with_reducible refine Calls.mono (DLY.out _ (by first | with_reducible exact BD.out | with_reducible exact BD2.out | with_reducible exact HX.out | with_reducible exact HX.out.alloc HX.out.size _)) ?_; rintro e9 w9 ⟨rfl, hb9, hc9⟩; have pN := KN.out.below hb9; have qN0 := pN.c 0 _ rfl; have qN1 := pN.c 1 _ rfl; have qN2 := pN.c 2 _ rfl; have qN3 := pN.c 3 _ rfl; have qN4 := pN.c 4 _ rfl; clear pN; (first | (with_reducible have KV := Lib.hid (kv_drew (vs := #[.int .i64 0, .int .u64 0, .int .i64 0, .int .u64 0, .int .i64 0, .int .u64 0, .int .i64 0, .int .u64 0, .int .i64 0]) (t := 119) hc9); have pV := KV.out.2; have v0 := pV.c 0 _ rfl; have vf0 := pV.f 0 _ rfl; have v1 := pV.c 1 _ rfl; have vf1 := pV.f 1 _ rfl; have v2 := pV.c 2 _ rfl; have vf2 := pV.f 2 _ rfl; have v3 := pV.c 3 _ rfl; have vf3 := pV.f 3 _ rfl; have v4 := pV.c 4 _ rfl; have vf4 := pV.f 4 _ rfl; have v5 := pV.c 5 _ rfl; have vf5 := pV.f 5 _ rfl; have v6 := pV.c 6 _ rfl; have vf6 := pV.f 6 _ rfl; have v7 := pV.c 7 _ rfl; have vf7 := pV.f 7 _ rfl; have v8 := pV.c 8 _ rfl; have vf8 := pV.f 8 _ rfl; have v9 := pV.lt; clear pV) | (with_reducible have KV := Lib.hid (kv_new (vs := #[.int .i64 0, .int .u64 0, .int .i64 0, .int .u64 0, .int .i64 0, .int .u64 0, .int .i64 0, .int .u64 0, .int .i64 0]) (t := 119) HX.out hc9); have pV := KV.out.2; have v0 := pV.c 0 _ rfl; have vf0 := pV.f 0 _ rfl; have v1 := pV.c 1 _ rfl; have vf1 := pV.f 1 _ rfl; have v2 := pV.c 2 _ rfl; have vf2 := pV.f 2 _ rfl; have v3 := pV.c 3 _ rfl; have vf3 := pV.f 3 _ rfl; have v4 := pV.c 4 _ rfl; have vf4 := pV.f 4 _ rfl; have v5 := pV.c 5 _ rfl; have vf5 := pV.f 5 _ rfl; have v6 := pV.c 6 _ rfl; have vf6 := pV.f 6 _ rfl; have v7 := pV.c 7 _ rfl; have vf7 := pV.f 7 _ rfl; have v8 := pV.c 8 _ rfl; have vf8 := pV.f 8 _ rfl; have v9 := pV.lt; clear pV) | (with_reducible have KV := Lib.hid (kv_old KV.out hc9); have pV := KV.out.2; have v0 := pV.c 0 _ rfl; have vf0 := pV.f 0 _ rfl; have v1 := pV.c 1 _ rfl; have vf1 := pV.f 1 _ rfl; have v2 := pV.c 2 _ rfl; have vf2 := pV.f 2 _ rfl; have v3 := pV.c 3 _ rfl; have vf3 := pV.f 3 _ rfl; have v4 := pV.c 4 _ rfl; have vf4 := pV.f 4 _ rfl; have v5 := pV.c 5 _ rfl; have vf5 := pV.f 5 _ rfl; have v6 := pV.c 6 _ rfl; have vf6 := pV.f 6 _ rfl; have v7 := pV.c 7 _ rfl; have vf7 := pV.f 7 _ rfl; have v8 := pV.c 8 _ rfl; have vf8 := pV.f 8 _ rfl; have v9 := pV.lt; clear pV) | skip); have HX := Lib.hid hb9; clear hb9 hc9))
    all_goals
      first
        | (have FN := kv_set9 (.int .i64 (hiW X)) (.int .u64 (loW X)) (.int .i64 (hiW Y)) (.int .u64 (loW Y)) (.int .i64 0) (.int .u64 0) (.int .i64 0) (.int .u64 0) (.int .i64 T) KV.out HX.out; have FB := Lib.hid FN.1; have KS := Lib.hid FN.2.1; have n0S := FN.2.2; clear FN; generalize World.setCell (World.setCell (World.setCell (World.setCell (World.setCell (World.setCell (World.setCell (World.setCell (World.setCell _ _ (.int .i64 (hiW X))) _ (.int .u64 (loW X))) _ (.int .i64 (hiW Y))) _ (.int .u64 (loW Y))) _ (.int .i64 0)) _ (.int .u64 0)) _ (.int .i64 0)) _ (.int .u64 0)) _ (.int .i64 T) = w3 at *)
        | (have FN := kv_putn (vs := #[.int .i64 (hiW X), .int .u64 (loW X), .int .i64 (hiW Y), .int .u64 (loW Y), .int .i64 0, .int .u64 0, .int .i64 0, .int .u64 0, .int .i64 T]) (t := 119) HX.out; have FB := Lib.hid FN.1; have KS := Lib.hid FN.2.1; have n0S := FN.2.2; clear FN; generalize (World.alloc _ (.cells #[.int .i64 (hiW X), .int .u64 (loW X), .int .i64 (hiW Y), .int .u64 (loW Y), .int .i64 0, .int .u64 0, .int .i64 0, .int .u64 0, .int .i64 T] 119)) = w3 at *)
      have nS := Nat.le_trans HB.out.size n0S
      have neS_Z := Nat.ne_of_gt (Nat.lt_of_lt_of_le KZ.out.lt n0S)
      have neS_N := Nat.ne_of_gt (Nat.lt_of_lt_of_le KN.out.lt n0S)
      replace HB := Lib.hid (HB.out.trans (FB.out.mono HB.out.size))
      replace KZ := Lib.hid (KZ.out.below FB.out)
      replace KN := Lib.hid (KN.out.below FB.out)
      obtain ⟨bS, hbS⟩ := ex_blk KS
      rw [← hbS] at KS nS neS_Z neS_N ⊢
      refine OnlyN.mk ⟨bS, rfl, ?_⟩
      with_reducible exact ⟨nS, neS_Z, neS_N, HB, KS, KZ, KN⟩
  clear BD BD2 DLX DLY yN_0 yN_1 yN_2 yN_3 yN_4 yN_z
  rintro bS w3 ⟨nS, neS_Z, neS_N, HB2, KS, KZ2, KN2⟩
  replace HB := HB2
  clear HB2
  replace KZ := KZ2
  clear KZ2
  replace KN := KN2
  clear KN2
  go_wp2
  go_loopw [47] (SvR l p cap w bN bS) (fun i _ => l.length - (intOf i).toNat)
  case atStart => exact ⟨0, rfl, Nat.zero_le _, HB, by rw [HA.out, HBB.out, HC.out, HD.out, HE.out]; exact KN, by rw [List.take_zero, HX.out, HY.out, HT.out]; exact KS, KZ⟩
  case round =>
    clear HB KN KS KZ
    obtain ⟨k, rfl, hk, HB, KN, KS, KZ⟩ := hrel
    rw [HA.out, HBB.out, HC.out, HD.out, HE.out] at KN
    rw [HX.out, HY.out, HT.out] at KS
    by_cases q : k < l.length
    · have q' : decide (k < l.length) = true := by simpa using q
      obtain ⟨b, o, rfl, hcap, hmax, MM⟩ := lst_at (H0.out.below HB.out) q
      have c0 := MM.c0 k q
      have c1 := MM.c1 k q
      have c2 := MM.c2 k q
      have c3 := MM.c3 k q
      have c4 := MM.c4 k q
      have c5 := MM.c5 k q
      have clt := MM.lt
      obtain ⟨S1, S2⟩ := sv_step OL.out q
      clear MM
      rw [HC.out, HBB.out] at S1
      rw [HA.out, HBB.out] at S2
      generalize nth l k = m at *
      generalize sumL (nxF l) (l.take k) = U at *
      generalize sumL (nyF l) (l.take k) = V at *
      obtain ⟨U1, EU⟩ : ∃ x, sumL (nxF l) (l.take (k + 1)) = x := ⟨_, rfl⟩
      obtain ⟨V1, EV⟩ : ∃ x, sumL (nyF l) (l.take (k + 1)) = x := ⟨_, rfl⟩
      rw [EU] at S1
      rw [EV] at S2
      have HU := Lib.hid EU
      have HV := Lib.hid EV
      obtain ⟨s1, s2, s3, s4, ab1, mu1, pl1⟩ := S1
      obtain ⟨t1, t2, t3, t4, ab2, mu2, pl2⟩ := S2
      clear EU EV
      unfold wv at mu1 pl1 mu2 pl2
      have AB1 := Lib.hid ab1
      have MU1 := Lib.hid mu1
      have PL1 := Lib.hid pl1
      have AB2 := Lib.hid ab2
      have MU2 := Lib.hid mu2
      have PL2 := Lib.hid pl2
      clear ab1 mu1 pl1 ab2 mu2 pl2
      generalize m.w * absZ (C * m.a - B * m.b) * m.d = p1 at *
      generalize m.w * absZ (A * m.b - B * m.a) * m.d = p2 at *
      go_wp2_with fail
      obtain ⟨KC, hb51⟩ := alB wr #[.int .i64 m.s, .int .i64 m.a, .int .i64 m.b, .int .i64 m.z, .int .i64 m.d, .int .i64 m.w] 71
      have hnC := HB.out.size
      have nzC_Z := KZ.out.lt
      have nzC_N := KN.out.lt
      have nzC_S := KS.out.lt
      replace HB := hT HB hb51
      replace KZ := hK KZ hb51
      replace KN := hK KN hb51
      replace KS := hK KS hb51
      clear hb51
      generalize wr.alloc (.cells #[.int .i64 m.s, .int .i64 m.a, .int .i64 m.b, .int .i64 m.z, .int .i64 m.d, .int .i64 m.w] 71) = w51 at *
      generalize wr.heap.size = bC at *
      have neC_Z : bC ≠ w.heap.size := by omega
      have neC_N : bC ≠ bN := by omega
      have neC_S : bC ≠ bS := by omega
      clear nzC_Z nzC_N nzC_S
      clear c0 c1 c2 c3 c4 c5 clt
      have gC_5 := fun d os => cell_regrown (KC.out.c 5 _ rfl) d os
      have gC_1 := fun d os => cell_regrown (KC.out.c 1 _ rfl) d os
      have gC_2 := fun d os => cell_regrown (KC.out.c 2 _ rfl) d os
      have gN_2 := fun d os => cell_regrown (KN.out.c 2 _ rfl) d os
      have gN_1 := fun d os => cell_regrown (KN.out.c 1 _ rfl) d os
      have rv0 := Lib.hid (fun d os => Calls.regrown_of (AB1.out (Go.Sort.grow (redrawn w51 d) os)))
      refine wp_region_quiet_below (by kernel_rfl) (by kernel_rfl) ?_
      repeat (quiet_step (first | with_reducible exact rv0.out _ _))
      refine wpQuiet_nil ?_
      intro w52 hw52
      have hb52 : Below w51.heap.size w51 w52 := by
        obtain ⟨⟨dq, osq⟩, hw2⟩ := hw52
        rw [hw2]; exact below_regrown _ dq osq
      clear gC_5 gC_1 gC_2 gN_2 gN_1 rv0 hw52
      replace HB := hT HB hb52
      replace KZ := hK KZ hb52
      replace KN := hK KN hb52
      replace KS := hK KS hb52
      replace KC := hK KC hb52
      clear hb52
      clear s1 s2 s3 AB1
      generalize absZ (C * m.a - B * m.b) = x1 at *
      go_wp2_with fail
      have gC_5 := fun d os => cell_regrown (KC.out.c 5 _ rfl) d os
      have gC_1 := fun d os => cell_regrown (KC.out.c 1 _ rfl) d os
      have gC_2 := fun d os => cell_regrown (KC.out.c 2 _ rfl) d os
      have gN_0 := fun d os => cell_regrown (KN.out.c 0 _ rfl) d os
      have gN_1 := fun d os => cell_regrown (KN.out.c 1 _ rfl) d os
      have rv0 := Lib.hid (fun d os => Calls.regrown_of (AB2.out (Go.Sort.grow (redrawn w52 d) os)))
      refine wp_region_quiet_below (by kernel_rfl) (by kernel_rfl) ?_
      repeat (quiet_step (first | with_reducible exact rv0.out _ _))
      refine wpQuiet_nil ?_
      intro w53 hw53
      have hb53 : Below w52.heap.size w52 w53 := by
        obtain ⟨⟨dq, osq⟩, hw2⟩ := hw53
        rw [hw2]; exact below_regrown _ dq osq
      clear gC_5 gC_1 gC_2 gN_0 gN_1 rv0 hw53
      replace HB := hT HB hb53
      replace KZ := hK KZ hb53
      replace KN := hK KN hb53
      replace KS := hK KS hb53
      replace KC := hK KC hb53
      clear hb53
      clear t1 t2 t3 AB2
      generalize absZ (A * m.b - B * m.a) = x2 at *
      generalize m.w * x1 = g1 at *
      generalize m.w * x2 = g2 at *
      go_wp2_with fail
      apply wp_join0 (R := fun w' => Hid (Below w.heap.size w w') ∧ Hid (Blk [.int .i64 0, .int .u64 0, .int .i64 0, .int .u64 0, .int .i64 0, .int .u64 0, .int .i64 0, .int .u64 0, .int .i64 0] w.heap.size w') ∧ Hid (Blk [.int .i64 A, .int .i64 B, .int .i64 C, .int .i64 D, .int .i64 E] bN w') ∧ Hid (Blk [.int .i64 (hiW X), .int .u64 (loW X), .int .i64 (hiW Y), .int .u64 (loW Y), .int .i64 (hiW U1), .int .u64 (loW U1), .int .i64 (hiW V), .int .u64 (loW V), .int .i64 T] bS w') ∧ Hid (Blk [.int .i64 m.s, .int .i64 m.a, .int .i64 m.b, .int .i64 m.z, .int .i64 m.d, .int .i64 m.w] bC w'))
      · have HB0 := Lib.hid (below_drew1 HB.out)
        have KZ0 := Lib.hid (blk_drew1 KZ.out)
        have KN0 := Lib.hid (blk_drew1 KN.out)
        have KS0 := Lib.hid (blk_drew1 KS.out)
        have KC0 := Lib.hid (blk_drew1 KC.out)
        have p0S := KS0.out
        have q0S_4 := p0S.c 4 _ rfl
        have q0S_5 := p0S.c 5 _ rfl
        have r0S_4 := p0S.f 4 _ rfl
        have r0S_5 := p0S.f 5 _ rfl
        have z0S := p0S.lt
        clear p0S
        have p0C := KC0.out
        have q0C_4 := p0C.c 4 _ rfl
        have z0C := p0C.lt
        clear p0C
        go_region_with (first
          | ((try go_simp); go_at_call 145; (refine (MU1.out _).mono ?_); rintro e1 v1 ⟨rfl, hb1⟩; have HB1 := Lib.hid (HB0.out.trans (hb1.mono HB0.out.size)); have KZ1 := Lib.hid (KZ0.out.below hb1); have KN1 := Lib.hid (KN0.out.below hb1); have KS1 := Lib.hid (KS0.out.below hb1); have KC1 := Lib.hid (KC0.out.below hb1); have p1S := KS1.out; have q1S_4 := p1S.c 4 _ rfl; have q1S_5 := p1S.c 5 _ rfl; have r1S_4 := p1S.f 4 _ rfl; have r1S_5 := p1S.f 5 _ rfl; have z1S := p1S.lt; clear p1S; have p1C := KC1.out; have q1C_4 := p1C.c 4 _ rfl; have z1C := p1C.lt; clear p1C; clear hb1)
          | ((try go_simp); go_at_call 144; (refine (PL1.out _).mono ?_); rintro e2 v2 ⟨rfl, hb2⟩; have HB2 := Lib.hid (HB1.out.trans (hb2.mono HB1.out.size)); have KZ2 := Lib.hid (KZ1.out.below hb2); have KN2 := Lib.hid (KN1.out.below hb2); have KS2 := Lib.hid (KS1.out.below hb2); have KC2 := Lib.hid (KC1.out.below hb2); have p2S := KS2.out; have q2S_4 := p2S.c 4 _ rfl; have q2S_5 := p2S.c 5 _ rfl; have r2S_4 := p2S.f 4 _ rfl; have r2S_5 := p2S.f 5 _ rfl; have z2S := p2S.lt; clear p2S; have p2C := KC2.out; have q2C_4 := p2C.c 4 _ rfl; have z2C := p2C.lt; clear p2C; clear hb2))
        all_goals
          refine OnlyN.mk ⟨rfl, ?_⟩
          exact ⟨Lib.hid ((HB2.out.setCell (p := ⟨bS, 4, none⟩) (show w.heap.size ≤ bS by omega) (.int .i64 (hiW U1))).setCell (p := ⟨bS, 5, none⟩) (show w.heap.size ≤ bS by omega) (.int .u64 (loW U1))), Lib.hid (blk_other (b := w.heap.size) (n := bS) (j := 5) (blk_other (b := w.heap.size) (n := bS) (j := 4) KZ2.out (by omega) (.int .i64 (hiW U1))) (by omega) (.int .u64 (loW U1))), Lib.hid (blk_other (b := bN) (n := bS) (j := 5) (blk_other (b := bN) (n := bS) (j := 4) KN2.out (by omega) (.int .i64 (hiW U1))) (by omega) (.int .u64 (loW U1))), Lib.hid (blk_set (blk_set KS2.out (j := 4) (by simp) (.int .i64 (hiW U1))) (j := 5) (by simp) (.int .u64 (loW U1))), Lib.hid (blk_other (b := bC) (n := bS) (j := 5) (blk_other (b := bC) (n := bS) (j := 4) KC2.out (by omega) (.int .i64 (hiW U1))) (by omega) (.int .u64 (loW U1)))⟩
      rintro w54 ⟨HB2, KZ2, KN2, KS2, KC2⟩
      replace HB := HB2
      clear HB2
      replace KZ := KZ2
      clear KZ2
      replace KN := KN2
      clear KN2
      replace KS := KS2
      clear KS2
      replace KC := KC2
      clear KC2
      go_wp2_with fail
      apply wp_join0 (R := fun w' => Hid (Below w.heap.size w w') ∧ Hid (Blk [.int .i64 0, .int .u64 0, .int .i64 0, .int .u64 0, .int .i64 0, .int .u64 0, .int .i64 0, .int .u64 0, .int .i64 0] w.heap.size w') ∧ Hid (Blk [.int .i64 A, .int .i64 B, .int .i64 C, .int .i64 D, .int .i64 E] bN w') ∧ Hid (Blk [.int .i64 (hiW X), .int .u64 (loW X), .int .i64 (hiW Y), .int .u64 (loW Y), .int .i64 (hiW U1), .int .u64 (loW U1), .int .i64 (hiW V1), .int .u64 (loW V1), .int .i64 T] bS w') ∧ Hid (Blk [.int .i64 m.s, .int .i64 m.a, .int .i64 m.b, .int .i64 m.z, .int .i64 m.d, .int .i64 m.w] bC w'))
      · have HB0 := Lib.hid (below_drew1 HB.out)
        have KZ0 := Lib.hid (blk_drew1 KZ.out)
        have KN0 := Lib.hid (blk_drew1 KN.out)
        have KS0 := Lib.hid (blk_drew1 KS.out)
        have KC0 := Lib.hid (blk_drew1 KC.out)
        have p0S := KS0.out
        have q0S_6 := p0S.c 6 _ rfl
        have q0S_7 := p0S.c 7 _ rfl
        have r0S_6 := p0S.f 6 _ rfl
        have r0S_7 := p0S.f 7 _ rfl
        have z0S := p0S.lt
        clear p0S
        have p0C := KC0.out
        have q0C_4 := p0C.c 4 _ rfl
        have z0C := p0C.lt
        clear p0C
        go_region_with (first
          | ((try go_simp); go_at_call 145; (refine (MU2.out _).mono ?_); rintro e1 v1 ⟨rfl, hb1⟩; have HB1 := Lib.hid (HB0.out.trans (hb1.mono HB0.out.size)); have KZ1 := Lib.hid (KZ0.out.below hb1); have KN1 := Lib.hid (KN0.out.below hb1); have KS1 := Lib.hid (KS0.out.below hb1); have KC1 := Lib.hid (KC0.out.below hb1); have p1S := KS1.out; have q1S_6 := p1S.c 6 _ rfl; have q1S_7 := p1S.c 7 _ rfl; have r1S_6 := p1S.f 6 _ rfl; have r1S_7 := p1S.f 7 _ rfl; have z1S := p1S.lt; clear p1S; have p1C := KC1.out; have q1C_4 := p1C.c 4 _ rfl; have z1C := p1C.lt; clear p1C; clear hb1)
          | ((try go_simp); go_at_call 144; (refine (PL2.out _).mono ?_); rintro e2 v2 ⟨rfl, hb2⟩; have HB2 := Lib.hid (HB1.out.trans (hb2.mono HB1.out.size)); have KZ2 := Lib.hid (KZ1.out.below hb2); have KN2 := Lib.hid (KN1.out.below hb2); have KS2 := Lib.hid (KS1.out.below hb2); have KC2 := Lib.hid (KC1.out.below hb2); have p2S := KS2.out; have q2S_6 := p2S.c 6 _ rfl; have q2S_7 := p2S.c 7 _ rfl; have r2S_6 := p2S.f 6 _ rfl; have r2S_7 := p2S.f 7 _ rfl; have z2S := p2S.lt; clear p2S; have p2C := KC2.out; have q2C_4 := p2C.c 4 _ rfl; have z2C := p2C.lt; clear p2C; clear hb2))
        all_goals
          refine OnlyN.mk ⟨rfl, ?_⟩
          exact ⟨Lib.hid ((HB2.out.setCell (p := ⟨bS, 6, none⟩) (show w.heap.size ≤ bS by omega) (.int .i64 (hiW V1))).setCell (p := ⟨bS, 7, none⟩) (show w.heap.size ≤ bS by omega) (.int .u64 (loW V1))), Lib.hid (blk_other (b := w.heap.size) (n := bS) (j := 7) (blk_other (b := w.heap.size) (n := bS) (j := 6) KZ2.out (by omega) (.int .i64 (hiW V1))) (by omega) (.int .u64 (loW V1))), Lib.hid (blk_other (b := bN) (n := bS) (j := 7) (blk_other (b := bN) (n := bS) (j := 6) KN2.out (by omega) (.int .i64 (hiW V1))) (by omega) (.int .u64 (loW V1))), Lib.hid (blk_set (blk_set KS2.out (j := 6) (by simp) (.int .i64 (hiW V1))) (j := 7) (by simp) (.int .u64 (loW V1))), Lib.hid (blk_other (b := bC) (n := bS) (j := 7) (blk_other (b := bC) (n := bS) (j := 6) KC2.out (by omega) (.int .i64 (hiW V1))) (by omega) (.int .u64 (loW V1)))⟩
      rintro w55 ⟨HB2, KZ2, KN2, KS2, KC2⟩
      replace HB := HB2
      clear HB2
      replace KZ := KZ2
      clear KZ2
      replace KN := KN2
      clear KN2
      replace KS := KS2
      clear KS2
      replace KC := KC2
      clear KC2
      go_wp2
      exact ⟨⟨k + 1, by go_num, by omega, HB, by rw [HA.out, HBB.out, HC.out, HD.out, HE.out]; exact KN, by rw [HX.out, HY.out, HT.out, HU.out, HV.out]; exact KS, KZ⟩, by simp [intOf]; omega⟩
    · obtain rfl : k = l.length := by omega
      rw [List.take_length, ← noiX_is, ← noiY_is] at KS
      obtain ⟨U, EU⟩ : ∃ x, noiX l = x := ⟨_, rfl⟩
      obtain ⟨V, EV⟩ : ∃ x, noiY l = x := ⟨_, rfl⟩
      rw [EU, EV] at KS
      have HU := Lib.hid EU
      have HV := Lib.hid EV
      clear EU EV
      obtain ⟨yZ_0, yZ_1, yZ_2, yZ_3, yZ_4, yZ_5, yZ_6, yZ_7, yZ_8, yZ_z, yZ_f0, yZ_f1, yZ_f2, yZ_f3, yZ_f4, yZ_f5, yZ_f6, yZ_f7, yZ_f8⟩ := blf9 KZ
      obtain ⟨yS_0, yS_1, yS_2, yS_3, yS_4, yS_5, yS_6, yS_7, yS_8, yS_z⟩ := blk9 KS
      go_wp2
      have hs := st9 wr w.heap.size 0 (.int .i64 (hiW X)) 1 (.int .u64 (loW X)) 2 (.int .i64 (hiW Y)) 3 (.int .u64 (loW Y)) 4 (.int .i64 (hiW U)) 5 (.int .u64 (loW U)) 6 (.int .i64 (hiW V)) 7 (.int .u64 (loW V)) 8 (.int .i64 T)
      replace KZ := Lib.hid (blk_set (blk_set (blk_set (blk_set (blk_set (blk_set (blk_set (blk_set (blk_set KZ.out (j := 0) (by simp) (.int .i64 (hiW X))) (j := 1) (by simp) (.int .u64 (loW X))) (j := 2) (by simp) (.int .i64 (hiW Y))) (j := 3) (by simp) (.int .u64 (loW Y))) (j := 4) (by simp) (.int .i64 (hiW U))) (j := 5) (by simp) (.int .u64 (loW U))) (j := 6) (by simp) (.int .i64 (hiW V))) (j := 7) (by simp) (.int .u64 (loW V))) (j := 8) (by simp) (.int .i64 T))
      replace KN := oB hs KN (by omega)
      replace KS := oB hs KS (by omega)
      replace HB := oH hs HB (by omega)
      clear hs
      clear yZ_0 yZ_1 yZ_2 yZ_3 yZ_4 yZ_5 yZ_6 yZ_7 yZ_8 yZ_z yZ_f0 yZ_f1 yZ_f2 yZ_f3 yZ_f4 yZ_f5 yZ_f6 yZ_f7 yZ_f8 yS_0 yS_1 yS_2 yS_3 yS_4 yS_5 yS_6 yS_7 yS_8 yS_z
      generalize ((((((((wr.setCell ⟨w.heap.size, 0, none⟩ (.int .i64 (hiW X))).setCell ⟨w.heap.size, 1, none⟩ (.int .u64 (loW X))).setCell ⟨w.heap.size, 2, none⟩ (.int .i64 (hiW Y))).setCell ⟨w.heap.size, 3, none⟩ (.int .u64 (loW Y))).setCell ⟨w.heap.size, 4, none⟩ (.int .i64 (hiW U))).setCell ⟨w.heap.size, 5, none⟩ (.int .u64 (loW U))).setCell ⟨w.heap.size, 6, none⟩ (.int .i64 (hiW V))).setCell ⟨w.heap.size, 7, none⟩ (.int .u64 (loW V))).setCell ⟨w.heap.size, 8, none⟩ (.int .i64 T) = w51 at *
      simp only [List.set] at KZ
      obtain ⟨yZ_0, yZ_1, yZ_2, yZ_3, yZ_4, yZ_5, yZ_6, yZ_7, yZ_8, yZ_z⟩ := blk9 KZ
      refine bodyPost_ret (v := .agg #[.int .i64 (hiW X), .int .u64 (loW X), .int .i64 (hiW Y), .int .u64 (loW Y), .int .i64 (hiW U), .int .u64 (loW U), .int .i64 (hiW V), .int .u64 (loW V), .int .i64 T]) (by simp [results, Tryz.results97, go_sem, yZ_0, yZ_1, yZ_2, yZ_3, yZ_4, yZ_5, yZ_6, yZ_7, yZ_8]) rfl ⟨by rw [HX.out, HY.out, HT.out, HU.out, HV.out], HB.out⟩
end Go.Proofs.YtajmjkliblippaaGreatDoor
namespace Go.Proofs.YtajmjkliblippaaGreatDoor
set_option linter.unusedVariables false
structure LevOk (l : List Ms) : Prop where
  sol : solE l = 0
  rank : ∀ k ∈ srcL l, detN (woL l k) ≠ 0
  fit : ∀ k ∈ srcL l, (reachF (cenX l) (cenY l) (woL l k)).2 = 0
theorem lev_ok {l : List Ms} (h : (levF l).2 = 0) : LevOk l := by
  unfold levF at h
  split at h
  · rename_i h0
    split at h
    · cases h
    · rename_i h1
      split at h
      · cases h
      · rename_i h2
        refine ⟨h0, fun k hk q => h1 (List.any_eq_true.2 ⟨k, hk, decide_eq_true q⟩), fun k hk => ?_⟩
        by_cases q : (reachF (cenX l) (cenY l) (woL l k)).2 = 0
        · exact q
        · exact absurd (List.any_eq_true.2 ⟨k, hk, decide_eq_true q⟩) h2
  · rename_i h0
    exact absurd h h0
theorem lev_val {l : List Ms} (h : LevOk l) : levF l = (⟨cenX l, cenY l, maxF (fun k => (reachF (cenX l) (cenY l) (woL l k)).1.1) (srcL l), maxF (fun k => (reachF (cenX l) (cenY l) (woL l k)).1.2) (srcL l)⟩, 0) := by
  unfold levF
  rw [if_pos h.sol, if_neg, if_neg]
  · intro q
    obtain ⟨k, hk, e⟩ := List.any_eq_true.1 q
    exact of_decide_eq_true e (h.fit k hk)
  · intro q
    obtain ⟨k, hk, e⟩ := List.any_eq_true.1 q
    exact h.rank k hk (of_decide_eq_true e)
theorem sol_chk {l : List Ms} (h : solE l = 0) : chkL l = 0 ∧ detN l ≠ 0 ∧ pOk (cenX l) = true ∧ pOk (cenY l) = true := by
  unfold solE at h
  by_cases hc : chkL l = 0
  · rw [if_pos hc] at h
    by_cases hd : detN l = 0
    · rw [if_pos hd] at h; cases h
    · rw [if_neg hd] at h
      by_cases hp : (pOk (cenX l) && pOk (cenY l)) = true
      · rw [Bool.and_eq_true] at hp
        exact ⟨hc, hd, hp.1, hp.2⟩
      · rw [if_neg hp] at h; cases h
  · rw [if_neg hc] at h
    exact absurd h hc
theorem chk_w {l : List Ms} (h : chkL l = 0) : ∀ m ∈ l, 0 ≤ m.w := fun m hm => by
  have := ((chkL_ok h).2 m hm).w0
  omega
/-- a point that meets a measurement -/
def HoldP (m : Ms) (px py : Int) : Prop := -m.d ≤ m.a * px + m.b * py - m.z ∧ m.a * px + m.b * py - m.z ≤ m.d
structure InBox (b : BoxI) (px py : Int) : Prop where
  x0 : px - b.cx ≤ b.x
  x1 : b.cx - px ≤ b.x
  y0 : py - b.cy ≤ b.y
  y1 : b.cy - py ≤ b.y
/-- with at most one faulty source the true point lies in the box of the levels -/
theorem protects {l : List Ms} {px py faulty : Int} (h : LevOk l) (ht : ∀ m ∈ l, m.s ≠ faulty → HoldP m px py) : InBox (levF l).1 px py := by
  obtain ⟨hc, hd, _, _⟩ := sol_chk h.sol
  have hne : ∃ k ∈ srcL l, ∀ m ∈ woL l k, HoldP m px py := by
    by_cases hf : faulty ∈ srcL l
    · exact ⟨faulty, hf, fun m hm => ht m (List.mem_filter.1 hm).1 (by simpa [notS] using (List.mem_filter.1 hm).2)⟩
    · cases l with
      | nil => exact absurd rfl hd
      | cons m r =>
        refine ⟨m.s, mem_srcL.2 ⟨m, List.mem_cons_self, rfl⟩, fun x hx => ht x (List.mem_filter.1 hx).1 (fun e => hf (mem_srcL.2 ⟨x, (List.mem_filter.1 hx).1, e⟩))⟩
  obtain ⟨k, hk, hh⟩ := hne
  have hw : ∀ m ∈ woL l k, 0 ≤ m.w := fun m hm => chk_w hc m (List.mem_filter.1 hm).1
  have hdk : 0 < detN (woL l k) := by
    have := det_nonneg _ hw
    have := h.rank k hk
    omega
  obtain ⟨r1, r2, r3, r4⟩ := reach_in (cx := cenX l) (cy := cenY l) hdk hw hh (h.fit k hk)
  have m1 := max_ge (fun k => (reachF (cenX l) (cenY l) (woL l k)).1.1) hk
  have m2 := max_ge (fun k => (reachF (cenX l) (cenY l) (woL l k)).1.2) hk
  rw [lev_val h]
  exact ⟨by simp only; omega, by simp only; omega, by simp only; omega, by simp only; omega⟩
end Go.Proofs.YtajmjkliblippaaGreatDoor
