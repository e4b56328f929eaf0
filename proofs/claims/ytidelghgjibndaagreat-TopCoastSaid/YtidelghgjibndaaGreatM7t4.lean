/-
  Walks and laws of the layers below, gathered from several texts.
-/
import Derived.Lib.QuietBelow
import Derived.Maps.AppendAt
import Derived.OwnWalk
import Derived.OneCell
import Derived.Deep.RegionHeld
import Derived.Lib.SmallJoins
import Derived.Deep.Onto
import Derived.Test.YtidelghgjibndaaGreatShelf
import Derived.Test.YtidelghgjibndaaGreatFixPlain
import Derived.WalkKit
import Derived.WalkSpells
import Derived.Lib.Hide
import Derived.Deep.QuietTactic
import Derived.BigQuiet
import Derived.Laws.Bits64
import Derived.IntWalk
import Derived.Laws.OwnMore
import Derived.Test.YtidelghgjibndaaGreatM7t3
namespace Go.Proofs.YtidelghgjibndaaGreat
set_option linter.unusedVariables false
open Go.RowKit
theorem kv_set2n {w W : World} {u0 u1 : Value} {b : Nat} (v0 v1 : Value) (h : w.heap.size ≤ b ∧ Blk [u0, u1] b W) (hb : Below w.heap.size w W) :
    Below w.heap.size w ((W.setCell ⟨b, 0, none⟩ v0).setCell ⟨b, 1, none⟩ v1) ∧ Blk [v0, v1] b ((W.setCell ⟨b, 0, none⟩ v0).setCell ⟨b, 1, none⟩ v1) ∧ w.heap.size ≤ b :=
  ⟨((hb.setCell (p := ⟨b, 0, none⟩) h.1 v0).setCell (p := ⟨b, 1, none⟩) h.1 v1), (blk_set (blk_set h.2 (j := 0) (by simp) v0) (j := 1) (by simp) v1), h.1⟩
theorem kv_set7 {w W : World} {u0 u1 u2 u3 u4 u5 u6 : Value} {b : Nat} (v0 v1 v2 v3 v4 v5 v6 : Value) (h : w.heap.size ≤ b ∧ Blk [u0, u1, u2, u3, u4, u5, u6] b W) (hb : Below w.heap.size w W) :
    Below w.heap.size w (((((((W.setCell ⟨b, 0, none⟩ v0).setCell ⟨b, 1, none⟩ v1).setCell ⟨b, 2, none⟩ v2).setCell ⟨b, 3, none⟩ v3).setCell ⟨b, 4, none⟩ v4).setCell ⟨b, 5, none⟩ v5).setCell ⟨b, 6, none⟩ v6) ∧ Blk [v0, v1, v2, v3, v4, v5, v6] b (((((((W.setCell ⟨b, 0, none⟩ v0).setCell ⟨b, 1, none⟩ v1).setCell ⟨b, 2, none⟩ v2).setCell ⟨b, 3, none⟩ v3).setCell ⟨b, 4, none⟩ v4).setCell ⟨b, 5, none⟩ v5).setCell ⟨b, 6, none⟩ v6) ∧ w.heap.size ≤ b :=
  ⟨(((((((hb.setCell (p := ⟨b, 0, none⟩) h.1 v0).setCell (p := ⟨b, 1, none⟩) h.1 v1).setCell (p := ⟨b, 2, none⟩) h.1 v2).setCell (p := ⟨b, 3, none⟩) h.1 v3).setCell (p := ⟨b, 4, none⟩) h.1 v4).setCell (p := ⟨b, 5, none⟩) h.1 v5).setCell (p := ⟨b, 6, none⟩) h.1 v6), (blk_set (blk_set (blk_set (blk_set (blk_set (blk_set (blk_set h.2 (j := 0) (by simp) v0) (j := 1) (by simp) v1) (j := 2) (by simp) v2) (j := 3) (by simp) v3) (j := 4) (by simp) v4) (j := 5) (by simp) v5) (j := 6) (by simp) v6), h.1⟩
theorem kv_set9 {w W : World} {u0 u1 u2 u3 u4 u5 u6 u7 u8 : Value} {b : Nat} (v0 v1 v2 v3 v4 v5 v6 v7 v8 : Value) (h : w.heap.size ≤ b ∧ Blk [u0, u1, u2, u3, u4, u5, u6, u7, u8] b W) (hb : Below w.heap.size w W) :
    Below w.heap.size w (((((((((W.setCell ⟨b, 0, none⟩ v0).setCell ⟨b, 1, none⟩ v1).setCell ⟨b, 2, none⟩ v2).setCell ⟨b, 3, none⟩ v3).setCell ⟨b, 4, none⟩ v4).setCell ⟨b, 5, none⟩ v5).setCell ⟨b, 6, none⟩ v6).setCell ⟨b, 7, none⟩ v7).setCell ⟨b, 8, none⟩ v8) ∧ Blk [v0, v1, v2, v3, v4, v5, v6, v7, v8] b (((((((((W.setCell ⟨b, 0, none⟩ v0).setCell ⟨b, 1, none⟩ v1).setCell ⟨b, 2, none⟩ v2).setCell ⟨b, 3, none⟩ v3).setCell ⟨b, 4, none⟩ v4).setCell ⟨b, 5, none⟩ v5).setCell ⟨b, 6, none⟩ v6).setCell ⟨b, 7, none⟩ v7).setCell ⟨b, 8, none⟩ v8) ∧ w.heap.size ≤ b :=
  ⟨(((((((((hb.setCell (p := ⟨b, 0, none⟩) h.1 v0).setCell (p := ⟨b, 1, none⟩) h.1 v1).setCell (p := ⟨b, 2, none⟩) h.1 v2).setCell (p := ⟨b, 3, none⟩) h.1 v3).setCell (p := ⟨b, 4, none⟩) h.1 v4).setCell (p := ⟨b, 5, none⟩) h.1 v5).setCell (p := ⟨b, 6, none⟩) h.1 v6).setCell (p := ⟨b, 7, none⟩) h.1 v7).setCell (p := ⟨b, 8, none⟩) h.1 v8), (blk_set (blk_set (blk_set (blk_set (blk_set (blk_set (blk_set (blk_set (blk_set h.2 (j := 0) (by simp) v0) (j := 1) (by simp) v1) (j := 2) (by simp) v2) (j := 3) (by simp) v3) (j := 4) (by simp) v4) (j := 5) (by simp) v5) (j := 6) (by simp) v6) (j := 7) (by simp) v7) (j := 8) (by simp) v8), h.1⟩
theorem kv_putn {w W : World} {vs : Array Value} {t : TypeId} (hb : Below w.heap.size w W) : Below w.heap.size w (W.alloc (.cells vs t)) ∧ Blk vs.toList W.heap.size (W.alloc (.cells vs t)) ∧ w.heap.size ≤ W.heap.size :=
  ⟨hb.alloc hb.size _, Blk.new vs W t, hb.size⟩
theorem near_bd {x d : Int} (hd : 0 < d) (h0 : -85070591730234615865843651857942052864 < x) (h1 : x < 85070591730234615865843651857942052864) (hd1 : d ≤ 9223372036854775807) : FitW (nearI2 x d) := by
  unfold nearI2
  have e := Int.mul_ediv_add_emod (2 * x + d) (2 * d)
  have r0 := Int.emod_nonneg (2 * x + d) (show 2 * d ≠ 0 by omega)
  have r1 := Int.emod_lt_of_pos (2 * x + d) (show 0 < 2 * d by omega)
  generalize (2 * x + d) / (2 * d) = q at *
  generalize (2 * x + d) % (2 * d) = r at *
  have e2 : 2 * d * q = 2 * (d * q) := Int.mul_assoc _ _ _
  rw [e2] at e
  constructor
  · rcases Int.le_total 0 q with h | h
    · omega
    · have := Int.mul_le_mul_of_nonpos_right (show 1 ≤ d by omega) h
      omega
  · rcases Int.le_total 0 q with h | h
    · have := Int.mul_le_mul_of_nonneg_right (show 1 ≤ d by omega) h
      omega
    · omega
theorem ceil_bd {x d : Int} (hd : 0 < d) (h0 : 0 ≤ x) : 0 ≤ ceilI x d ∧ ceilI x d ≤ x := by
  unfold ceilI
  have h1 : -x / d < 1 := Int.ediv_lt_of_lt_mul hd (by omega)
  have h2 : -x ≤ -x / d := Int.le_ediv_of_mul_le hd (by
    have := Int.mul_le_mul_of_nonneg_left (show 1 ≤ d by omega) h0
    rw [Int.neg_mul]
    omega)
  omega
theorem near_int {x : Int} (w : World) (hf : FitW x) : Calls Tryz.prog 85 #[wv x] w fun e w' => e = .returned (.tuple #[.int .i64 (if I64 x then x else 0), .bool (decide (I64 x))]) ∧ Below w.heap.size w w' := by
  by_cases h : I64 x
  · rw [if_pos h, decide_eq_true h]
    exact wint_any x w h.lo (by have := h.hi; omega)
  · rw [if_neg h, decide_eq_false h]
    refine wint_out x w hf ?_
    rcases Int.lt_or_le x (-9223372036854775808) with a | a
    · exact .inl a
    · rcases Int.lt_or_le 9223372036854775807 x with b | b
      · exact .inr b
      · exact absurd ⟨a, b⟩ h
set_option maxHeartbeats 8000000 in
set_option maxRecDepth 100000 in
theorem nearest_any (x d : Int) (w : World) (hx0 : -85070591730234615865843651857942052864 < x) (hx : x < 85070591730234615865843651857942052864) (hd : 0 < d) (hd1 : d ≤ 9223372036854775807) :
    Calls Tryz.prog 55 #[wv x, .int .i64 d] w fun e w' => e = .returned (.tuple #[.int .i64 (if I64 (nearI2 x d) then nearI2 x d else 0), .bool (decide (I64 (nearI2 x d)))]) ∧ Below w.heap.size w w' := by
  have OF := Lib.hid fun w => wof_any d w (by omega) hd1
  have DV := Lib.hid fun w => wnear_any x d w hx0 hx hd (by omega)
  have IN := Lib.hid fun w => near_int (x := nearI2 x d) w (near_bd hd hx0 hx hd1)
  generalize decide (I64 (nearI2 x d)) = ok at *
  generalize (if I64 (nearI2 x d) then nearI2 x d else 0) = u at *
  generalize nearI2 x d = v at *
  unfold wv at *
  clear hx0 hx hd hd1
  have KX := Lib.hid (Blk.of (vs := #[.int .i64 (hiW x), .int .u64 (loW x)]) (t := 79) (w := w) (b := w.heap.size) (by simp))
  have HB := Lib.hid ((Below.refl w.heap.size w).alloc (by simp; try omega) (.cells #[.int .i64 (hiW x), .int .u64 (loW x)] 79))
  go_enter Tryz.func55, Tryz.ntmps55
  go_wp2_with fail
  generalize w.alloc (.cells #[.int .i64 (hiW x), .int .u64 (loW x)] 79) = w0 at *
  have BD := Lib.hid (show Below w0.heap.size w0 w0.drew from ⟨rfl, rfl, rfl, Nat.le_refl _, fun _ _ => rfl⟩)
  have BD2 := Lib.hid (below_drew_alloc w0 (.cells #[.int .i64 0, .int .u64 0] 79))
  have DOF := Lib.hid fun W (h : Below w0.heap.size w0 W) => (OF.out W).mono fun e w' ⟨h1, h2⟩ => show _ ∧ Below w0.heap.size w0 w' ∧ Below W.heap.size W w' from ⟨h1, h.trans (h2.mono h.size), h2⟩
  have DDV := Lib.hid fun W (h : Below w0.heap.size w0 W) => (DV.out W).mono fun e w' ⟨h1, h2⟩ => show _ ∧ Below w0.heap.size w0 w' ∧ Below W.heap.size W w' from ⟨h1, h.trans (h2.mono h.size), h2⟩
  have yX := KX.out
  have yX_0 := yX.c 0 _ rfl
  have yX_1 := yX.c 1 _ rfl
  have yX_z := yX.lt
  clear yX
  go_region_held3 (fun w' => w'.cell? ⟨w.heap.size, 0, none⟩ = some (.int .i64 (hiW x)) ∧ w'.cell? ⟨w.heap.size, 1, none⟩ = some (.int .u64 (loW x))) (first | (refine ⟨?_, ?_⟩ <;> first | assumption | (rw [far2 KV.out.1 yX_z]; assumption)) | go_keep)
    (first
      | (go_at_call 84; with_reducible refine Calls.mono (DOF.out _ (by first | exact BD.out | exact BD2.out | exact HX.out | exact HX.out.alloc HX.out.size _)) ?_; rintro e9 w9 ⟨rfl, hb9, hc9⟩; have pX := KX.out.below hb9; have qX0 := pX.c 0 _ rfl; have qX1 := pX.c 1 _ rfl; clear pX; (first | (with_reducible have KV := Lib.hid (kv_drew (vs := #[.int .i64 0, .int .u64 0]) (t := 79) hc9); have pV := KV.out.2; have v0 := pV.c 0 _ rfl; have vf0 := pV.f 0 _ rfl; have v1 := pV.c 1 _ rfl; have vf1 := pV.f 1 _ rfl; have v9 := pV.lt; clear pV) | (with_reducible have KV := Lib.hid (kv_new (vs := #[.int .i64 0, .int .u64 0]) (t := 79) HX.out hc9); have pV := KV.out.2; have v0 := pV.c 0 _ rfl; have vf0 := pV.f 0 _ rfl; have v1 := pV.c 1 _ rfl; have vf1 := pV.f 1 _ rfl; have v9 := pV.lt; clear pV) | (with_reducible have KV := Lib.hid (kv_old KV.out hc9); have pV := KV.out.2; have v0 := pV.c 0 _ rfl; have vf0 := pV.f 0 _ rfl; have v1 := pV.c 1 _ rfl; have vf1 := pV.f 1 _ rfl; have v9 := pV.lt; clear pV) | skip); have HX := Lib.hid hb9; clear hb9 hc9)
      | (go_at_call 83; with_reducible refine Calls.mono (DDV.out _ (by first | exact BD.out | exact BD2.out | exact HX.out | exact HX.out.alloc HX.out.size _)) ?_; rintro e9 w9 ⟨rfl, hb9, hc9⟩; have pX := KX.out.below hb9; have qX0 := pX.c 0 _ rfl; have qX1 := pX.c 1 _ rfl; clear pX; (first | (with_reducible have KV := Lib.hid (kv_drew (vs := #[.int .i64 0, .int .u64 0]) (t := 79) hc9); have pV := KV.out.2; have v0 := pV.c 0 _ rfl; have vf0 := pV.f 0 _ rfl; have v1 := pV.c 1 _ rfl; have vf1 := pV.f 1 _ rfl; have v9 := pV.lt; clear pV) | (with_reducible have KV := Lib.hid (kv_new (vs := #[.int .i64 0, .int .u64 0]) (t := 79) HX.out hc9); have pV := KV.out.2; have v0 := pV.c 0 _ rfl; have vf0 := pV.f 0 _ rfl; have v1 := pV.c 1 _ rfl; have vf1 := pV.f 1 _ rfl; have v9 := pV.lt; clear pV) | (with_reducible have KV := Lib.hid (kv_old KV.out hc9); have pV := KV.out.2; have v0 := pV.c 0 _ rfl; have vf0 := pV.f 0 _ rfl; have v1 := pV.c 1 _ rfl; have vf1 := pV.f 1 _ rfl; have v9 := pV.lt; clear pV) | skip); have HX := Lib.hid hb9; clear hb9 hc9))
  all_goals
    first
      | (have FN := kv_set2n (.int .i64 (hiW v)) (.int .u64 (loW v)) KV.out HX.out; have FB := Lib.hid FN.1; have KN := Lib.hid FN.2.1; have n0N := FN.2.2; clear FN; generalize World.setCell (World.setCell _ _ (.int .i64 (hiW v))) _ (.int .u64 (loW v)) = w1 at *)
      | (have FN := kv_putn (vs := #[.int .i64 (hiW v), .int .u64 (loW v)]) (t := 79) HX.out; have FB := Lib.hid FN.1; have KN := Lib.hid FN.2.1; have n0N := FN.2.2; clear FN; generalize (World.alloc _ (.cells #[.int .i64 (hiW v), .int .u64 (loW v)] 79)) = w1 at *)
    have nN := Nat.le_trans HB.out.size n0N
    have neN_X := Nat.ne_of_gt (Nat.lt_of_lt_of_le KX.out.lt n0N)
    replace HB := Lib.hid (HB.out.trans (FB.out.mono HB.out.size))
    replace KX := Lib.hid (KX.out.below FB.out)
    have yN := KN.out
    have yN_0 := yN.c 0 _ rfl
    have yN_1 := yN.c 1 _ rfl
    have yN_z := yN.lt
    clear yN
    go_wp2_with fail
    refine (IN.out _).mono ?_
    rintro e2 w2 ⟨rfl, hb2⟩
    replace HB := Lib.hid (HB.out.trans (hb2.mono HB.out.size))
    replace KX := Lib.hid (KX.out.below hb2)
    replace KN := Lib.hid (KN.out.below hb2)
    clear yN_0 yN_1 yN_z
    clear hb2
    go_wp2
    all_goals go_ret2
    all_goals exact ⟨rfl, HB.out⟩
set_option maxHeartbeats 8000000 in
set_option maxRecDepth 100000 in
theorem size_any (x d : Int) (w : World) (hx0 : 0 ≤ x) (hx : x < 85070591730234615865843651857942052864) (hd : 0 < d) (hd1 : d ≤ 9223372036854775807) :
    Calls Tryz.prog 92 #[wv x, .int .i64 d] w fun e w' => e = .returned (if ceilI x d ≤ 8000000 then .tuple #[.int .i64 (ceilI x d), .bool true] else .tuple #[.int .i64 0, .bool false]) ∧ Below w.heap.size w w' := by
  obtain ⟨b0, b1⟩ := ceil_bd hd hx0
  have OF := Lib.hid fun w => wof_any d w (by omega) hd1
  have DV := Lib.hid fun w => wdivup_any x d w hx0 hx hd (by omega)
  have IN := Lib.hid fun w => near_int (x := ceilI x d) w ⟨by omega, by omega⟩
  have IB : ceilI x d ≤ 8000000 → I64 (ceilI x d) := fun h => ⟨by omega, by omega⟩
  generalize ceilI x d = v at *
  unfold wv at *
  clear hx0 hx hd hd1 b0 b1
  by_cases h : v ≤ 8000000
  · have g : decide (8000000 < v) = false := by simp; omega
    rw [if_pos (IB h), decide_eq_true (IB h)] at IN
    rw [if_pos h]
    clear h IB
    have KX := Lib.hid (Blk.of (vs := #[.int .i64 (hiW x), .int .u64 (loW x)]) (t := 79) (w := w) (b := w.heap.size) (by simp))
    have HB := Lib.hid ((Below.refl w.heap.size w).alloc (by simp; try omega) (.cells #[.int .i64 (hiW x), .int .u64 (loW x)] 79))
    go_enter Tryz.func92, Tryz.ntmps92
    go_wp2_with fail
    generalize w.alloc (.cells #[.int .i64 (hiW x), .int .u64 (loW x)] 79) = w0 at *
    have BD := Lib.hid (show Below w0.heap.size w0 w0.drew from ⟨rfl, rfl, rfl, Nat.le_refl _, fun _ _ => rfl⟩)
    have BD2 := Lib.hid (below_drew_alloc w0 (.cells #[.int .i64 0, .int .u64 0] 79))
    have DOF := Lib.hid fun W (h : Below w0.heap.size w0 W) => (OF.out W).mono fun e w' ⟨h1, h2⟩ => show _ ∧ Below w0.heap.size w0 w' ∧ Below W.heap.size W w' from ⟨h1, h.trans (h2.mono h.size), h2⟩
    have DDV := Lib.hid fun W (h : Below w0.heap.size w0 W) => (DV.out W).mono fun e w' ⟨h1, h2⟩ => show _ ∧ Below w0.heap.size w0 w' ∧ Below W.heap.size W w' from ⟨h1, h.trans (h2.mono h.size), h2⟩
    have yX := KX.out
    have yX_0 := yX.c 0 _ rfl
    have yX_1 := yX.c 1 _ rfl
    have yX_z := yX.lt
    clear yX
    go_region_held3 (fun w' => w'.cell? ⟨w.heap.size, 0, none⟩ = some (.int .i64 (hiW x)) ∧ w'.cell? ⟨w.heap.size, 1, none⟩ = some (.int .u64 (loW x))) (first | (refine ⟨?_, ?_⟩ <;> first | assumption | (rw [far2 KV.out.1 yX_z]; assumption)) | go_keep)
      (first
        | (go_at_call 84; with_reducible refine Calls.mono (DOF.out _ (by first | exact BD.out | exact BD2.out | exact HX.out | exact HX.out.alloc HX.out.size _)) ?_; rintro e9 w9 ⟨rfl, hb9, hc9⟩; have pX := KX.out.below hb9; have qX0 := pX.c 0 _ rfl; have qX1 := pX.c 1 _ rfl; clear pX; (first | (with_reducible have KV := Lib.hid (kv_drew (vs := #[.int .i64 0, .int .u64 0]) (t := 79) hc9); have pV := KV.out.2; have v0 := pV.c 0 _ rfl; have vf0 := pV.f 0 _ rfl; have v1 := pV.c 1 _ rfl; have vf1 := pV.f 1 _ rfl; have v9 := pV.lt; clear pV) | (with_reducible have KV := Lib.hid (kv_new (vs := #[.int .i64 0, .int .u64 0]) (t := 79) HX.out hc9); have pV := KV.out.2; have v0 := pV.c 0 _ rfl; have vf0 := pV.f 0 _ rfl; have v1 := pV.c 1 _ rfl; have vf1 := pV.f 1 _ rfl; have v9 := pV.lt; clear pV) | (with_reducible have KV := Lib.hid (kv_old KV.out hc9); have pV := KV.out.2; have v0 := pV.c 0 _ rfl; have vf0 := pV.f 0 _ rfl; have v1 := pV.c 1 _ rfl; have vf1 := pV.f 1 _ rfl; have v9 := pV.lt; clear pV) | skip); have HX := Lib.hid hb9; clear hb9 hc9)
        | (go_at_call 117; with_reducible refine Calls.mono (DDV.out _ (by first | exact BD.out | exact BD2.out | exact HX.out | exact HX.out.alloc HX.out.size _)) ?_; rintro e9 w9 ⟨rfl, hb9, hc9⟩; have pX := KX.out.below hb9; have qX0 := pX.c 0 _ rfl; have qX1 := pX.c 1 _ rfl; clear pX; (first | (with_reducible have KV := Lib.hid (kv_drew (vs := #[.int .i64 0, .int .u64 0]) (t := 79) hc9); have pV := KV.out.2; have v0 := pV.c 0 _ rfl; have vf0 := pV.f 0 _ rfl; have v1 := pV.c 1 _ rfl; have vf1 := pV.f 1 _ rfl; have v9 := pV.lt; clear pV) | (with_reducible have KV := Lib.hid (kv_new (vs := #[.int .i64 0, .int .u64 0]) (t := 79) HX.out hc9); have pV := KV.out.2; have v0 := pV.c 0 _ rfl; have vf0 := pV.f 0 _ rfl; have v1 := pV.c 1 _ rfl; have vf1 := pV.f 1 _ rfl; have v9 := pV.lt; clear pV) | (with_reducible have KV := Lib.hid (kv_old KV.out hc9); have pV := KV.out.2; have v0 := pV.c 0 _ rfl; have vf0 := pV.f 0 _ rfl; have v1 := pV.c 1 _ rfl; have vf1 := pV.f 1 _ rfl; have v9 := pV.lt; clear pV) | skip); have HX := Lib.hid hb9; clear hb9 hc9))
    all_goals
      first
        | (have FN := kv_set2n (.int .i64 (hiW v)) (.int .u64 (loW v)) KV.out HX.out; have FB := Lib.hid FN.1; have KN := Lib.hid FN.2.1; have n0N := FN.2.2; clear FN; generalize World.setCell (World.setCell _ _ (.int .i64 (hiW v))) _ (.int .u64 (loW v)) = w1 at *)
        | (have FN := kv_putn (vs := #[.int .i64 (hiW v), .int .u64 (loW v)]) (t := 79) HX.out; have FB := Lib.hid FN.1; have KN := Lib.hid FN.2.1; have n0N := FN.2.2; clear FN; generalize (World.alloc _ (.cells #[.int .i64 (hiW v), .int .u64 (loW v)] 79)) = w1 at *)
      have nN := Nat.le_trans HB.out.size n0N
      have neN_X := Nat.ne_of_gt (Nat.lt_of_lt_of_le KX.out.lt n0N)
      replace HB := Lib.hid (HB.out.trans (FB.out.mono HB.out.size))
      replace KX := Lib.hid (KX.out.below FB.out)
      have yN := KN.out
      have yN_0 := yN.c 0 _ rfl
      have yN_1 := yN.c 1 _ rfl
      have yN_z := yN.lt
      clear yN
      go_wp2_with fail
      refine (IN.out _).mono ?_
      rintro e2 w2 ⟨rfl, hb2⟩
      replace HB := Lib.hid (HB.out.trans (hb2.mono HB.out.size))
      replace KX := Lib.hid (KX.out.below hb2)
      replace KN := Lib.hid (KN.out.below hb2)
      clear yN_0 yN_1 yN_z
      clear hb2
      go_wp2
      all_goals go_ret2
      all_goals exact ⟨rfl, HB.out⟩
  · rw [if_neg h]
    by_cases k : I64 v
    · have g : decide (8000000 < v) = true := by simp; omega
      rw [if_pos k, decide_eq_true k] at IN
      clear h IB k
      have KX := Lib.hid (Blk.of (vs := #[.int .i64 (hiW x), .int .u64 (loW x)]) (t := 79) (w := w) (b := w.heap.size) (by simp))
      have HB := Lib.hid ((Below.refl w.heap.size w).alloc (by simp; try omega) (.cells #[.int .i64 (hiW x), .int .u64 (loW x)] 79))
      go_enter Tryz.func92, Tryz.ntmps92
      go_wp2_with fail
      generalize w.alloc (.cells #[.int .i64 (hiW x), .int .u64 (loW x)] 79) = w0 at *
      have BD := Lib.hid (show Below w0.heap.size w0 w0.drew from ⟨rfl, rfl, rfl, Nat.le_refl _, fun _ _ => rfl⟩)
      have BD2 := Lib.hid (below_drew_alloc w0 (.cells #[.int .i64 0, .int .u64 0] 79))
      have DOF := Lib.hid fun W (h : Below w0.heap.size w0 W) => (OF.out W).mono fun e w' ⟨h1, h2⟩ => show _ ∧ Below w0.heap.size w0 w' ∧ Below W.heap.size W w' from ⟨h1, h.trans (h2.mono h.size), h2⟩
      have DDV := Lib.hid fun W (h : Below w0.heap.size w0 W) => (DV.out W).mono fun e w' ⟨h1, h2⟩ => show _ ∧ Below w0.heap.size w0 w' ∧ Below W.heap.size W w' from ⟨h1, h.trans (h2.mono h.size), h2⟩
      have yX := KX.out
      have yX_0 := yX.c 0 _ rfl
      have yX_1 := yX.c 1 _ rfl
      have yX_z := yX.lt
      clear yX
      go_region_held3 (fun w' => w'.cell? ⟨w.heap.size, 0, none⟩ = some (.int .i64 (hiW x)) ∧ w'.cell? ⟨w.heap.size, 1, none⟩ = some (.int .u64 (loW x))) (first | (refine ⟨?_, ?_⟩ <;> first | assumption | (rw [far2 KV.out.1 yX_z]; assumption)) | go_keep)
        (first
          | (go_at_call 84; with_reducible refine Calls.mono (DOF.out _ (by first | exact BD.out | exact BD2.out | exact HX.out | exact HX.out.alloc HX.out.size _)) ?_; rintro e9 w9 ⟨rfl, hb9, hc9⟩; have pX := KX.out.below hb9; have qX0 := pX.c 0 _ rfl; have qX1 := pX.c 1 _ rfl; clear pX; (first | (with_reducible have KV := Lib.hid (kv_drew (vs := #[.int .i64 0, .int .u64 0]) (t := 79) hc9); have pV := KV.out.2; have v0 := pV.c 0 _ rfl; have vf0 := pV.f 0 _ rfl; have v1 := pV.c 1 _ rfl; have vf1 := pV.f 1 _ rfl; have v9 := pV.lt; clear pV) | (with_reducible have KV := Lib.hid (kv_new (vs := #[.int .i64 0, .int .u64 0]) (t := 79) HX.out hc9); have pV := KV.out.2; have v0 := pV.c 0 _ rfl; have vf0 := pV.f 0 _ rfl; have v1 := pV.c 1 _ rfl; have vf1 := pV.f 1 _ rfl; have v9 := pV.lt; clear pV) | (with_reducible have KV := Lib.hid (kv_old KV.out hc9); have pV := KV.out.2; have v0 := pV.c 0 _ rfl; have vf0 := pV.f 0 _ rfl; have v1 := pV.c 1 _ rfl; have vf1 := pV.f 1 _ rfl; have v9 := pV.lt; clear pV) | skip); have HX := Lib.hid hb9; clear hb9 hc9)
          | (go_at_call 117; with_reducible refine Calls.mono (DDV.out _ (by first | exact BD.out | exact BD2.out | exact HX.out | exact HX.out.alloc HX.out.size _)) ?_; rintro e9 w9 ⟨rfl, hb9, hc9⟩; have pX := KX.out.below hb9; have qX0 := pX.c 0 _ rfl; have qX1 := pX.c 1 _ rfl; clear pX; (first | (with_reducible have KV := Lib.hid (kv_drew (vs := #[.int .i64 0, .int .u64 0]) (t := 79) hc9); have pV := KV.out.2; have v0 := pV.c 0 _ rfl; have vf0 := pV.f 0 _ rfl; have v1 := pV.c 1 _ rfl; have vf1 := pV.f 1 _ rfl; have v9 := pV.lt; clear pV) | (with_reducible have KV := Lib.hid (kv_new (vs := #[.int .i64 0, .int .u64 0]) (t := 79) HX.out hc9); have pV := KV.out.2; have v0 := pV.c 0 _ rfl; have vf0 := pV.f 0 _ rfl; have v1 := pV.c 1 _ rfl; have vf1 := pV.f 1 _ rfl; have v9 := pV.lt; clear pV) | (with_reducible have KV := Lib.hid (kv_old KV.out hc9); have pV := KV.out.2; have v0 := pV.c 0 _ rfl; have vf0 := pV.f 0 _ rfl; have v1 := pV.c 1 _ rfl; have vf1 := pV.f 1 _ rfl; have v9 := pV.lt; clear pV) | skip); have HX := Lib.hid hb9; clear hb9 hc9))
      all_goals
        first
          | (have FN := kv_set2n (.int .i64 (hiW v)) (.int .u64 (loW v)) KV.out HX.out; have FB := Lib.hid FN.1; have KN := Lib.hid FN.2.1; have n0N := FN.2.2; clear FN; generalize World.setCell (World.setCell _ _ (.int .i64 (hiW v))) _ (.int .u64 (loW v)) = w1 at *)
          | (have FN := kv_putn (vs := #[.int .i64 (hiW v), .int .u64 (loW v)]) (t := 79) HX.out; have FB := Lib.hid FN.1; have KN := Lib.hid FN.2.1; have n0N := FN.2.2; clear FN; generalize (World.alloc _ (.cells #[.int .i64 (hiW v), .int .u64 (loW v)] 79)) = w1 at *)
        have nN := Nat.le_trans HB.out.size n0N
        have neN_X := Nat.ne_of_gt (Nat.lt_of_lt_of_le KX.out.lt n0N)
        replace HB := Lib.hid (HB.out.trans (FB.out.mono HB.out.size))
        replace KX := Lib.hid (KX.out.below FB.out)
        have yN := KN.out
        have yN_0 := yN.c 0 _ rfl
        have yN_1 := yN.c 1 _ rfl
        have yN_z := yN.lt
        clear yN
        go_wp2_with fail
        refine (IN.out _).mono ?_
        rintro e2 w2 ⟨rfl, hb2⟩
        replace HB := Lib.hid (HB.out.trans (hb2.mono HB.out.size))
        replace KX := Lib.hid (KX.out.below hb2)
        replace KN := Lib.hid (KN.out.below hb2)
        clear yN_0 yN_1 yN_z
        clear hb2
        go_wp2
        all_goals go_ret2
        all_goals exact ⟨rfl, HB.out⟩
    · rw [if_neg k, decide_eq_false k] at IN
      clear h IB k
      have KX := Lib.hid (Blk.of (vs := #[.int .i64 (hiW x), .int .u64 (loW x)]) (t := 79) (w := w) (b := w.heap.size) (by simp))
      have HB := Lib.hid ((Below.refl w.heap.size w).alloc (by simp; try omega) (.cells #[.int .i64 (hiW x), .int .u64 (loW x)] 79))
      go_enter Tryz.func92, Tryz.ntmps92
      go_wp2_with fail
      generalize w.alloc (.cells #[.int .i64 (hiW x), .int .u64 (loW x)] 79) = w0 at *
      have BD := Lib.hid (show Below w0.heap.size w0 w0.drew from ⟨rfl, rfl, rfl, Nat.le_refl _, fun _ _ => rfl⟩)
      have BD2 := Lib.hid (below_drew_alloc w0 (.cells #[.int .i64 0, .int .u64 0] 79))
      have DOF := Lib.hid fun W (h : Below w0.heap.size w0 W) => (OF.out W).mono fun e w' ⟨h1, h2⟩ => show _ ∧ Below w0.heap.size w0 w' ∧ Below W.heap.size W w' from ⟨h1, h.trans (h2.mono h.size), h2⟩
      have DDV := Lib.hid fun W (h : Below w0.heap.size w0 W) => (DV.out W).mono fun e w' ⟨h1, h2⟩ => show _ ∧ Below w0.heap.size w0 w' ∧ Below W.heap.size W w' from ⟨h1, h.trans (h2.mono h.size), h2⟩
      have yX := KX.out
      have yX_0 := yX.c 0 _ rfl
      have yX_1 := yX.c 1 _ rfl
      have yX_z := yX.lt
      clear yX
      go_region_held3 (fun w' => w'.cell? ⟨w.heap.size, 0, none⟩ = some (.int .i64 (hiW x)) ∧ w'.cell? ⟨w.heap.size, 1, none⟩ = some (.int .u64 (loW x))) (first | (refine ⟨?_, ?_⟩ <;> first | assumption | (rw [far2 KV.out.1 yX_z]; assumption)) | go_keep)
        (first
          | (go_at_call 84; with_reducible refine Calls.mono (DOF.out _ (by first | exact BD.out | exact BD2.out | exact HX.out | exact HX.out.alloc HX.out.size _)) ?_; rintro e9 w9 ⟨rfl, hb9, hc9⟩; have pX := KX.out.below hb9; have qX0 := pX.c 0 _ rfl; have qX1 := pX.c 1 _ rfl; clear pX; (first | (with_reducible have KV := Lib.hid (kv_drew (vs := #[.int .i64 0, .int .u64 0]) (t := 79) hc9); have pV := KV.out.2; have v0 := pV.c 0 _ rfl; have vf0 := pV.f 0 _ rfl; have v1 := pV.c 1 _ rfl; have vf1 := pV.f 1 _ rfl; have v9 := pV.lt; clear pV) | (with_reducible have KV := Lib.hid (kv_new (vs := #[.int .i64 0, .int .u64 0]) (t := 79) HX.out hc9); have pV := KV.out.2; have v0 := pV.c 0 _ rfl; have vf0 := pV.f 0 _ rfl; have v1 := pV.c 1 _ rfl; have vf1 := pV.f 1 _ rfl; have v9 := pV.lt; clear pV) | (with_reducible have KV := Lib.hid (kv_old KV.out hc9); have pV := KV.out.2; have v0 := pV.c 0 _ rfl; have vf0 := pV.f 0 _ rfl; have v1 := pV.c 1 _ rfl; have vf1 := pV.f 1 _ rfl; have v9 := pV.lt; clear pV) | skip); have HX := Lib.hid hb9; clear hb9 hc9)
          | (go_at_call 117; with_reducible refine Calls.mono (DDV.out _ (by first | exact BD.out | exact BD2.out | exact HX.out | exact HX.out.alloc HX.out.size _)) ?_; rintro e9 w9 ⟨rfl, hb9, hc9⟩; have pX := KX.out.below hb9; have qX0 := pX.c 0 _ rfl; have qX1 := pX.c 1 _ rfl; clear pX; (first | (with_reducible have KV := Lib.hid (kv_drew (vs := #[.int .i64 0, .int .u64 0]) (t := 79) hc9); have pV := KV.out.2; have v0 := pV.c 0 _ rfl; have vf0 := pV.f 0 _ rfl; have v1 := pV.c 1 _ rfl; have vf1 := pV.f 1 _ rfl; have v9 := pV.lt; clear pV) | (with_reducible have KV := Lib.hid (kv_new (vs := #[.int .i64 0, .int .u64 0]) (t := 79) HX.out hc9); have pV := KV.out.2; have v0 := pV.c 0 _ rfl; have vf0 := pV.f 0 _ rfl; have v1 := pV.c 1 _ rfl; have vf1 := pV.f 1 _ rfl; have v9 := pV.lt; clear pV) | (with_reducible have KV := Lib.hid (kv_old KV.out hc9); have pV := KV.out.2; have v0 := pV.c 0 _ rfl; have vf0 := pV.f 0 _ rfl; have v1 := pV.c 1 _ rfl; have vf1 := pV.f 1 _ rfl; have v9 := pV.lt; clear pV) | skip); have HX := Lib.hid hb9; clear hb9 hc9))
      all_goals
        first
          | (have FN := kv_set2n (.int .i64 (hiW v)) (.int .u64 (loW v)) KV.out HX.out; have FB := Lib.hid FN.1; have KN := Lib.hid FN.2.1; have n0N := FN.2.2; clear FN; generalize World.setCell (World.setCell _ _ (.int .i64 (hiW v))) _ (.int .u64 (loW v)) = w1 at *)
          | (have FN := kv_putn (vs := #[.int .i64 (hiW v), .int .u64 (loW v)]) (t := 79) HX.out; have FB := Lib.hid FN.1; have KN := Lib.hid FN.2.1; have n0N := FN.2.2; clear FN; generalize (World.alloc _ (.cells #[.int .i64 (hiW v), .int .u64 (loW v)] 79)) = w1 at *)
        have nN := Nat.le_trans HB.out.size n0N
        have neN_X := Nat.ne_of_gt (Nat.lt_of_lt_of_le KX.out.lt n0N)
        replace HB := Lib.hid (HB.out.trans (FB.out.mono HB.out.size))
        replace KX := Lib.hid (KX.out.below FB.out)
        have yN := KN.out
        have yN_0 := yN.c 0 _ rfl
        have yN_1 := yN.c 1 _ rfl
        have yN_z := yN.lt
        clear yN
        go_wp2_with fail
        refine (IN.out _).mono ?_
        rintro e2 w2 ⟨rfl, hb2⟩
        replace HB := Lib.hid (HB.out.trans (hb2.mono HB.out.size))
        replace KX := Lib.hid (KX.out.below hb2)
        replace KN := Lib.hid (KN.out.below hb2)
        clear yN_0 yN_1 yN_z
        clear hb2
        go_wp2
        all_goals go_ret2
        all_goals exact ⟨rfl, HB.out⟩
set_option maxHeartbeats 8000000 in
set_option maxRecDepth 100000 in
theorem apart_any (p x d : Int) (w : World) (hp : I64 p) (hd : I64 d) (hx : FitW x) (h1 : FitW (p * d - x)) (h2 : FitW (-(p * d - x))) :
    Calls Tryz.prog 62 #[.int .i64 p, wv x, .int .i64 d] w fun e w' => e = .returned (wv (absZ (p * d - x))) ∧ Below w.heap.size w w' := by
  have MU := Lib.hid fun w => wmul_any p d w hp.lo hp.hi hd.lo hd.hi
  have SB := Lib.hid fun w => wsub_any (p * d) x w (mul_fit hp.lo hp.hi hd.lo hd.hi) hx h1
  have AB := Lib.hid fun w => wwabs_any (p * d - x) w h1 h2
  unfold wv1 at AB
  clear hp hd hx h1 h2
  generalize absZ (p * d - x) = r at *
  generalize p * d - x = v at *
  generalize p * d = q at *
  unfold wv at *
  have KX := Lib.hid ((Blk.of (vs := #[.int .i64 (hiW x), .int .u64 (loW x)]) (t := 79) (w := w) (b := w.heap.size) (by simp)).alloc (.cells #[.int .i64 0, .int .u64 0] 79))
  have KZ := Lib.hid (Blk.of (vs := #[.int .i64 0, .int .u64 0]) (t := 79) (w := (w.alloc (.cells #[.int .i64 (hiW x), .int .u64 (loW x)] 79))) (b := w.heap.size + 1) (by simp))
  have HB := Lib.hid (((Below.refl w.heap.size w).alloc (by simp; try omega) (.cells #[.int .i64 (hiW x), .int .u64 (loW x)] 79)).alloc (by simp; try omega) (.cells #[.int .i64 0, .int .u64 0] 79))
  go_enter Tryz.func62, Tryz.ntmps62
  go_wp2_with fail
  generalize (w.alloc (.cells #[.int .i64 (hiW x), .int .u64 (loW x)] 79)).alloc (.cells #[.int .i64 0, .int .u64 0] 79) = w0 at *
  have BD := Lib.hid (show Below w0.heap.size w0 w0.drew from ⟨rfl, rfl, rfl, Nat.le_refl _, fun _ _ => rfl⟩)
  have BD2 := Lib.hid (below_drew_alloc w0 (.cells #[.int .i64 0, .int .u64 0] 79))
  have DMU := Lib.hid fun W (h : Below w0.heap.size w0 W) => (MU.out W).mono fun e w' ⟨h1, h2⟩ => show _ ∧ Below w0.heap.size w0 w' ∧ Below W.heap.size W w' from ⟨h1, h.trans (h2.mono h.size), h2⟩
  have DSB := Lib.hid fun W (h : Below w0.heap.size w0 W) => (SB.out W).mono fun e w' ⟨h1, h2⟩ => show _ ∧ Below w0.heap.size w0 w' ∧ Below W.heap.size W w' from ⟨h1, h.trans (h2.mono h.size), h2⟩
  have yX := KX.out
  have yX_0 := yX.c 0 _ rfl
  have yX_1 := yX.c 1 _ rfl
  have yX_z := yX.lt
  clear yX
  go_region_held3 (fun w' => w'.cell? ⟨w.heap.size, 0, none⟩ = some (.int .i64 (hiW x)) ∧ w'.cell? ⟨w.heap.size, 1, none⟩ = some (.int .u64 (loW x))) (first | (refine ⟨?_, ?_⟩ <;> first | assumption | (rw [far2 KV.out.1 yX_z]; assumption)) | go_keep)
    (first
      | (go_at_call 60; with_reducible refine Calls.mono (DMU.out _ (by first | exact BD.out | exact BD2.out | exact HX.out | exact HX.out.alloc HX.out.size _)) ?_; rintro e9 w9 ⟨rfl, hb9, hc9⟩; have pX := KX.out.below hb9; have qX0 := pX.c 0 _ rfl; have qX1 := pX.c 1 _ rfl; clear pX; (first | (with_reducible have KV := Lib.hid (kv_drew (vs := #[.int .i64 0, .int .u64 0]) (t := 79) hc9); have pV := KV.out.2; have v0 := pV.c 0 _ rfl; have vf0 := pV.f 0 _ rfl; have v1 := pV.c 1 _ rfl; have vf1 := pV.f 1 _ rfl; have v9 := pV.lt; clear pV) | (with_reducible have KV := Lib.hid (kv_new (vs := #[.int .i64 0, .int .u64 0]) (t := 79) HX.out hc9); have pV := KV.out.2; have v0 := pV.c 0 _ rfl; have vf0 := pV.f 0 _ rfl; have v1 := pV.c 1 _ rfl; have vf1 := pV.f 1 _ rfl; have v9 := pV.lt; clear pV) | (with_reducible have KV := Lib.hid (kv_old KV.out hc9); have pV := KV.out.2; have v0 := pV.c 0 _ rfl; have vf0 := pV.f 0 _ rfl; have v1 := pV.c 1 _ rfl; have vf1 := pV.f 1 _ rfl; have v9 := pV.lt; clear pV) | skip); have HX := Lib.hid hb9; clear hb9 hc9)
      | (go_at_call 82; with_reducible refine Calls.mono (DSB.out _ (by first | exact BD.out | exact BD2.out | exact HX.out | exact HX.out.alloc HX.out.size _)) ?_; rintro e9 w9 ⟨rfl, hb9, hc9⟩; have pX := KX.out.below hb9; have qX0 := pX.c 0 _ rfl; have qX1 := pX.c 1 _ rfl; clear pX; (first | (with_reducible have KV := Lib.hid (kv_drew (vs := #[.int .i64 0, .int .u64 0]) (t := 79) hc9); have pV := KV.out.2; have v0 := pV.c 0 _ rfl; have vf0 := pV.f 0 _ rfl; have v1 := pV.c 1 _ rfl; have vf1 := pV.f 1 _ rfl; have v9 := pV.lt; clear pV) | (with_reducible have KV := Lib.hid (kv_new (vs := #[.int .i64 0, .int .u64 0]) (t := 79) HX.out hc9); have pV := KV.out.2; have v0 := pV.c 0 _ rfl; have vf0 := pV.f 0 _ rfl; have v1 := pV.c 1 _ rfl; have vf1 := pV.f 1 _ rfl; have v9 := pV.lt; clear pV) | (with_reducible have KV := Lib.hid (kv_old KV.out hc9); have pV := KV.out.2; have v0 := pV.c 0 _ rfl; have vf0 := pV.f 0 _ rfl; have v1 := pV.c 1 _ rfl; have vf1 := pV.f 1 _ rfl; have v9 := pV.lt; clear pV) | skip); have HX := Lib.hid hb9; clear hb9 hc9))
  all_goals
    first
      | (have FN := kv_set2n (.int .i64 (hiW v)) (.int .u64 (loW v)) KV.out HX.out; have FB := Lib.hid FN.1; have KN := Lib.hid FN.2.1; have n0N := FN.2.2; clear FN; generalize World.setCell (World.setCell _ _ (.int .i64 (hiW v))) _ (.int .u64 (loW v)) = w1 at *)
      | (have FN := kv_putn (vs := #[.int .i64 (hiW v), .int .u64 (loW v)]) (t := 79) HX.out; have FB := Lib.hid FN.1; have KN := Lib.hid FN.2.1; have n0N := FN.2.2; clear FN; generalize (World.alloc _ (.cells #[.int .i64 (hiW v), .int .u64 (loW v)] 79)) = w1 at *)
    have nN := Nat.le_trans HB.out.size n0N
    have neN_X := Nat.ne_of_gt (Nat.lt_of_lt_of_le KX.out.lt n0N)
    have neN_Z := Nat.ne_of_gt (Nat.lt_of_lt_of_le KZ.out.lt n0N)
    replace HB := Lib.hid (HB.out.trans (FB.out.mono HB.out.size))
    replace KX := Lib.hid (KX.out.below FB.out)
    replace KZ := Lib.hid (KZ.out.below FB.out)
    have yN := KN.out
    have yN_0 := yN.c 0 _ rfl
    have yN_1 := yN.c 1 _ rfl
    have yN_z := yN.lt
    clear yN
    go_wp2_with fail
    refine (AB.out _).mono ?_
    rintro e2 w2 ⟨rfl, hb2⟩
    replace HB := Lib.hid (HB.out.trans (hb2.mono HB.out.size))
    replace KX := Lib.hid (KX.out.below hb2)
    replace KZ := Lib.hid (KZ.out.below hb2)
    replace KN := Lib.hid (KN.out.below hb2)
    clear yN_0 yN_1 yN_z
    clear hb2
    have yZ := KZ.out
    have yZ_0 := yZ.c 0 _ rfl
    have yZ_1 := yZ.c 1 _ rfl
    have yZ_z := yZ.lt
    have yZ_f0 := yZ.f 0 _ rfl
    have yZ_f1 := yZ.f 1 _ rfl
    clear yZ
    have yN := KN.out
    have yN_0 := yN.c 0 _ rfl
    have yN_1 := yN.c 1 _ rfl
    have yN_z := yN.lt
    have yN_f0 := yN.f 0 _ rfl
    have yN_f1 := yN.f 1 _ rfl
    clear yN
    go_wp2
    replace KX := Lib.hid (blk_other (j := 1) (blk_other (j := 0) KX.out neN_X (.int .i64 (hiW r))) neN_X (.int .u64 (loW r)))
    replace KZ := Lib.hid (blk_other (j := 1) (blk_other (j := 0) KZ.out neN_Z (.int .i64 (hiW r))) neN_Z (.int .u64 (loW r)))
    replace KN := Lib.hid (blk_set (blk_set KN.out (j := 0) (by simp) (.int .i64 (hiW r))) (j := 1) (by simp) (.int .u64 (loW r)))
    replace HB := Lib.hid ((HB.out.setCell (p := ⟨_, 0, none⟩) nN (.int .i64 (hiW r))).setCell (p := ⟨_, 1, none⟩) nN (.int .u64 (loW r)))
    clear yZ_0 yZ_1 yZ_z yZ_f0 yZ_f1 yN_0 yN_1 yN_z yN_f0 yN_f1
    generalize World.setCell (World.setCell _ _ (.int .i64 (hiW r))) _ (.int .u64 (loW r)) = w3 at *
    simp only [List.set] at KN
    replace KX := Lib.hid (blk_other (b := w.heap.size) (n := (w.heap.size + 1)) (j := 1) (blk_other (b := w.heap.size) (n := (w.heap.size + 1)) (j := 0) KX.out (by omega) (.int .i64 (hiW r))) (by omega) (.int .u64 (loW r)))
    replace KZ := Lib.hid (blk_set (blk_set KZ.out (j := 0) (by simp) (.int .i64 (hiW r))) (j := 1) (by simp) (.int .u64 (loW r)))
    replace KN := Lib.hid (blk_other (j := 1) (blk_other (j := 0) KN.out (Ne.symm neN_Z) (.int .i64 (hiW r))) (Ne.symm neN_Z) (.int .u64 (loW r)))
    replace HB := Lib.hid ((HB.out.setCell (p := ⟨(w.heap.size + 1), 0, none⟩) (show w.heap.size ≤ (w.heap.size + 1) by omega) (.int .i64 (hiW r))).setCell (p := ⟨(w.heap.size + 1), 1, none⟩) (show w.heap.size ≤ (w.heap.size + 1) by omega) (.int .u64 (loW r)))
    generalize (w3.setCell ⟨(w.heap.size + 1), 0, none⟩ (.int .i64 (hiW r))).setCell ⟨(w.heap.size + 1), 1, none⟩ (.int .u64 (loW r)) = w4 at *
    simp only [List.set] at KZ
    have yZ := KZ.out
    have yZ_0 := yZ.c 0 _ rfl
    have yZ_1 := yZ.c 1 _ rfl
    have yZ_z := yZ.lt
    clear yZ
    refine bodyPost_ret (v := .agg #[.int .i64 (hiW r), .int .u64 (loW r)]) (by simp [results, Tryz.results62, go_sem, yZ_0, yZ_1]) rfl ⟨rfl, HB.out⟩
end Go.Proofs.YtidelghgjibndaaGreat
namespace Go.Proofs.YtidelghgjibndaaGreat
set_option linter.unusedVariables false
open Go.RowKit
def absI (x : Int) : Int := if x < 0 then -x else x
theorem abs_any (x : Int) (w : World) (_h0 : -9223372036854775807 ≤ x) (_h1 : x ≤ 9223372036854775807) :
    Calls Tryz.prog 43 #[.int .i64 x] w fun e w' => e = .returned (.int .i64 (absI x)) ∧ w = w' := by
  have h2 : (x == -9223372036854775808) = false := by simp; omega
  go_enter Tryz.func43, Tryz.ntmps43
  go_wp2
  all_goals go_ret
  · exact ⟨ret_int (by unfold absI; rw [if_pos (by assumption)]), rfl⟩
  · exact ⟨ret_int (by unfold absI; rw [if_neg (by omega)]), rfl⟩
def vldP (x y : Int) : Bool := decide (-2000000 ≤ x ∧ x ≤ 2000000 ∧ -2000000 ≤ y ∧ y ≤ 2000000)
theorem vldP_iff {x y : Int} : vldP x y = true ↔ -2000000 ≤ x ∧ x ≤ 2000000 ∧ -2000000 ≤ y ∧ y ≤ 2000000 := by unfold vldP; rw [decide_eq_true_iff]
set_option maxHeartbeats 4000000 in
theorem vldP_any (x y : Int) (w : World) : Calls Tryz.prog 22 #[.agg #[.int .i64 x, .int .i64 y]] w fun e w' => e = .returned (.bool (vldP x y)) ∧ Below w.heap.size w w' := by
  have key : (decide (-2000000 ≤ x) = false ∧ vldP x y = false) ∨ (decide (-2000000 ≤ x) = true ∧ decide (x ≤ 2000000) = false ∧ vldP x y = false) ∨ (decide (-2000000 ≤ x) = true ∧ decide (x ≤ 2000000) = true ∧ decide (-2000000 ≤ y) = false ∧ vldP x y = false) ∨ (decide (-2000000 ≤ x) = true ∧ decide (x ≤ 2000000) = true ∧ decide (-2000000 ≤ y) = true ∧ decide (y ≤ 2000000) = false ∧ vldP x y = false) ∨ (decide (-2000000 ≤ x) = true ∧ decide (x ≤ 2000000) = true ∧ decide (-2000000 ≤ y) = true ∧ decide (y ≤ 2000000) = true ∧ vldP x y = true) := by
    unfold vldP
    simp only [decide_eq_true_eq, decide_eq_false_iff_not]
    omega
  rcases key with ⟨g0, E⟩ | ⟨g0, g1, E⟩ | ⟨g0, g1, g2, E⟩ | ⟨g0, g1, g2, g3, E⟩ | ⟨g0, g1, g2, g3, E⟩
  all_goals
    rw [E]
    clear E
    go_enter Tryz.func22, Tryz.ntmps22
    go_wp2
    go_ret
    exact ⟨rfl, (Below.refl _ _).alloc (Nat.le_refl _) _⟩
theorem regrown_drewN {B : Nat} {w w' : World} {P : Program} {f : FuncId} {args : Array Value} {v : Value} (h : Calls P f args w fun e w' => e = .returned v ∧ w = w') : Calls P f args w fun e w' => e = .returned v ∧ Below w.heap.size w w' :=
  h.mono fun e w' ⟨h1, h2⟩ => ⟨h1, by rw [← h2]; exact Below.refl _ _⟩
theorem lst_form {l : List Ms} {v : Value} {w : World} (h : LstAt l v w) : ∃ p cap, v = .slice p l.length cap := by
  rcases h with ⟨rfl, rfl⟩ | ⟨b, o, cap, rfl, _⟩
  · exact ⟨none, 0, rfl⟩
  · exact ⟨_, _, rfl⟩
theorem lst_at {l : List Ms} {p : Option Addr} {cap : Nat} {w : World} (h : LstAt l (.slice p l.length cap) w) {k : Nat} (q : k < l.length) : ∃ b o, p = some ⟨b, o, none⟩ ∧ l.length ≤ cap ∧ cap ≤ 9223372036854775807 ∧ MsAt l b o w := by
  rcases h with ⟨_, rfl⟩ | ⟨b, o, cap', e, h2, h3, h4⟩
  · exact absurd q (by simp)
  · injection e with e1 e2 e3
    subst e3
    exact ⟨b, o, e1, h2, h3, h4⟩
theorem ex_blk {vs : List Value} {b : Nat} {W : World} (_ : Hid (Blk vs b W)) : ∃ b', b' = b := ⟨b, rfl⟩
end Go.Proofs.YtidelghgjibndaaGreat
namespace Go.Proofs.YtidelghgjibndaaGreat.S44
set_option linter.unusedVariables false
open Go.RowKit
theorem mul_abs {x y X Y : Int} (h1 : -X ≤ x) (h2 : x ≤ X) (h3 : -Y ≤ y) (h4 : y ≤ Y) : -(X * Y) ≤ x * y ∧ x * y ≤ X * Y := by
  have a := Int.mul_nonneg (show 0 ≤ X - x by omega) (show 0 ≤ Y + y by omega)
  have b := Int.mul_nonneg (show 0 ≤ X + x by omega) (show 0 ≤ Y - y by omega)
  have c := Int.mul_nonneg (show 0 ≤ X - x by omega) (show 0 ≤ Y - y by omega)
  have d := Int.mul_nonneg (show 0 ≤ X + x by omega) (show 0 ≤ Y + y by omega)
  have e1 : (X - x) * (Y + y) + (X + x) * (Y - y) = 2 * (X * Y) - 2 * (x * y) := by grind
  have e2 : (X - x) * (Y - y) + (X + x) * (Y + y) = 2 * (X * Y) + 2 * (x * y) := by grind
  omega
/-- a measurement whose numbers are small enough for the corners -/
structure EdM (m : Ms) : Prop where
  a0 : -256 ≤ m.a
  a1 : m.a ≤ 256
  b0 : -256 ≤ m.b
  b1 : m.b ≤ 256
  z0 : -4294967296 ≤ m.z
  z1 : m.z ≤ 4294967296
  d0 : 0 ≤ m.d
  d1 : m.d ≤ 8589934592
theorem OkM.ed {m : Ms} (h : OkM m) : EdM m := ⟨h.a0, h.a1, h.b0, h.b1, h.z0, h.z1, h.d0, by have := h.d1; omega⟩
structure SmC (c : Int) : Prop where
  lo : -12884901888 ≤ c
  hi : c ≤ 12884901888
theorem edge_sm {m : Ms} (h : EdM m) (s : Bool) : SmC (edgeC m s) := by
  have := h.z0
  have := h.z1
  have := h.d0
  have := h.d1
  unfold edgeC
  cases s
  · exact ⟨by show -12884901888 ≤ m.z - m.d; omega, by show m.z - m.d ≤ 12884901888; omega⟩
  · exact ⟨by show -12884901888 ≤ m.z + m.d; omega, by show m.z + m.d ≤ 12884901888; omega⟩
/-- a corner whose numbers are small enough -/
structure SmP (p : Cr) : Prop where
  x0 : -6597069766656 ≤ p.x
  x1 : p.x ≤ 6597069766656
  y0 : -6597069766656 ≤ p.y
  y1 : p.y ≤ 6597069766656
  d0 : 0 ≤ p.d
  d1 : p.d ≤ 131072
theorem cross_sm {m n : Ms} (hm : EdM m) (hn : EdM n) {c e : Int} (hc : SmC c) (he : SmC e) : SmP (crossC m n c e) := by
  have p1 := mul_abs (X := 12884901888) (Y := 256) hc.lo hc.hi hn.b0 hn.b1
  have p2 := mul_abs (X := 12884901888) (Y := 256) he.lo he.hi hm.b0 hm.b1
  have p3 := mul_abs (X := 256) (Y := 12884901888) hm.a0 hm.a1 he.lo he.hi
  have p4 := mul_abs (X := 256) (Y := 12884901888) hn.a0 hn.a1 hc.lo hc.hi
  have p5 := mul_abs (X := 256) (Y := 256) hm.a0 hm.a1 hn.b0 hn.b1
  have p6 := mul_abs (X := 256) (Y := 256) hn.a0 hn.a1 hm.b0 hm.b1
  unfold crossC detM
  split
  · constructor <;> simp only <;> omega
  · constructor <;> simp only <;> omega
theorem edges_any (m : Ms) (w : World) (h : EdM m) :
    Calls Tryz.prog 68 #[.agg #[.int .i64 m.s, .int .i64 m.a, .int .i64 m.b, .int .i64 m.z, .int .i64 m.d, .int .i64 m.w]] w
      fun e w' => e = .returned (.agg #[.int .i64 m.a, .int .i64 m.b, .int .i64 (edgeC m false), .int .i64 m.a, .int .i64 m.b, .int .i64 (edgeC m true)]) ∧ Below w.heap.size w w' := by
  have z0 := h.z0
  have z1 := h.z1
  have d0 := h.d0
  have d1 := h.d1
  have E1 := Lib.hid (show edgeC m false = m.z - m.d from rfl)
  have E2 := Lib.hid (show edgeC m true = m.z + m.d from rfl)
  clear h
  generalize edgeC m false = c at *
  generalize edgeC m true = e at *
  obtain ⟨s, a, b, z, d, t⟩ := m
  simp only at z0 z1 d0 d1 E1 E2 ⊢
  go_enter Tryz.func68, Tryz.ntmps68
  go_wp2
  refine bodyPost_ret (v := .agg #[.int .i64 a, .int .i64 b, .int .i64 (z - d), .int .i64 a, .int .i64 b, .int .i64 (z + d)]) (by simp [results, Tryz.results68, go_sem]) rfl ⟨by rw [E1.out, E2.out], ?_⟩
  exact ((Below.refl w.heap.size w).alloc (by simp) _).alloc (by simp) _
theorem below_set3 {B n : Nat} {w w1 : World} (h : Below B w w1) (hB : B ≤ n) (u v x : Value) : Below B w (((w1.setCell ⟨n, 0, none⟩ u).setCell ⟨n, 1, none⟩ v).setCell ⟨n, 2, none⟩ x) :=
  ((h.setCell (p := ⟨n, 0, none⟩) hB u).setCell (p := ⟨n, 1, none⟩) hB v).setCell (p := ⟨n, 2, none⟩) hB x
/-- what meet gives -/
def meetF (m n : Ms) (c e : Int) : Cr × Bool := if detM m n = 0 then (⟨0, 0, 0⟩, false) else (crossC m n c e, true)
set_option maxHeartbeats 1000000 in
theorem meet_any (m n : Ms) (c e : Int) (w : World) (hm : EdM m) (hn : EdM n) (hc : SmC c) (he : SmC e) :
    Calls Tryz.prog 69 #[.agg #[.int .i64 m.a, .int .i64 m.b, .int .i64 c], .agg #[.int .i64 n.a, .int .i64 n.b, .int .i64 e]] w
      fun r w' => r = .returned (.tuple #[.agg #[.int .i64 (meetF m n c e).1.x, .int .i64 (meetF m n c e).1.y, .int .i64 (meetF m n c e).1.d], .bool (meetF m n c e).2]) ∧ Below w.heap.size w w' := by
  have p1 := mul_abs (X := 12884901888) (Y := 256) hc.lo hc.hi hn.b0 hn.b1
  have p2 := mul_abs (X := 12884901888) (Y := 256) he.lo he.hi hm.b0 hm.b1
  have p3 := mul_abs (X := 256) (Y := 12884901888) hm.a0 hm.a1 he.lo he.hi
  have p4 := mul_abs (X := 256) (Y := 12884901888) hn.a0 hn.a1 hc.lo hc.hi
  have p5 := mul_abs (X := 256) (Y := 256) hm.a0 hm.a1 hn.b0 hn.b1
  have p6 := mul_abs (X := 256) (Y := 256) hn.a0 hn.a1 hm.b0 hm.b1
  have E0 : meetF m n c e = if detM m n = 0 then (⟨0, 0, 0⟩, false) else (crossC m n c e, true) := rfl
  have ED : detM m n = m.a * n.b - n.a * m.b := rfl
  have EC : crossC m n c e = if detM m n < 0 then ⟨-(c * n.b - e * m.b), -(m.a * e - n.a * c), -detM m n⟩ else ⟨c * n.b - e * m.b, m.a * e - n.a * c, detM m n⟩ := rfl
  rw [ED] at E0 EC
  clear ED hm hn hc he
  generalize crossC m n c e = C at *
  generalize meetF m n c e = M at *
  obtain ⟨ms, a, b, mz, md, mw⟩ := m
  obtain ⟨ns, a', b', nz, nd, nw⟩ := n
  simp only at p1 p2 p3 p4 p5 p6 E0 EC ⊢
  obtain ⟨p10, p11⟩ := p1
  obtain ⟨p20, p21⟩ := p2
  obtain ⟨p30, p31⟩ := p3
  obtain ⟨p40, p41⟩ := p4
  obtain ⟨p50, p51⟩ := p5
  obtain ⟨p60, p61⟩ := p6
  have s1 : IntKind.i64.wrap (c * b') = c * b' := IntWalk.i64_in _ (by omega)
  have s2 : IntKind.i64.wrap (e * b) = e * b := IntWalk.i64_in _ (by omega)
  have s3 : IntKind.i64.wrap (a * e) = a * e := IntWalk.i64_in _ (by omega)
  have s4 : IntKind.i64.wrap (a' * c) = a' * c := IntWalk.i64_in _ (by omega)
  have s5 : IntKind.i64.wrap (c * b' - e * b) = c * b' - e * b := IntWalk.i64_in _ (by omega)
  have s6 : IntKind.i64.wrap (a * e - a' * c) = a * e - a' * c := IntWalk.i64_in _ (by omega)
  by_cases hz : a * b' - a' * b = 0
  · have g : (a * b' - a' * b == 0) = true := by simpa using hz
    have E := Lib.hid (E0.trans (if_pos hz))
    clear hz E0 EC
    go_enter Tryz.func69, Tryz.ntmps69
    go_wp2
    go_quiet (fail)
    clear s1 s2 s3 s4 s5 s6
    go_wp2
    refine bodyPost_ret (v := .tuple #[.agg #[.int .i64 0, .int .i64 0, .int .i64 0], .bool false]) (by simp [results, Tryz.results69, go_sem]) rfl ⟨by rw [E.out], ?_⟩
    exact below_set3 (below_drewN (((Below.refl w.heap.size w).alloc (by simp) _).alloc (by simp) _ |>.alloc (by simp; try omega) _) _) (by omega) _ _ _
  · have g : (a * b' - a' * b == 0) = false := by simpa using hz
    by_cases hn : a * b' - a' * b < 0
    · have g2 : decide (a * b' - a' * b < 0) = true := by simpa using hn
      have E := Lib.hid (E0.trans (if_neg hz))
      have EE := Lib.hid (EC.trans (if_pos hn))
      clear hz E0 EC hn
      go_enter Tryz.func69, Tryz.ntmps69
      go_wp2
      go_quiet (fail)
      clear s1 s2 s3 s4 s5 s6
      go_wp2
      refine bodyPost_ret (v := .tuple #[.agg #[.int .i64 (-(c * b' - e * b)), .int .i64 (-(a * e - a' * c)), .int .i64 (-(a * b' - a' * b))], .bool true]) (by simp [results, Tryz.results69, go_sem]) rfl ⟨by rw [E.out, EE.out], ?_⟩
      exact below_set3 (below_drewN (((Below.refl w.heap.size w).alloc (by simp) _).alloc (by simp) _ |>.alloc (by simp; try omega) _) _) (by omega) _ _ _
    · have g2 : decide (a * b' - a' * b < 0) = false := by simpa using hn
      have E := Lib.hid (E0.trans (if_neg hz))
      have EE := Lib.hid (EC.trans (if_neg hn))
      clear hz E0 EC hn
      go_enter Tryz.func69, Tryz.ntmps69
      go_wp2
      go_quiet (fail)
      clear s1 s2 s3 s4 s5 s6
      go_wp2
      refine bodyPost_ret (v := .tuple #[.agg #[.int .i64 (c * b' - e * b), .int .i64 (a * e - a' * c), .int .i64 (a * b' - a' * b)], .bool true]) (by simp [results, Tryz.results69, go_sem]) rfl ⟨by rw [E.out, EE.out], ?_⟩
      exact below_set3 (below_drewN (((Below.refl w.heap.size w).alloc (by simp) _).alloc (by simp) _ |>.alloc (by simp; try omega) _) _) (by omega) _ _ _
end Go.Proofs.YtidelghgjibndaaGreat.S44
namespace Go.Proofs.YtidelghgjibndaaGreat.S44
set_option linter.unusedVariables false
open Go.RowKit
def inB (p : Cr) (m : Ms) : Bool := decide (absI (gI m p.x p.y p.d) ≤ m.d * p.d)
theorem inB_iff {p : Cr} {m : Ms} : inB p m = true ↔ In1 m p.x p.y p.d := by
  unfold inB absI
  rw [decide_eq_true_iff]
  constructor
  · intro h
    split at h
    · exact ⟨by omega, by omega⟩
    · exact ⟨by omega, by omega⟩
  · rintro ⟨h1, h2⟩
    split <;> omega
def holdsB (l : List Ms) (p : Cr) : Bool := l.all (inB p)
theorem holdsB_iff {l : List Ms} {p : Cr} : holdsB l p = true ↔ In l p.x p.y p.d := by
  unfold holdsB
  rw [List.all_eq_true]
  exact ⟨fun h m hm => inB_iff.1 (h m hm), fun h m hm => inB_iff.2 (h m hm)⟩
def HoldR (l : List Ms) (p : Cr) (w : World) (v : Value) (wr : World) : Prop := ∃ k : Nat, v = .int .i64 k ∧ k ≤ l.length ∧ Hid (∀ i, i < k → inB p (nth l i) = true) ∧ Below w.heap.size w wr
set_option maxHeartbeats 2000000 in
theorem holds_some (l : List Ms) (p : Cr) (b o cap : Nat) (w : World) (h : MsAt l b o w) (hc : l.length ≤ cap) (hm : cap ≤ 9223372036854775807) (he : ∀ m ∈ l, EdM m) (hp : SmP p) :
    Calls Tryz.prog 70 #[.slice (some ⟨b, o, none⟩) l.length cap, .agg #[.int .i64 p.x, .int .i64 p.y, .int .i64 p.d]] w fun e w' => e = .returned (.bool (holdsB l p)) ∧ Below w.heap.size w w' := by
  have H := Lib.hid h
  have hlt := h.lt
  have HE := Lib.hid he
  have HP := Lib.hid hp
  clear h he hp
  go_enter Tryz.func70, Tryz.ntmps70
  go_wp2
  generalize hw0 : w.alloc (.cells #[.int .i64 p.x, .int .i64 p.y, .int .i64 p.d] 133) = w0 at *
  have y0 : w0.cell? ⟨w.heap.size, 0, none⟩ = some (.int .i64 p.x) := by rw [← hw0, World.cell?_alloc_at _ _ _ _ rfl]; rfl
  have y1 : w0.cell? ⟨w.heap.size, 1, none⟩ = some (.int .i64 p.y) := by rw [← hw0, World.cell?_alloc_at _ _ _ _ rfl]; rfl
  have y2 : w0.cell? ⟨w.heap.size, 2, none⟩ = some (.int .i64 p.d) := by rw [← hw0, World.cell?_alloc_at _ _ _ _ rfl]; rfl
  have hs0 : w.heap.size < w0.heap.size := by rw [← hw0]; simp
  have hb0 : Below w.heap.size w w0 := by rw [← hw0]; exact (Below.refl _ _).alloc (Nat.le_refl _) _
  have Y0 := Lib.hid y0
  have Y1 := Lib.hid y1
  have Y2 := Lib.hid y2
  have HB0 := Lib.hid hb0
  clear hw0 y0 y1 y2 hb0
  go_loopw [9] (HoldR l p w0) (fun i _ => l.length - (intOf i).toNat)
  case atStart => exact ⟨0, rfl, Nat.zero_le _, Lib.hid fun i hi => absurd hi (by omega), Below.refl _ _⟩
  case round =>
    obtain ⟨k, rfl, hk, hok, hbr⟩ := hrel
    have HB := Lib.hid hbr
    by_cases q : k < l.length
    · have q' : decide (k < l.length) = true := by simpa using q
      have M := H.out.keep (HB0.out.trans (hbr.mono HB0.out.size)) hlt
      have x0 := (hbr.cell (p := ⟨w.heap.size, 0, none⟩) hs0).trans Y0.out
      have x1 := (hbr.cell (p := ⟨w.heap.size, 1, none⟩) hs0).trans Y1.out
      have x2 := (hbr.cell (p := ⟨w.heap.size, 2, none⟩) hs0).trans Y2.out
      have hsr : w.heap.size < wr.heap.size := Nat.lt_of_lt_of_le hs0 hbr.size
      have c0 := M.c0 k q
      have c1 := M.c1 k q
      have c2 := M.c2 k q
      have c3 := M.c3 k q
      have c4 := M.c4 k q
      have c5 := M.c5 k q
      have ed := HE.out _ (nth_mem q)
      have hp := HP.out
      have EV := Lib.hid (show inB p (nth l k) = decide (absI ((nth l k).a * p.x + (nth l k).b * p.y - (nth l k).z * p.d) ≤ (nth l k).d * p.d) from rfl)
      have MEM := Lib.hid (nth_mem q)
      clear M hbr
      obtain ⟨p10, p11⟩ := mul_abs (X := 256) (Y := 6597069766656) ed.a0 ed.a1 hp.x0 hp.x1
      obtain ⟨p20, p21⟩ := mul_abs (X := 256) (Y := 6597069766656) ed.b0 ed.b1 hp.y0 hp.y1
      have d0 := hp.d0
      have d1 := hp.d1
      obtain ⟨p30, p31⟩ := mul_abs (X := 4294967296) (Y := 131072) ed.z0 ed.z1 (by omega) d1
      have dd0 := ed.d0
      have dd1 := ed.d1
      obtain ⟨p40, p41⟩ := mul_abs (X := 8589934592) (Y := 131072) (x := (nth l k).d) (by omega) dd1 (by omega) d1
      clear ed hp
      generalize hN : nth l k = m at *
      have HN := Lib.hid hN
      clear hN
      obtain ⟨ms, ma, mb, mz, md, mw⟩ := m
      obtain ⟨px, py, pd⟩ := p
      simp only at *
      have s1 : IntKind.i64.wrap (ma * px) = ma * px := IntWalk.i64_in _ (by omega)
      have s2 : IntKind.i64.wrap (mb * py) = mb * py := IntWalk.i64_in _ (by omega)
      have s3 : IntKind.i64.wrap (mz * pd) = mz * pd := IntWalk.i64_in _ (by omega)
      have s4 : IntKind.i64.wrap (md * pd) = md * pd := IntWalk.i64_in _ (by omega)
      have s5 : IntKind.i64.wrap (ma * px + mb * py) = ma * px + mb * py := IntWalk.i64_in _ (by omega)
      have s6 : IntKind.i64.wrap (ma * px + mb * py - mz * pd) = ma * px + mb * py - mz * pd := IntWalk.i64_in _ (by omega)
      have AB := Lib.hid fun w => abs_any (ma * px + mb * py - mz * pd) w (by omega) (by omega)
      generalize absI (ma * px + mb * py - mz * pd) = v at *
      by_cases hv : v ≤ md * pd
      · have g : decide (md * pd < v) = false := by simp; omega
        have EE := Lib.hid (EV.out.trans (decide_eq_true hv))
        clear hv
        go_wp2_with fail
        go_quiet ((go_at_call 43; first | exact quiet_left (AB.out _) | exact quiet_add_left (AB.out _)))
        clear s1 s2 s3 s4 s5 s6
        go_wp2
        go_roundw
        case rel =>
          refine ⟨k + 1, by go_num, by omega, Lib.hid fun i hi => ?_, HB.out.trans ((below_drewN ((Below.refl _ _).alloc (Nat.le_refl _) _) _).mono HB.out.size)⟩
          by_cases e : i = k
          · rw [e, HN.out]; exact EE.out
          · exact hok.out i (by omega)
        case measure => simp [intOf]; omega
      · have g : decide (md * pd < v) = true := by simp; omega
        have EE := Lib.hid (EV.out.trans (decide_eq_false hv))
        clear hv
        go_wp2_with fail
        go_quiet ((go_at_call 43; first | exact quiet_left (AB.out _) | exact quiet_add_left (AB.out _)))
        clear s1 s2 s3 s4 s5 s6
        go_wp2
        go_ret
        refine ⟨ret_b ?_, HB0.out.trans ((HB.out.trans ((below_drewN ((Below.refl _ _).alloc (Nat.le_refl _) _) _).mono HB.out.size)).mono HB0.out.size)⟩
        cases hx : holdsB l ⟨px, py, pd⟩
        · rfl
        · unfold holdsB at hx
          have := List.all_eq_true.1 hx _ MEM.out
          rw [EE.out] at this
          cases this
    · go_wp2
      go_ret
      refine ⟨ret_b ?_, HB0.out.trans (HB.out.mono HB0.out.size)⟩
      symm
      unfold holdsB
      refine List.all_eq_true.2 fun m hm => ?_
      obtain ⟨i, hi, rfl⟩ := List.getElem_of_mem hm
      rw [← nth_eq hi]
      exact hok.out i (by omega)
theorem holds_nil (p : Cr) (w : World) :
    Calls Tryz.prog 70 #[.slice none 0 0, .agg #[.int .i64 p.x, .int .i64 p.y, .int .i64 p.d]] w fun e w' => e = .returned (.bool true) ∧ Below w.heap.size w w' := by
  go_enter Tryz.func70, Tryz.ntmps70
  go_wp2
  go_loop [9] (fun v => v = .int .i64 0) (fun _ => 0)
  case atStart => rfl
  case round =>
    subst hrel
    go_wp2
    go_ret
    exact ⟨rfl, (Below.refl _ _).alloc (Nat.le_refl _) _⟩
theorem holds_any (l : List Ms) (p : Cr) (v : Value) (w : World) (h : LstAt l v w) (he : ∀ m ∈ l, EdM m) (hp : SmP p) :
    Calls Tryz.prog 70 #[v, .agg #[.int .i64 p.x, .int .i64 p.y, .int .i64 p.d]] w fun e w' => e = .returned (.bool (holdsB l p)) ∧ Below w.heap.size w w' := by
  rcases h with ⟨rfl, rfl⟩ | ⟨b, o, cap, rfl, h2, h3, h4⟩
  · exact holds_nil p w
  · exact holds_some l p b o cap w h4 h2 h3 he hp
end Go.Proofs.YtidelghgjibndaaGreat.S44
namespace Go.Proofs.YtidelghgjibndaaGreat.S44
set_option linter.unusedVariables false
open Go.RowKit
def pairsUpto (l : List Ms) (i : Nat) : List (Ms × Ms) := (List.range i).flatMap fun k => (l.take k).map fun n => (nth l k, n)
def pairsAt (l : List Ms) (i j : Nat) : List (Ms × Ms) := pairsUpto l i ++ (l.take j).map fun n => (nth l i, n)
def pairsL (l : List Ms) : List (Ms × Ms) := pairsUpto l l.length
theorem pairsAt_zero (l : List Ms) (i : Nat) : pairsAt l i 0 = pairsUpto l i := by unfold pairsAt; simp
theorem pairsAt_full (l : List Ms) (i : Nat) : pairsAt l i i = pairsUpto l (i + 1) := by
  unfold pairsAt pairsUpto
  rw [List.range_succ, List.flatMap_append]
  simp
theorem pairsAt_succ {l : List Ms} {i j : Nat} (h : j < l.length) : pairsAt l i (j + 1) = pairsAt l i j ++ [(nth l i, nth l j)] := by
  unfold pairsAt
  rw [take_nth h, List.map_append, ← List.append_assoc]
  rfl
theorem pairsUpto_len (l : List Ms) (i : Nat) : (pairsUpto l i).length ≤ i * l.length := by
  induction i with
  | zero => simp [pairsUpto]
  | succ i ih =>
    rw [← pairsAt_full]
    unfold pairsAt
    rw [List.length_append, List.length_map, List.length_take, Nat.succ_mul]
    omega
theorem pairsAt_len {l : List Ms} {i j : Nat} (hl : l.length ≤ 17) (hi : i < l.length) : (pairsAt l i j).length ≤ 306 := by
  unfold pairsAt
  rw [List.length_append, List.length_map, List.length_take]
  have := pairsUpto_len l i
  have h2 : i * l.length ≤ 17 * 17 := Nat.mul_le_mul (by omega) hl
  omega
/-- two measurements are a pair of the list exactly if the second stands before the first -/
theorem mem_pairs {l : List Ms} {p : Ms × Ms} : p ∈ pairsL l ↔ ∃ i j, j < i ∧ i < l.length ∧ p = (nth l i, nth l j) := by
  unfold pairsL pairsUpto
  rw [List.mem_flatMap]
  constructor
  · rintro ⟨k, hk, hp⟩
    rw [List.mem_range] at hk
    rw [List.mem_map] at hp
    obtain ⟨n, hn, rfl⟩ := hp
    obtain ⟨j, hj, rfl⟩ := List.getElem_of_mem hn
    rw [List.length_take] at hj
    refine ⟨k, j, by omega, hk, ?_⟩
    rw [List.getElem_take, nth_eq (show j < l.length by omega)]
  · rintro ⟨i, j, hj, hi, rfl⟩
    refine ⟨i, List.mem_range.2 hi, List.mem_map.2 ⟨nth l j, ?_, rfl⟩⟩
    rw [nth_eq (show j < l.length by omega)]
    rw [List.mem_take_iff_getElem]
    exact ⟨j, by omega, rfl⟩
/-- what was there and is not owned is as it was -/
structure KeepX (Own : World → Nat → Prop) (W w' : World) : Prop where
  size : W.heap.size ≤ w'.heap.size
  keep : ∀ k, k < W.heap.size → ¬ Own W k → w'.heap[k]? = W.heap[k]? ∧ ¬ Own w' k
/-- what a closure is called with: an invariant of pairs and world -/
structure InvX (l : List Ms) (b o : Nat) (Inv : List (Ms × Ms) → World → Prop) (Own : World → Nat → Prop) : Prop where
  at' : ∀ acc W, Inv acc W → MsAt l b o W
  alloc : ∀ acc W ob, Inv acc W → Inv acc (W.alloc ob) ∧ ¬ Own (W.alloc ob) W.heap.size ∧ ∀ k, k < W.heap.size → ¬ Own W k → ¬ Own (W.alloc ob) k
/-- a measurement's copy in a block of its own -/
structure CopyAt (m : Ms) (bm : Nat) (W : World) : Prop where
  lt : bm < W.heap.size
  c0 : W.cell? ⟨bm, 0, none⟩ = some (.int .i64 m.s)
  c1 : W.cell? ⟨bm, 1, none⟩ = some (.int .i64 m.a)
  c2 : W.cell? ⟨bm, 2, none⟩ = some (.int .i64 m.b)
  c3 : W.cell? ⟨bm, 3, none⟩ = some (.int .i64 m.z)
  c4 : W.cell? ⟨bm, 4, none⟩ = some (.int .i64 m.d)
  c5 : W.cell? ⟨bm, 5, none⟩ = some (.int .i64 m.w)
theorem copy_new (m : Ms) (w : World) (t : TypeId) : CopyAt m w.heap.size (w.alloc (.cells #[.int .i64 m.s, .int .i64 m.a, .int .i64 m.b, .int .i64 m.z, .int .i64 m.d, .int .i64 m.w] t)) :=
  ⟨by simp, by rw [World.cell?_alloc_at _ _ _ _ rfl]; rfl, by rw [World.cell?_alloc_at _ _ _ _ rfl]; rfl, by rw [World.cell?_alloc_at _ _ _ _ rfl]; rfl, by rw [World.cell?_alloc_at _ _ _ _ rfl]; rfl, by rw [World.cell?_alloc_at _ _ _ _ rfl]; rfl, by rw [World.cell?_alloc_at _ _ _ _ rfl]; rfl⟩
theorem CopyAt.same {m : Ms} {bm : Nat} {W w' : World} (h : CopyAt m bm W) (hk : w'.heap[bm]? = W.heap[bm]?) (hs : W.heap.size ≤ w'.heap.size) : CopyAt m bm w' :=
  ⟨Nat.lt_of_lt_of_le h.lt hs, (World.cell?_of_block (w := W) (a := ⟨bm, 0, none⟩) hk).trans h.c0, (World.cell?_of_block (w := W) (a := ⟨bm, 1, none⟩) hk).trans h.c1, (World.cell?_of_block (w := W) (a := ⟨bm, 2, none⟩) hk).trans h.c2, (World.cell?_of_block (w := W) (a := ⟨bm, 3, none⟩) hk).trans h.c3, (World.cell?_of_block (w := W) (a := ⟨bm, 4, none⟩) hk).trans h.c4, (World.cell?_of_block (w := W) (a := ⟨bm, 5, none⟩) hk).trans h.c5⟩
theorem CopyAt.below {m : Ms} {bm : Nat} {W w' : World} (h : CopyAt m bm W) (hb : Below W.heap.size W w') : CopyAt m bm w' := h.same (hb.block bm h.lt) hb.size
def R1full (l : List Ms) (Inv : List (Ms × Ms) → World → Prop) (v : Value) (W : World) : Prop := ∃ i : Nat, v = .int .i64 i ∧ i ≤ l.length ∧ Hid (Inv (pairsUpto l i) W)
def R2full (l : List Ms) (Inv : List (Ms × Ms) → World → Prop) (Own : World → Nat → Prop) (i bm : Nat) (v : Value) (W : World) : Prop := ∃ j : Nat, v = .int .i64 j ∧ j ≤ i ∧ Hid (Inv (pairsAt l i j) W) ∧ Hid (CopyAt (nth l i) bm W) ∧ Hid (¬ Own W bm)
set_option maxHeartbeats 4000000 in
theorem pairs_full (l : List Ms) (b o cap : Nat) (w0 : World) (a0 : Addr) (Inv : List (Ms × Ms) → World → Prop) (Own : World → Nat → Prop) (hl : l.length ≤ 17) (hc : l.length ≤ cap) (hm : cap ≤ 9223372036854775807)
    (hX : InvX l b o Inv Own) (h0 : Inv [] w0)
    (hstep : ∀ acc m n W, m ∈ l → n ∈ l → acc.length ≤ 306 → Inv acc W → Calls Tryz.prog 66 #[.agg #[.int .i64 m.s, .int .i64 m.a, .int .i64 m.b, .int .i64 m.z, .int .i64 m.d, .int .i64 m.w], .agg #[.int .i64 n.s, .int .i64 n.a, .int .i64 n.b, .int .i64 n.z, .int .i64 n.d, .int .i64 n.w], .pointer (some a0)] W
      fun e w' => e = .returned (.tuple #[]) ∧ Inv (acc ++ [(m, n)]) w' ∧ KeepX Own W w') :
    Calls Tryz.prog 65 #[.slice (some ⟨b, o, none⟩) l.length cap, .func (.func 66) #[] #[.pointer (some a0)]] w0 fun e w' => e = .returned (.tuple #[]) ∧ Inv (pairsL l) w' := by
  have HX := Lib.hid hX
  have HS := Lib.hid hstep
  have H0 := Lib.hid h0
  clear hX hstep h0
  go_enter Tryz.func65, Tryz.ntmps65
  go_wp2
  go_loopw [10] (R1full l Inv) (fun i _ => l.length - (intOf i).toNat)
  case atStart => exact ⟨0, rfl, Nat.zero_le _, H0⟩
  case round =>
    obtain ⟨i, rfl, hi, HI⟩ := hrel
    by_cases q : i < l.length
    · have q' : decide (i < l.length) = true := by simpa using q
      have M := HX.out.at' _ _ HI.out
      have c0 := M.c0 i q
      have c1 := M.c1 i q
      have c2 := M.c2 i q
      have c3 := M.c3 i q
      have c4 := M.c4 i q
      have c5 := M.c5 i q
      have AL := Lib.hid (HX.out.alloc _ _ (.cells #[.int .i64 (nth l i).s, .int .i64 (nth l i).a, .int .i64 (nth l i).b, .int .i64 (nth l i).z, .int .i64 (nth l i).d, .int .i64 (nth l i).w] 59) HI.out)
      have CO := Lib.hid (copy_new (nth l i) wr 59)
      have MI := Lib.hid (nth_mem q)
      have LE := Lib.hid fun j => pairsAt_len (l := l) (i := i) (j := j) hl q
      have hic : i ≤ cap := by omega
      clear M HI
      go_wp2_with fail
      generalize hbm : wr.heap.size = bm at *
      generalize hwo : wr.alloc (.cells #[.int .i64 (nth l i).s, .int .i64 (nth l i).a, .int .i64 (nth l i).b, .int .i64 (nth l i).z, .int .i64 (nth l i).d, .int .i64 (nth l i).w] 59) = wo at *
      have HBM := Lib.hid hbm
      clear hbm hwo c0 c1 c2 c3 c4 c5
      go_loopw [19] (R2full l Inv Own i bm) (fun j _ => i - (intOf j).toNat)
      case atStart => exact ⟨0, rfl, Nat.zero_le _, by rw [pairsAt_zero]; exact AL.out.1, CO, AL.out.2.1⟩
      case round =>
        obtain ⟨j, rfl, hj, HI, HC, HN⟩ := hrel
        by_cases r : j < i
        · have r' : decide (j < i) = true := by simpa using r
          have hjl : j < l.length := by omega
          have M := HX.out.at' _ _ HI.out
          have c0 := M.c0 j hjl
          have c1 := M.c1 j hjl
          have c2 := M.c2 j hjl
          have c3 := M.c3 j hjl
          have c4 := M.c4 j hjl
          have c5 := M.c5 j hjl
          have hc := HC.out
          have x0 := hc.c0
          have x1 := hc.c1
          have x2 := hc.c2
          have x3 := hc.c3
          have x4 := hc.c4
          have x5 := hc.c5
          have hbl := hc.lt
          have AL2 := Lib.hid (HX.out.alloc _ _ (.cells #[.int .i64 (nth l j).s, .int .i64 (nth l j).a, .int .i64 (nth l j).b, .int .i64 (nth l j).z, .int .i64 (nth l j).d, .int .i64 (nth l j).w] 59) HI.out)
          have ST := Lib.hid (HS.out (pairsAt l i j) (nth l i) (nth l j) _ MI.out (nth_mem hjl) (LE.out j) AL2.out.1)
          have PS := Lib.hid (pairsAt_succ (l := l) (i := i) hjl)
          clear M HI hc
          go_wp2_with (go_at_call 66; refine ST.out.mono ?_; rintro e w2 ⟨rfl, hi2, hk2⟩)
          go_roundw
          case rel =>
            have hn2 := AL2.out.2.2 bm hbl HN.out
            have hlt2 : bm < (wr.alloc (.cells #[.int .i64 (nth l j).s, .int .i64 (nth l j).a, .int .i64 (nth l j).b, .int .i64 (nth l j).z, .int .i64 (nth l j).d, .int .i64 (nth l j).w] 59)).heap.size := by simp; omega
            have hk := hk2.keep bm hlt2 hn2
            exact ⟨j + 1, by go_num, by omega, by rw [PS.out]; exact hi2, (HC.out.below ((Below.refl _ _).alloc (Nat.le_refl _) _)).same hk.1 hk2.size, hk.2⟩
          case measure => simp [intOf]; omega
        · obtain rfl : j = i := by omega
          have PF := Lib.hid (pairsAt_full l j)
          go_wp2
          go_roundw
          case rel => exact ⟨j + 1, by go_num, by omega, by rw [← PF.out]; exact HI⟩
          case measure => simp [intOf]; omega
    · obtain rfl : i = l.length := by omega
      go_wp2
      go_end0
      exact ⟨rfl, HI.out⟩
def R1cor (l : List Ms) (Inv : List (Ms × Ms) → World → Prop) (v : Value) (W : World) : Prop := ∃ i : Nat, v = .int .i64 i ∧ i ≤ l.length ∧ Hid (Inv (pairsUpto l i) W)
def R2cor (l : List Ms) (Inv : List (Ms × Ms) → World → Prop) (Own : World → Nat → Prop) (i bm : Nat) (v : Value) (W : World) : Prop := ∃ j : Nat, v = .int .i64 j ∧ j ≤ i ∧ Hid (Inv (pairsAt l i j) W) ∧ Hid (CopyAt (nth l i) bm W) ∧ Hid (¬ Own W bm)
set_option maxHeartbeats 4000000 in
theorem pairs_cor (l : List Ms) (b o cap : Nat) (w0 : World) (a0 a1 : Addr) (Inv : List (Ms × Ms) → World → Prop) (Own : World → Nat → Prop) (hl : l.length ≤ 17) (hc : l.length ≤ cap) (hm : cap ≤ 9223372036854775807)
    (hX : InvX l b o Inv Own) (h0 : Inv [] w0)
    (hstep : ∀ acc m n W, m ∈ l → n ∈ l → acc.length ≤ 306 → Inv acc W → Calls Tryz.prog 67 #[.agg #[.int .i64 m.s, .int .i64 m.a, .int .i64 m.b, .int .i64 m.z, .int .i64 m.d, .int .i64 m.w], .agg #[.int .i64 n.s, .int .i64 n.a, .int .i64 n.b, .int .i64 n.z, .int .i64 n.d, .int .i64 n.w], .pointer (some a0), .pointer (some a1)] W
      fun e w' => e = .returned (.tuple #[]) ∧ Inv (acc ++ [(m, n)]) w' ∧ KeepX Own W w') :
    Calls Tryz.prog 65 #[.slice (some ⟨b, o, none⟩) l.length cap, .func (.func 67) #[] #[.pointer (some a0), .pointer (some a1)]] w0 fun e w' => e = .returned (.tuple #[]) ∧ Inv (pairsL l) w' := by
  have HX := Lib.hid hX
  have HS := Lib.hid hstep
  have H0 := Lib.hid h0
  clear hX hstep h0
  go_enter Tryz.func65, Tryz.ntmps65
  go_wp2
  go_loopw [10] (R1cor l Inv) (fun i _ => l.length - (intOf i).toNat)
  case atStart => exact ⟨0, rfl, Nat.zero_le _, H0⟩
  case round =>
    obtain ⟨i, rfl, hi, HI⟩ := hrel
    by_cases q : i < l.length
    · have q' : decide (i < l.length) = true := by simpa using q
      have M := HX.out.at' _ _ HI.out
      have c0 := M.c0 i q
      have c1 := M.c1 i q
      have c2 := M.c2 i q
      have c3 := M.c3 i q
      have c4 := M.c4 i q
      have c5 := M.c5 i q
      have AL := Lib.hid (HX.out.alloc _ _ (.cells #[.int .i64 (nth l i).s, .int .i64 (nth l i).a, .int .i64 (nth l i).b, .int .i64 (nth l i).z, .int .i64 (nth l i).d, .int .i64 (nth l i).w] 59) HI.out)
      have CO := Lib.hid (copy_new (nth l i) wr 59)
      have MI := Lib.hid (nth_mem q)
      have LE := Lib.hid fun j => pairsAt_len (l := l) (i := i) (j := j) hl q
      have hic : i ≤ cap := by omega
      clear M HI
      go_wp2_with fail
      generalize hbm : wr.heap.size = bm at *
      generalize hwo : wr.alloc (.cells #[.int .i64 (nth l i).s, .int .i64 (nth l i).a, .int .i64 (nth l i).b, .int .i64 (nth l i).z, .int .i64 (nth l i).d, .int .i64 (nth l i).w] 59) = wo at *
      have HBM := Lib.hid hbm
      clear hbm hwo c0 c1 c2 c3 c4 c5
      go_loopw [19] (R2cor l Inv Own i bm) (fun j _ => i - (intOf j).toNat)
      case atStart => exact ⟨0, rfl, Nat.zero_le _, by rw [pairsAt_zero]; exact AL.out.1, CO, AL.out.2.1⟩
      case round =>
        obtain ⟨j, rfl, hj, HI, HC, HN⟩ := hrel
        by_cases r : j < i
        · have r' : decide (j < i) = true := by simpa using r
          have hjl : j < l.length := by omega
          have M := HX.out.at' _ _ HI.out
          have c0 := M.c0 j hjl
          have c1 := M.c1 j hjl
          have c2 := M.c2 j hjl
          have c3 := M.c3 j hjl
          have c4 := M.c4 j hjl
          have c5 := M.c5 j hjl
          have hc := HC.out
          have x0 := hc.c0
          have x1 := hc.c1
          have x2 := hc.c2
          have x3 := hc.c3
          have x4 := hc.c4
          have x5 := hc.c5
          have hbl := hc.lt
          have AL2 := Lib.hid (HX.out.alloc _ _ (.cells #[.int .i64 (nth l j).s, .int .i64 (nth l j).a, .int .i64 (nth l j).b, .int .i64 (nth l j).z, .int .i64 (nth l j).d, .int .i64 (nth l j).w] 59) HI.out)
          have ST := Lib.hid (HS.out (pairsAt l i j) (nth l i) (nth l j) _ MI.out (nth_mem hjl) (LE.out j) AL2.out.1)
          have PS := Lib.hid (pairsAt_succ (l := l) (i := i) hjl)
          clear M HI hc
          go_wp2_with (go_at_call 67; refine ST.out.mono ?_; rintro e w2 ⟨rfl, hi2, hk2⟩)
          go_roundw
          case rel =>
            have hn2 := AL2.out.2.2 bm hbl HN.out
            have hlt2 : bm < (wr.alloc (.cells #[.int .i64 (nth l j).s, .int .i64 (nth l j).a, .int .i64 (nth l j).b, .int .i64 (nth l j).z, .int .i64 (nth l j).d, .int .i64 (nth l j).w] 59)).heap.size := by simp; omega
            have hk := hk2.keep bm hlt2 hn2
            exact ⟨j + 1, by go_num, by omega, by rw [PS.out]; exact hi2, (HC.out.below ((Below.refl _ _).alloc (Nat.le_refl _) _)).same hk.1 hk2.size, hk.2⟩
          case measure => simp [intOf]; omega
        · obtain rfl : j = i := by omega
          have PF := Lib.hid (pairsAt_full l j)
          go_wp2
          go_roundw
          case rel => exact ⟨j + 1, by go_num, by omega, by rw [← PF.out]; exact HI⟩
          case measure => simp [intOf]; omega
    · obtain rfl : i = l.length := by omega
      go_wp2
      go_end0
      exact ⟨rfl, HI.out⟩
end Go.Proofs.YtidelghgjibndaaGreat.S44
namespace Go.Proofs.YtidelghgjibndaaGreat.S44
set_option linter.unusedVariables false
open Go.RowKit
def crossB (p : Ms × Ms) : Bool := p.1.a * p.2.b != p.2.a * p.1.b
def fullB (l : List Ms) : Bool := (pairsL l).any crossB
theorem crossB_iff {m n : Ms} : crossB (m, n) = true ↔ detM m n ≠ 0 := by
  unfold crossB detM
  simp only [bne_iff_ne, ne_eq]
  omega
theorem fullB_iff {l : List Ms} : fullB l = true ↔ Full l := by
  unfold fullB Full
  rw [List.any_eq_true]
  constructor
  · rintro ⟨p, hp, hc⟩
    obtain ⟨i, j, hj, hi, rfl⟩ := mem_pairs.1 hp
    exact ⟨_, nth_mem hi, _, nth_mem (by omega), crossB_iff.1 hc⟩
  · rintro ⟨m, hm, n, hn, hd⟩
    obtain ⟨i, hi, rfl⟩ := List.getElem_of_mem hm
    obtain ⟨j, hj, rfl⟩ := List.getElem_of_mem hn
    rcases Nat.lt_trichotomy i j with h | h | h
    · refine ⟨(nth l j, nth l i), mem_pairs.2 ⟨j, i, h, hj, rfl⟩, crossB_iff.2 ?_⟩
      rw [nth_eq hj, nth_eq hi, det_swap]
      omega
    · subst h
      exact absurd (show detM l[i] l[i] = 0 by unfold detM; omega) hd
    · refine ⟨(nth l i, nth l j), mem_pairs.2 ⟨i, j, h, hi, rfl⟩, crossB_iff.2 ?_⟩
      rw [nth_eq hj, nth_eq hi]
      exact hd
/-- the closure's world: the flag in block bf -/
structure FulI (w : World) (bf : Nat) (f : Bool) (W : World) : Prop where
  below : Below w.heap.size w W
  le : w.heap.size ≤ bf
  lt : bf < W.heap.size
  cell : W.cell? ⟨bf, 0, none⟩ = some (.bool f)
  frz : W.frozen? ⟨bf, 0, none⟩ = false
theorem FulI.alloc {w : World} {bf : Nat} {f : Bool} {W : World} (h : FulI w bf f W) (o : Obj) : FulI w bf f (W.alloc o) := by
  have hb := (Below.refl W.heap.size W).alloc (Nat.le_refl _) o
  have hl := h.lt
  exact ⟨h.below.alloc h.below.size o, h.le, by simp; omega, (hb.cell (p := ⟨bf, 0, none⟩) hl).trans h.cell, (hb.frozen (p := ⟨bf, 0, none⟩) hl).trans h.frz⟩
theorem FulI.store {w : World} {bf : Nat} {f : Bool} {W : World} (h : FulI w bf f W) (g : Bool) : FulI w bf g (W.setCell ⟨bf, 0, none⟩ (.bool g)) :=
  ⟨h.below.setCell (p := ⟨bf, 0, none⟩) h.le _, h.le, by have := h.lt; simpa [World.setCell] using this, World.cell?_setCell_same' W _ _ (by rw [h.cell]; rfl), by rw [World.frozen?_setCell]; exact h.frz⟩
theorem keepx_store (bf : Nat) (W : World) (o1 o2 : Obj) (v : Value) : KeepX (fun _ k => k = bf) W (((W.setCell ⟨bf, 0, none⟩ v).alloc o1).alloc o2) := by
  have hs : (W.setCell ⟨bf, 0, none⟩ v).heap.size = W.heap.size := by simp [World.setCell]
  exact ⟨by rw [World.size_alloc, World.size_alloc, hs]; omega, fun k hk hn => ⟨by
    rw [Below.heap_alloc _ _ _ (by rw [World.size_alloc, hs]; omega), Below.heap_alloc _ _ _ (by rw [hs]; exact hk), Below.heap_setCell _ _ _ _ (by simpa using hn)], hn⟩⟩
set_option maxHeartbeats 1000000 in
theorem full_fn (m n : Ms) (w W : World) (bf : Nat) (f : Bool) (h : FulI w bf f W) (hm : EdM m) (hn : EdM n) :
    Calls Tryz.prog 66 #[.agg #[.int .i64 m.s, .int .i64 m.a, .int .i64 m.b, .int .i64 m.z, .int .i64 m.d, .int .i64 m.w], .agg #[.int .i64 n.s, .int .i64 n.a, .int .i64 n.b, .int .i64 n.z, .int .i64 n.d, .int .i64 n.w], .pointer (some ⟨bf, 0, none⟩)] W
      fun e w' => e = .returned (.tuple #[]) ∧ FulI w bf (f || crossB (m, n)) w' ∧ KeepX (fun _ k => k = bf) W w' := by
  obtain ⟨p10, p11⟩ := mul_abs (X := 256) (Y := 256) hm.a0 hm.a1 hn.b0 hn.b1
  obtain ⟨p20, p21⟩ := mul_abs (X := 256) (Y := 256) hn.a0 hn.a1 hm.b0 hm.b1
  have EB : crossB (m, n) = (m.a * n.b != n.a * m.b) := rfl
  have I2 := Lib.hid fun o1 o2 => (h.alloc o1).alloc o2
  have HX := Lib.hid h
  have kc := fun o1 o2 => ((h.alloc o1).alloc o2).cell
  have kf := fun o1 o2 => ((h.alloc o1).alloc o2).frz
  have hl := h.lt
  clear hm hn h
  generalize crossB (m, n) = g at *
  obtain ⟨ms, a, b, mz, md, mw⟩ := m
  obtain ⟨ns, a', b', nz, nd, nw⟩ := n
  simp only at p10 p11 p20 p21 EB ⊢
  cases f with
  | true =>
    clear EB
    go_enter Tryz.func66, Tryz.ntmps66
    go_wp2
    go_end0
    exact ⟨rfl, ((HX.out.store _).alloc _).alloc _, keepx_store _ _ _ _ _⟩
  | false =>
    have E := EB.symm
    clear EB
    go_enter Tryz.func66, Tryz.ntmps66
    go_wp2
    go_end0
    exact ⟨rfl, ((HX.out.store _).alloc _).alloc _, keepx_store _ _ _ _ _⟩
theorem full_some (l : List Ms) (b o cap : Nat) (w : World) (h : MsAt l b o w) (hc : l.length ≤ cap) (hm : cap ≤ 9223372036854775807) (he : ∀ m ∈ l, EdM m) (hl : l.length ≤ 17) :
    Calls Tryz.prog 39 #[.slice (some ⟨b, o, none⟩) l.length cap] w fun e w' => e = .returned (.bool (fullB l)) ∧ Below w.heap.size w w' := by
  have HP := Lib.hid fun W1 (h0 : FulI w w.heap.size false W1) => pairs_full l b o cap W1 ⟨w.heap.size, 0, none⟩ (fun acc W => FulI w w.heap.size (acc.any crossB) W) (fun _ k => k = w.heap.size) hl hc hm
    ⟨fun acc W hi => h.below hi.below, fun acc W ob hi => ⟨hi.alloc ob, by have := hi.lt; show W.heap.size ≠ w.heap.size; omega, fun k _ hn => hn⟩⟩ h0
    (fun acc m n W hm hn _ hi => (full_fn m n w W w.heap.size _ hi (he m hm) (he n hn)).mono fun e w' ⟨h1, h2, h3⟩ => ⟨h1, by rw [List.any_append]; simpa using h2, h3⟩)
  have H0 := Lib.hid (show ∀ t, FulI w w.heap.size false (w.alloc (.cells #[.bool false] t)) from fun t => ⟨(Below.refl _ _).alloc (Nat.le_refl _) _, Nat.le_refl _, by simp, by rw [World.cell?_alloc_at _ _ _ _ rfl]; rfl, by go_simp⟩)
  have EF := Lib.hid (show fullB l = (pairsL l).any crossB from rfl)
  clear h he
  go_enter Tryz.func39, Tryz.ntmps39
  go_wp2_with (go_at_call 65; refine (HP.out _ (H0.out _)).mono ?_; rintro e w2 ⟨rfl, hi⟩; have hcell := hi.cell; have hbl := Lib.hid hi.below; clear hi)
  go_ret
  exact ⟨ret_b EF.out.symm, hbl.out⟩
theorem pairs_nil (F : FuncId) (cs : Array Value) (w : World) :
    Calls Tryz.prog 65 #[.slice none 0 0, .func (.func F) #[] cs] w fun e w' => e = .returned (.tuple #[]) ∧ w = w' := by
  go_enter Tryz.func65, Tryz.ntmps65
  go_wp2
  go_loop [10] (fun v => v = .int .i64 0) (fun _ => 0)
  case atStart => rfl
  case round =>
    subst hrel
    go_wp2
    go_end0
    exact ⟨rfl, rfl⟩
theorem full_nil (w : World) :
    Calls Tryz.prog 39 #[.slice none 0 0] w fun e w' => e = .returned (.bool false) ∧ Below w.heap.size w w' := by
  go_enter Tryz.func39, Tryz.ntmps39
  go_wp2_with (go_at_call 65; refine (pairs_nil _ _ _).mono ?_; rintro e w2 ⟨rfl, rfl⟩)
  go_ret
  exact ⟨rfl, (Below.refl _ _).alloc (Nat.le_refl _) _⟩
theorem full_any (l : List Ms) (v : Value) (w : World) (h : LstAt l v w) (he : ∀ m ∈ l, EdM m) (hl : l.length ≤ 17) :
    Calls Tryz.prog 39 #[v] w fun e w' => e = .returned (.bool (fullB l)) ∧ Below w.heap.size w w' := by
  rcases h with ⟨rfl, rfl⟩ | ⟨b, o, cap, rfl, h2, h3, h4⟩
  · exact full_nil w
  · exact full_some l b o cap w h4 h2 h3 he hl
end Go.Proofs.YtidelghgjibndaaGreat.S44
namespace Go.Proofs.YtidelghgjibndaaGreat.S44
set_option linter.unusedVariables false
open Go.RowKit
def crC (l : List Cr) : List Value := l.flatMap fun p => [Value.int .i64 p.x, Value.int .i64 p.y, Value.int .i64 p.d]
theorem crC_append (l k : List Cr) : crC (l ++ k) = crC l ++ crC k := by unfold crC; rw [List.flatMap_append]
theorem crC_len (l : List Cr) : (crC l).length = l.length * 3 := by
  unfold crC
  induction l with
  | nil => rfl
  | cons p r ih => simp only [List.flatMap_cons, List.length_append, List.length_cons, List.length_nil, ih]; omega
theorem crC_get : ∀ (l : List Cr) (i : Nat) (h : i < l.length), (crC l)[i * 3]? = some (.int .i64 l[i].x) ∧ (crC l)[i * 3 + 1]? = some (.int .i64 l[i].y) ∧ (crC l)[i * 3 + 2]? = some (.int .i64 l[i].d)
  | [], i, h => absurd h (by simp)
  | p :: l, 0, h => ⟨rfl, rfl, rfl⟩
  | p :: l, i + 1, h => by
    obtain ⟨a, b, c⟩ := crC_get l i (by simpa using h)
    unfold crC at *
    rw [List.flatMap_cons, show (i + 1) * 3 = i * 3 + 3 by omega]
    exact ⟨a, b, c⟩
/-- a slice of the call's own that holds these corners -/
def OC (B : Nat) (w : World) (v : Value) (l : List Cr) : Prop := w.ownsRow B 133 3 v l.length (crC l)
theorem infoCor : (Tryz.prog.info? 133).map (fun i => (i.zero, i.size, i.bytes)) = some (some (.agg #[.int .i64 0, .int .i64 0, .int .i64 0]), 3, 24) := by kernel_rfl
theorem wpList_oc {ops : Array Oper} {rest : List Oper} {o : Oper} {a : Act} {Q : Exit → Act → World → Prop} (hgd : o.guard = none) (s x : Operand)
    (ho : o.op = .call { callee := .builtin .append, args := #[s, x], argTypes := #[99, 99] })
    (B : Nat) (v : Value) (l : List Cr) (hs : a.eval s = v) (w0 : World) (h : OC B w0 v l) (T : TypeId) (p : Cr) (c : Nat)
    (hx : a.eval x = .slice (some ⟨w0.heap.size, 0, none⟩) 1 c) (hl : l.length ≤ 100000) (hB : B ≤ w0.heap.size)
    (H : ∀ v' w', OC B w' v' (l ++ [p]) → (w0.alloc (.cells #[.int .i64 p.x, .int .i64 p.y, .int .i64 p.d] T)).grownBy w' v.ownBlock → (v'.ownBlock = v.ownBlock ∨ v'.ownBlock = some (w0.heap.size + 1)) → wpList Tryz.prog ops Q rest (a.put o.dst v') w') :
    wpList Tryz.prog ops Q (o :: rest) a (w0.alloc (.cells #[.int .i64 p.x, .int .i64 p.y, .int .i64 p.d] T)) := by
  obtain ⟨i0, hi, hz0, hz1, hz2⟩ := info_parts infoCor
  refine wpList_append_own_at _ hgd s x 99 ho B 133 i0 (.agg #[.int .i64 0, .int .i64 0, .int .i64 0]) 3 24 Tryz.underlying99 hi hz0 hz1 hz2 rfl (by decide) v l.length (crC l) hs (World.ownsRow.alloc h _) ⟨w0.heap.size, 0, none⟩ 1 c (crC [p]) hx (by rw [crC_len]; rfl) ?_ ?_ (by unfold maxLen; omega) (by omega) (by simp; omega) ?_
  · intro j u hu
    have hadd : (⟨w0.heap.size, 0, none⟩ : Addr).add j = ⟨w0.heap.size, j, none⟩ := by unfold Addr.add; split <;> simp_all
    rw [hadd, World.cell?_alloc_at _ _ _ _ (by rfl)]
    unfold crC at hu
    simpa using hu
  · intro u hu
    unfold crC at hu
    simp only [List.flatMap_cons, List.flatMap_nil, List.append_nil, List.mem_cons, List.not_mem_nil, or_false] at hu
    rcases hu with rfl | rfl | rfl <;> rfl
  · intro v' w' ho' hg _ hat
    refine H v' w' (by unfold OC; rw [List.length_append, crC_append]; exact ho') hg ?_
    simpa using hat
/-- what is owned: the block of the variable, and that of the slice in it -/
def OwnC (bo : Nat) (W : World) (k : Nat) : Prop := k = bo ∨ ∃ u, W.cell? ⟨bo, 0, none⟩ = some u ∧ u.ownBlock = some k
/-- the closure's world: the list in block bl, the slice in block bo -/
structure CorI (w : World) (bl bo : Nat) (v u : Value) (C : List Cr) (W : World) : Prop where
  below : Below w.heap.size w W
  le : w.heap.size ≤ bo
  lb : bl ≤ bo
  lt : bo < W.heap.size
  lst : W.cell? ⟨bl, 0, none⟩ = some v
  cell : W.cell? ⟨bo, 0, none⟩ = some u
  frz : W.frozen? ⟨bo, 0, none⟩ = false
  own : OC (bo + 1) W u C
theorem CorI.keep {w : World} {bl bo : Nat} {v u : Value} {C : List Cr} {W w' : World} (h : CorI w bl bo v u C W) (hb : Below W.heap.size W w') : CorI w bl bo v u C w' := by
  have hl := h.lt
  refine ⟨h.below.trans (hb.mono h.below.size), h.le, h.lb, Nat.lt_of_lt_of_le hl hb.size, (hb.cell (p := ⟨bl, 0, none⟩) ?_).trans h.lst, (hb.cell (p := ⟨bo, 0, none⟩) hl).trans h.cell, (hb.frozen (p := ⟨bo, 0, none⟩) hl).trans h.frz, ?_⟩
  · have := h.lb
    show bl < W.heap.size
    omega
  · refine World.ownsRow.kept h.own (grown_of_below hb) ?_
    cases u.ownBlock <;> simp
theorem keepx_below {bo : Nat} {W w' : World} (hl : bo < W.heap.size) (hb : Below W.heap.size W w') : KeepX (OwnC bo) W w' :=
  ⟨hb.size, fun k hk hn => ⟨hb.block k hk, fun h => hn (by
    rcases h with h | ⟨u, h1, h2⟩
    · exact .inl h
    · exact .inr ⟨u, by rw [← h1]; exact (hb.cell (p := ⟨bo, 0, none⟩) hl).symm, h2⟩)⟩⟩
theorem KeepX.trans {Own : World → Nat → Prop} {a b c : World} (h : KeepX Own a b) (g : KeepX Own b c) : KeepX Own a c :=
  ⟨Nat.le_trans h.size g.size, fun k hk hn => by
    obtain ⟨h1, h2⟩ := h.keep k hk hn
    obtain ⟨g1, g2⟩ := g.keep k (Nat.lt_of_lt_of_le hk h.size) h2
    exact ⟨g1.trans h1, g2⟩⟩
theorem own_new {w : World} {bl bo : Nat} {v u : Value} {C : List Cr} {W : World} (h : CorI w bl bo v u C W) {k : Nat} (hk : W.heap.size ≤ k) : ¬ OwnC bo W k := by
  rintro (rfl | ⟨x, h1, h2⟩)
  · have := h.lt; omega
  · rw [h.cell] at h1
    obtain rfl := Option.some.inj h1
    have := (World.ownsRow.lt h.own k h2).2
    omega
theorem own_alloc {w : World} {bl bo : Nat} {v u : Value} {C : List Cr} {W : World} (h : CorI w bl bo v u C W) (o : Obj) : ¬ OwnC bo (W.alloc o) W.heap.size := by
  rintro (e | ⟨x, h1, h2⟩)
  · have := h.lt; omega
  · rw [(h.keep ((Below.refl _ _).alloc (Nat.le_refl _) o)).cell] at h1
    obtain rfl := Option.some.inj h1
    have := (World.ownsRow.lt h.own _ h2).2
    omega
/-- one corner appended and stored -/
theorem CorI.push {w : World} {bl bo : Nat} {v u u' : Value} {C : List Cr} {p : Cr} {W w5 : World} {ob : Obj} (h : CorI w bl bo v u C W) (hlb : bl ≠ bo) (hown : OC (bo + 1) w5 u' (C ++ [p])) (hg : (W.alloc ob).grownBy w5 u.ownBlock)
    (hat : u'.ownBlock = u.ownBlock ∨ u'.ownBlock = some (W.heap.size + 1)) :
    CorI w bl bo v u' (C ++ [p]) (w5.setCell ⟨bo, 0, none⟩ u') ∧ KeepX (OwnC bo) W (w5.setCell ⟨bo, 0, none⟩ u') := by
  have hb := (Below.refl W.heap.size W).alloc (Nat.le_refl _) ob
  have h2 := h.keep hb
  have hl := h.lt
  have hlb' := h.lb
  have hr : ∀ k, u.ownBlock = some k → bo + 1 ≤ k := fun k hk => (World.ownsRow.lt h.own k hk).1
  have hs := hg.size
  rw [World.size_alloc] at hs
  have hb5 : Below (bo + 1) (W.alloc ob) w5 := ⟨hg.os, hg.tape, hg.output, hg.size, fun k hk => hg.block k (by rw [World.size_alloc]; omega) (fun e => by have := hr k e.symm; omega)⟩
  have hc5 : w5.cell? ⟨bo, 0, none⟩ = some u := (hb5.cell (p := ⟨bo, 0, none⟩) (Nat.lt_succ_self bo)).trans h2.cell
  have hss : (w5.setCell ⟨bo, 0, none⟩ u').heap.size = w5.heap.size := by simp [World.setCell]
  have hcs : (w5.setCell ⟨bo, 0, none⟩ u').cell? ⟨bo, 0, none⟩ = some u' := World.cell?_setCell_same' w5 _ _ (by rw [hc5]; rfl)
  refine ⟨⟨?_, h.le, h.lb, by rw [hss]; omega, ?_, hcs, ?_, ?_⟩, by rw [hss]; omega, fun k hk hn => ⟨?_, ?_⟩⟩
  · exact (h2.below.trans (hb5.mono (by have := h.le; omega))).setCell (p := ⟨bo, 0, none⟩) h.le _
  · rw [World.cell?_setCell_far _ _ _ _ (show bo ≠ bl by omega)]
    exact (hb5.cell (p := ⟨bl, 0, none⟩) (show bl < bo + 1 by omega)).trans h2.lst
  · rw [World.frozen?_setCell]
    exact (hb5.frozen (p := ⟨bo, 0, none⟩) (Nat.lt_succ_self bo)).trans h2.frz
  · exact ownsRow_setCell_below hown (Nat.lt_succ_self bo) u'
  · have n1 : k ≠ bo := fun e => hn (.inl e)
    have n2 : some k ≠ u.ownBlock := fun e => hn (.inr ⟨u, h.cell, e.symm⟩)
    rw [Below.heap_setCell _ _ _ _ (by simpa using n1), hg.block k (by rw [World.size_alloc]; omega) n2, Below.heap_alloc _ _ _ hk]
  · rintro (e | ⟨x, h1, h3⟩)
    · exact hn (.inl e)
    · rw [hcs] at h1
      obtain rfl := Option.some.inj h1
      rcases hat with e | e
      · exact hn (.inr ⟨u, h.cell, by rw [← e]; exact h3⟩)
      · rw [e] at h3
        have := Option.some.inj h3
        omega
/-! the list -/
def pickC (R : List Ms) (m n : Ms) (s t : Bool) : List Cr := if detM m n = 0 then [] else if holdsB R (crossC m n (edgeC m s) (edgeC n t)) = true then [crossC m n (edgeC m s) (edgeC n t)] else []
def tag2 (i : Nat) : Bool := i == 1
/-- the first of the four corners of two strips -/
def crn (R : List Ms) (m n : Ms) (k : Nat) : List Cr := (List.range k).flatMap fun q => pickC R m n (tag2 (q / 2)) (tag2 (q % 2))
theorem crn_succ (R : List Ms) (m n : Ms) (k : Nat) : crn R m n (k + 1) = crn R m n k ++ pickC R m n (tag2 (k / 2)) (tag2 (k % 2)) := by
  unfold crn
  rw [List.range_succ, List.flatMap_append]
  simp
theorem pick_len (R : List Ms) (m n : Ms) (s t : Bool) : (pickC R m n s t).length ≤ 1 := by
  unfold pickC
  split
  · simp
  · split <;> simp
theorem crn_len (R : List Ms) (m n : Ms) (k : Nat) : (crn R m n k).length ≤ k := by
  induction k with
  | zero => simp [crn]
  | succ k ih =>
    rw [crn_succ, List.length_append]
    have := pick_len R m n (tag2 (k / 2)) (tag2 (k % 2))
    omega
def corP (R : List Ms) (ps : List (Ms × Ms)) : List Cr := ps.flatMap fun p => crn R p.1 p.2 4
def corL (l : List Ms) : List Cr := corP l (pairsL l)
theorem corP_len (R : List Ms) (ps : List (Ms × Ms)) : (corP R ps).length ≤ 4 * ps.length := by
  unfold corP
  induction ps with
  | nil => simp
  | cons p r ih =>
    simp only [List.flatMap_cons, List.length_append, List.length_cons]
    have := crn_len R p.1 p.2 4
    omega
theorem mem_pick {R : List Ms} {m n : Ms} {s t : Bool} {p : Cr} : p ∈ pickC R m n s t ↔ detM m n ≠ 0 ∧ p = crossC m n (edgeC m s) (edgeC n t) ∧ In R p.x p.y p.d := by
  unfold pickC
  split
  · rename_i h
    simp [h]
  · rename_i h
    split
    · rename_i g
      rw [List.mem_singleton]
      constructor
      · rintro rfl
        exact ⟨h, rfl, holdsB_iff.1 g⟩
      · exact fun e => e.2.1
    · rename_i g
      constructor
      · intro e; cases e
      · rintro ⟨_, rfl, e⟩
        exact absurd (holdsB_iff.2 e) g
theorem mem_crn {R : List Ms} {m n : Ms} {p : Cr} : p ∈ crn R m n 4 ↔ detM m n ≠ 0 ∧ ∃ s t, p = crossC m n (edgeC m s) (edgeC n t) ∧ In R p.x p.y p.d := by
  have e : crn R m n 4 = pickC R m n false false ++ pickC R m n false true ++ pickC R m n true false ++ pickC R m n true true := by
    rw [crn_succ, crn_succ, crn_succ, crn_succ]
    rfl
  rw [e]
  simp only [List.mem_append, mem_pick]
  constructor
  · rintro (((h | h) | h) | h) <;> exact ⟨h.1, _, _, h.2⟩
  · rintro ⟨h, s, t, g⟩
    cases s <;> cases t
    · exact .inl (.inl (.inl ⟨h, g⟩))
    · exact .inl (.inl (.inr ⟨h, g⟩))
    · exact .inl (.inr ⟨h, g⟩)
    · exact .inr ⟨h, g⟩
theorem cross_swap (m n : Ms) (c e : Int) (h : detM m n ≠ 0) : crossC n m e c = crossC m n c e := by
  unfold crossC
  rw [det_swap m n]
  by_cases g : detM m n < 0
  · rw [if_neg (by omega), if_pos g]
    congr 1
    · grind
    · grind
  · rw [if_pos (by omega), if_neg g]
    congr 1
    · grind
    · grind
    · omega
/-- the list holds the corners of the region -/
theorem mem_corL {l : List Ms} {p : Cr} : p ∈ corL l ↔ IsCor l l p := by
  unfold corL corP
  rw [List.mem_flatMap]
  constructor
  · rintro ⟨q, hq, hp⟩
    obtain ⟨i, j, hj, hi, rfl⟩ := mem_pairs.1 hq
    obtain ⟨hd, s, t, rfl, hin⟩ := mem_crn.1 hp
    exact ⟨⟨_, nth_mem hi, _, nth_mem (by omega), hd, s, t, rfl⟩, hin⟩
  · rintro ⟨⟨m, hm, n, hn, hd, s, t, rfl⟩, hin⟩
    obtain ⟨i, hi, rfl⟩ := List.getElem_of_mem hm
    obtain ⟨j, hj, rfl⟩ := List.getElem_of_mem hn
    rcases Nat.lt_trichotomy i j with h | h | h
    · refine ⟨(nth l j, nth l i), mem_pairs.2 ⟨j, i, h, hj, rfl⟩, mem_crn.2 ?_⟩
      rw [nth_eq hj, nth_eq hi]
      exact ⟨fun e => hd (by rw [det_swap, e]; rfl), t, s, (cross_swap _ _ _ _ hd).symm, hin⟩
    · subst h
      exact absurd (show detM l[i] l[i] = 0 by unfold detM; omega) hd
    · refine ⟨(nth l i, nth l j), mem_pairs.2 ⟨i, j, h, hi, rfl⟩, mem_crn.2 ?_⟩
      rw [nth_eq hj, nth_eq hi]
      exact ⟨hd, s, t, rfl, hin⟩
end Go.Proofs.YtidelghgjibndaaGreat.S44
namespace Go.Proofs.YtidelghgjibndaaGreat.S44
set_option linter.unusedVariables false
open Go.RowKit
/-- an edge's copy in a block of its own -/
structure EdgeAt (m : Ms) (c : Int) (be : Nat) (W : World) : Prop where
  lt : be < W.heap.size
  c0 : W.cell? ⟨be, 0, none⟩ = some (.int .i64 m.a)
  c1 : W.cell? ⟨be, 1, none⟩ = some (.int .i64 m.b)
  c2 : W.cell? ⟨be, 2, none⟩ = some (.int .i64 c)
theorem edge_new (m : Ms) (c : Int) (w : World) (t : TypeId) : EdgeAt m c w.heap.size (w.alloc (.cells #[.int .i64 m.a, .int .i64 m.b, .int .i64 c] t)) :=
  ⟨by simp, by rw [World.cell?_alloc_at _ _ _ _ rfl]; rfl, by rw [World.cell?_alloc_at _ _ _ _ rfl]; rfl, by rw [World.cell?_alloc_at _ _ _ _ rfl]; rfl⟩
theorem EdgeAt.same {m : Ms} {c : Int} {be : Nat} {W w' : World} (h : EdgeAt m c be W) (hk : w'.heap[be]? = W.heap[be]?) (hs : W.heap.size ≤ w'.heap.size) : EdgeAt m c be w' :=
  ⟨Nat.lt_of_lt_of_le h.lt hs, (World.cell?_of_block (w := W) (a := ⟨be, 0, none⟩) hk).trans h.c0, (World.cell?_of_block (w := W) (a := ⟨be, 1, none⟩) hk).trans h.c1, (World.cell?_of_block (w := W) (a := ⟨be, 2, none⟩) hk).trans h.c2⟩
theorem EdgeAt.below {m : Ms} {c : Int} {be : Nat} {W w' : World} (h : EdgeAt m c be W) (hb : Below W.heap.size W w') : EdgeAt m c be w' := h.same (hb.block be h.lt) hb.size
structure CrAt (p : Cr) (bp : Nat) (W : World) : Prop where
  lt : bp < W.heap.size
  c0 : W.cell? ⟨bp, 0, none⟩ = some (.int .i64 p.x)
  c1 : W.cell? ⟨bp, 1, none⟩ = some (.int .i64 p.y)
  c2 : W.cell? ⟨bp, 2, none⟩ = some (.int .i64 p.d)
theorem cr_new (p : Cr) (w : World) (t : TypeId) : CrAt p w.heap.size (w.alloc (.cells #[.int .i64 p.x, .int .i64 p.y, .int .i64 p.d] t)) :=
  ⟨by simp, by rw [World.cell?_alloc_at _ _ _ _ rfl]; rfl, by rw [World.cell?_alloc_at _ _ _ _ rfl]; rfl, by rw [World.cell?_alloc_at _ _ _ _ rfl]; rfl⟩
theorem CrAt.below {p : Cr} {be : Nat} {W w' : World} (h : CrAt p be W) (hb : Below W.heap.size W w') : CrAt p be w' :=
  ⟨Nat.lt_of_lt_of_le h.lt hb.size, (hb.cell (p := ⟨be, 0, none⟩) h.lt).trans h.c0, (hb.cell (p := ⟨be, 1, none⟩) h.lt).trans h.c1, (hb.cell (p := ⟨be, 2, none⟩) h.lt).trans h.c2⟩
theorem own_below {bo : Nat} {W w' : World} {k : Nat} (hl : bo < W.heap.size) (hb : Below W.heap.size W w') (hn : ¬ OwnC bo W k) : ¬ OwnC bo w' k := fun h => hn (by
  rcases h with h | ⟨u, h1, h2⟩
  · exact .inl h
  · exact .inr ⟨u, by rw [← h1]; exact (hb.cell (p := ⟨bo, 0, none⟩) hl).symm, h2⟩)
/-- the state in the closure's loops -/
structure CorSt (w W : World) (bl bo : Nat) (v : Value) (n : Ms) (bn : Nat) (C : List Cr) (wr : World) : Prop where
  ex : ∃ u, CorI w bl bo v u C wr
  kx : KeepX (OwnC bo) W wr
  cp : CopyAt n bn wr
  nn : ¬ OwnC bo wr bn
theorem CorSt.keep {w W : World} {bl bo : Nat} {v : Value} {n : Ms} {bn : Nat} {C : List Cr} {wr w' : World} (h : CorSt w W bl bo v n bn C wr) (hb : Below wr.heap.size wr w') : CorSt w W bl bo v n bn C w' := by
  obtain ⟨u, hu⟩ := h.ex
  exact ⟨⟨u, hu.keep hb⟩, h.kx.trans (keepx_below hu.lt hb), h.cp.below hb, own_below hu.lt hb h.nn⟩
def Q1 (w W : World) (bl bo : Nat) (v : Value) (l : List Ms) (m n : Ms) (bn : Nat) (C : List Cr) (s : Value) (wr : World) : Prop := ∃ i : Nat, s = .int .i64 i ∧ i ≤ 2 ∧ Hid (CorSt w W bl bo v n bn (C ++ crn l m n (2 * i)) wr)
def Q2 (w W : World) (bl bo : Nat) (v : Value) (l : List Ms) (m n : Ms) (bn : Nat) (C : List Cr) (i be : Nat) (s : Value) (wr : World) : Prop := ∃ j : Nat, s = .int .i64 j ∧ j ≤ 2 ∧ Hid (CorSt w W bl bo v n bn (C ++ crn l m n (2 * i + j)) wr) ∧ Hid (EdgeAt m (edgeC m (tag2 i)) be wr) ∧ Hid (¬ OwnC bo wr be)
def CorPost (w W : World) (bl bo : Nat) (v : Value) (l : List Ms) (m n : Ms) (C : List Cr) (e : Ending) (w' : World) : Prop := e = .returned (.tuple #[]) ∧ (∃ u, CorI w bl bo v u (C ++ crn l m n 4) w') ∧ KeepX (OwnC bo) W w'
theorem crn_at (l : List Ms) (m n : Ms) {i j : Nat} (hj : j < 2) : crn l m n (2 * i + (j + 1)) = crn l m n (2 * i + j) ++ pickC l m n (tag2 i) (tag2 j) := by
  rw [← Nat.add_assoc, crn_succ, show (2 * i + j) / 2 = i by omega, show (2 * i + j) % 2 = j by omega]
set_option maxHeartbeats 16000000 in
set_option maxRecDepth 100000 in
theorem cor_fn (l : List Ms) (v u : Value) (m n : Ms) (w W : World) (bl bo : Nat) (C : List Cr) (hI : CorI w bl bo v u C W) (hlb : bl ≠ bo) (hV : LstAt l v w) (he : ∀ m ∈ l, EdM m) (hm : EdM m) (hn : EdM n) (hC : C.length ≤ 2000) :
    Calls Tryz.prog 67 #[.agg #[.int .i64 m.s, .int .i64 m.a, .int .i64 m.b, .int .i64 m.z, .int .i64 m.d, .int .i64 m.w], .agg #[.int .i64 n.s, .int .i64 n.a, .int .i64 n.b, .int .i64 n.z, .int .i64 n.d, .int .i64 n.w], .pointer (some ⟨bl, 0, none⟩), .pointer (some ⟨bo, 0, none⟩)] W
      (CorPost w W bl bo v l m n C) := by
  have HI := Lib.hid hI
  have HLB := Lib.hid hlb
  have HV := Lib.hid hV
  have HEd := Lib.hid he
  have HM := Lib.hid hm
  have HN := Lib.hid hn
  have CN := Lib.hid (copy_new n (W.alloc (.cells #[.int .i64 m.s, .int .i64 m.a, .int .i64 m.b, .int .i64 m.z, .int .i64 m.d, .int .i64 m.w] 59)) 59)
  clear hI hlb hV he hm hn
  go_enter Tryz.func67, Tryz.ntmps67
  go_wp2_with fail
  refine (edges_any m _ HM.out).mono ?_
  rintro e w1 ⟨rfl, hb1⟩
  have hbW : Below W.heap.size W w1 := (((Below.refl W.heap.size W).alloc (Nat.le_refl _) _).alloc (by simp) _).trans (hb1.mono (by simp; omega))
  have S1 : CorSt w W bl bo v n (W.heap.size + 1) (C ++ crn l m n (2 * 0)) w1 := by
    refine ⟨⟨u, ?_⟩, keepx_below HI.out.lt hbW, ?_, own_below HI.out.lt hbW (own_new HI.out (by omega))⟩
    · have e : C ++ crn l m n (2 * 0) = C := by unfold crn; simp
      rw [e]
      exact HI.out.keep hbW
    · have := CN.out.below hb1
      simpa using this
  have HS1 := Lib.hid S1
  clear hbW S1 hb1 CN
  generalize W.heap.size + 1 = bn at *
  go_wp2_with fail
  go_loopw [14] (Q1 w W bl bo v l m n bn C) (fun i _ => 2 - (intOf i).toNat)
  case atStart => exact ⟨0, rfl, by omega, HS1⟩
  case round =>
    obtain ⟨i, rfl, hi, HS⟩ := hrel
    by_cases q : i < 2
    · have q' : decide ((i : Int) < 2) = true := by simp; omega
      have ix1 : ∀ w, (Instr.index 130 (.agg #[.int .i64 m.a, .int .i64 m.b, .int .i64 (edgeC m false), .int .i64 m.a, .int .i64 m.b, .int .i64 (edgeC m true)]) (.int .i64 (i : Int))).run Tryz.prog w = .ok (.agg #[.int .i64 m.a, .int .i64 m.b, .int .i64 (edgeC m (tag2 i))]) w := by
        intro w
        rcases (show i = 0 ∨ i = 1 by omega) with rfl | rfl <;> rfl
      have cn := HS.out.cp
      have c0 := cn.c0
      have c1 := cn.c1
      have c2 := cn.c2
      have c3 := cn.c3
      have c4 := cn.c4
      have c5 := cn.c5
      have hbn := cn.lt
      clear cn
      have EN := Lib.hid (edge_new m (edgeC m (tag2 i)) wr 129)
      go_wp2_with fail
      refine (edges_any n _ HN.out).mono ?_
      rintro e w2 ⟨rfl, hb2⟩
      have hbr : Below wr.heap.size wr w2 := ((Below.refl wr.heap.size wr).alloc (Nat.le_refl _) _).trans (hb2.mono (by simp))
      have HS2 := Lib.hid (HS.out.keep hbr)
      have HE2 := Lib.hid (EN.out.below hb2)
      have HO2 : Hid (¬ OwnC bo w2 wr.heap.size) := by
        obtain ⟨u0, hu0⟩ := HS.out.ex
        exact own_below hu0.lt hbr (own_new hu0 (Nat.le_refl _))
      clear c0 c1 c2 c3 c4 c5 hbn hbr hb2 EN ix1 HS
      generalize wr.heap.size = be at *
      go_wp2_with fail
      go_loopw [19] (Q2 w W bl bo v l m n bn C i be) (fun j _ => 2 - (intOf j).toNat)
      case atStart => exact ⟨0, rfl, by omega, HS2, HE2, HO2⟩
      case round =>
        obtain ⟨j, rfl, hj, HS, HE, HO⟩ := hrel
        by_cases r : j < 2
        · have r' : decide ((j : Int) < 2) = true := by simp; omega
          have ix2 : ∀ w, (Instr.index 130 (.agg #[.int .i64 n.a, .int .i64 n.b, .int .i64 (edgeC n false), .int .i64 n.a, .int .i64 n.b, .int .i64 (edgeC n true)]) (.int .i64 (j : Int))).run Tryz.prog w = .ok (.agg #[.int .i64 n.a, .int .i64 n.b, .int .i64 (edgeC n (tag2 j))]) w := by
            intro w
            rcases (show j = 0 ∨ j = 1 by omega) with rfl | rfl <;> rfl
          have he := HE.out
          have x0 := he.c0
          have x1 := he.c1
          have x2 := he.c2
          have hbe := he.lt
          have hsm1 := Lib.hid (edge_sm HM.out (tag2 i))
          have hsm2 := Lib.hid (edge_sm HN.out (tag2 j))
          have CA := Lib.hid (crn_at l m n (i := i) r)
          have MT := Lib.hid fun w => meet_any m n (edgeC m (tag2 i)) (edgeC n (tag2 j)) w HM.out HN.out hsm1.out hsm2.out
          obtain ⟨u1, hu1⟩ := HS.out.ex
          have HU := Lib.hid hu1
          clear he hu1
          by_cases hd : detM m n = 0
          · have PK := Lib.hid (show pickC l m n (tag2 i) (tag2 j) = [] by unfold pickC; rw [if_pos hd])
            have EM : meetF m n (edgeC m (tag2 i)) (edgeC n (tag2 j)) = (⟨0, 0, 0⟩, false) := by unfold meetF; rw [if_pos hd]
            have MT2 := MT.out
            rw [EM] at MT2
            have HMT := Lib.hid MT2
            clear hd EM MT2 MT
            go_wp2_with fail
            refine (HMT.out _).mono ?_
            rintro e w3 ⟨rfl, hb3⟩
            have hbr : Below wr.heap.size wr w3 := ((Below.refl wr.heap.size wr).alloc (Nat.le_refl _) _).trans (hb3.mono (by simp))
            have HB := Lib.hid hbr
            clear x0 x1 x2 hbe hb3 hbr
            go_wp2
            go_roundw
            case rel =>
              have hb := HB.out.alloc HB.out.size (.cells #[.int .i64 0, .int .i64 0, .int .i64 0] 133)
              refine ⟨j + 1, by go_num, by omega, ?_, HE.out.below hb, own_below HU.out.lt hb HO.out⟩
              rw [CA.out, PK.out, List.append_nil]
              exact HS.out.keep hb
            case measure => simp [intOf]; omega
          · have EM : meetF m n (edgeC m (tag2 i)) (edgeC n (tag2 j)) = (crossC m n (edgeC m (tag2 i)) (edgeC n (tag2 j)), true) := by unfold meetF; rw [if_neg hd]
            have MT2 := MT.out
            rw [EM] at MT2
            have HMT := Lib.hid MT2
            have SP := Lib.hid (cross_sm HM.out HN.out hsm1.out hsm2.out)
            have PK0 : pickC l m n (tag2 i) (tag2 j) = if holdsB l (crossC m n (edgeC m (tag2 i)) (edgeC n (tag2 j))) = true then [crossC m n (edgeC m (tag2 i)) (edgeC n (tag2 j))] else [] := by unfold pickC; rw [if_neg hd]
            clear hd EM MT2 MT
            generalize crossC m n (edgeC m (tag2 i)) (edgeC n (tag2 j)) = p at *
            have HO0 := fun v w hv => holds_any l p v w hv HEd.out SP.out
            have CNP := Lib.hid fun w => cr_new p w 133
            cases hh : holdsB l p with
            | false =>
              rw [hh] at HO0
              have HH := Lib.hid HO0
              have PK := Lib.hid (show pickC l m n (tag2 i) (tag2 j) = [] by rw [PK0, hh]; rfl)
              clear hh PK0 HO0
              go_wp2_with fail
              refine (HMT.out _).mono ?_
              rintro e w3 ⟨rfl, hb3⟩
              have hbr : Below wr.heap.size wr w3 := ((Below.refl wr.heap.size wr).alloc (Nat.le_refl _) _).trans (hb3.mono (by simp))
              have HB := Lib.hid (hbr.alloc hbr.size (.cells #[.int .i64 p.x, .int .i64 p.y, .int .i64 p.d] 133))
              have HU3 := HU.out.keep HB.out
              have k0 := HU3.lst
              have CP := CNP.out w3
              have k1 := CP.c0
              have k2 := CP.c1
              have k3 := CP.c2
              have LV := Lib.hid (HV.out.below HU3.below)
              clear x0 x1 x2 hbe hb3 hbr HU3 CP
              go_wp2_with fail
              refine (HH.out _ _ LV.out).mono ?_
              rintro e w4 ⟨rfl, hb4⟩
              have HB4 := Lib.hid (HB.out.trans (hb4.mono HB.out.size))
              clear k0 k1 k2 k3 hb4
              go_wp2
              go_roundw
              case rel =>
                refine ⟨j + 1, by go_num, by omega, ?_, HE.out.below HB4.out, own_below HU.out.lt HB4.out HO.out⟩
                rw [CA.out, PK.out, List.append_nil]
                exact HS.out.keep HB4.out
              case measure => simp [intOf]; omega
            | true =>
              rw [hh] at HO0
              have HH := Lib.hid HO0
              have PK := Lib.hid (show pickC l m n (tag2 i) (tag2 j) = [p] by rw [PK0, hh]; rfl)
              clear hh PK0 HO0
              go_wp2_with fail
              refine (HMT.out _).mono ?_
              rintro e w3 ⟨rfl, hb3⟩
              have hbr : Below wr.heap.size wr w3 := ((Below.refl wr.heap.size wr).alloc (Nat.le_refl _) _).trans (hb3.mono (by simp))
              have HB := Lib.hid (hbr.alloc hbr.size (.cells #[.int .i64 p.x, .int .i64 p.y, .int .i64 p.d] 133))
              have HU3 := HU.out.keep HB.out
              have k0 := HU3.lst
              have CP := CNP.out w3
              have k1 := CP.c0
              have k2 := CP.c1
              have k3 := CP.c2
              have LV := Lib.hid (HV.out.below HU3.below)
              have HCP := Lib.hid CP
              clear x0 x1 x2 hbe hb3 hbr HU3 CP
              go_wp2_with fail
              refine (HH.out _ _ LV.out).mono ?_
              rintro e w4 ⟨rfl, hb4⟩
              have HB4 := Lib.hid (HB.out.trans (hb4.mono HB.out.size))
              have HU4 := Lib.hid (HU.out.keep HB4.out)
              have CP4 := HCP.out.below hb4
              have k0 := HU4.out.cell
              have k1 := CP4.c0
              have k2 := CP4.c1
              have k3 := CP4.c2
              have hbo4 := HU4.out.lt
              have hp4 := CP4.lt
              have SZ : (C ++ crn l m n (2 * i + j)).length ≤ 100000 := by
                have := crn_len l m n (2 * i + j)
                rw [List.length_append]
                omega
              have HSZ := Lib.hid SZ
              have hB4 : Hid (bo + 1 ≤ w4.heap.size) := hbo4
              clear hb4 CP4 SZ
              go_wp2_with (at_builtin; refine Halt.mk ?_)
              unfold Halt
              refine wpList_oc rfl (.tmp 34) (.tmp 36) rfl (bo + 1) u1 (C ++ crn l m n (2 * i + j)) rfl w4 HU4.out.own _ p 1 rfl HSZ.out hB4.out ?_
              intro u2 w5 ho5 hg5 hat5
              have PU := Lib.hid (CorI.push HU4.out HLB.out ho5 hg5 hat5)
              have hr5 : ∀ k, u1.ownBlock = some k → bo + 1 ≤ k := fun k hk => (World.ownsRow.lt HU4.out.own k hk).1
              have hne : some bo ≠ u1.ownBlock := fun e => by have := hr5 bo e.symm; omega
              have k5 : w5.cell? ⟨bo, 0, none⟩ = some u1 := hg5.cell (a := ⟨bo, 0, none⟩) ((HU4.out.keep ((Below.refl _ _).alloc (Nat.le_refl _) _)).cell) hne
              have f5 : w5.frozen? ⟨bo, 0, none⟩ = false := (World.frozen?_of_block (hg5.block bo (by rw [World.size_alloc]; omega) hne)).trans ((HU4.out.keep ((Below.refl _ _).alloc (Nat.le_refl _) _)).frz)
              obtain ⟨g5, cap5, hu2⟩ := Go.Joins.ownsRow_form ho5 (show 0 < ((C ++ crn l m n (2 * i + j)) ++ [p]).length by rw [List.length_append, List.length_singleton]; omega)
              obtain ⟨N5, hN5⟩ : ∃ N, ((C ++ crn l m n (2 * i + j)) ++ [p]).length = N := ⟨_, rfl⟩
              rw [hN5] at hu2
              clear k0 k1 k2 k3 hp4 hr5 hne hg5 ho5 hat5 hN5
              subst hu2
              go_wp2
              go_roundw
              case rel =>
                have kx := PU.out.2
                have hk4 := (keepx_below HU.out.lt HB4.out).trans kx
                have kb := hk4.keep be HE.out.lt HO.out
                have kn := hk4.keep bn HS.out.cp.lt HS.out.nn
                refine ⟨j + 1, by go_num, by omega, ?_, HE.out.same kb.1 hk4.size, kb.2⟩
                rw [CA.out, PK.out, ← List.append_assoc]
                exact ⟨⟨_, PU.out.1⟩, HS.out.kx.trans hk4, HS.out.cp.same kn.1 hk4.size, kn.2⟩
              case measure => simp [intOf]; omega
        · obtain rfl : j = 2 := by omega
          go_wp2
          go_roundw
          case rel => exact ⟨i + 1, by go_num, by omega, HS⟩
          case measure => simp [intOf]; omega
    · obtain rfl : i = 2 := by omega
      go_wp2
      go_end0
      exact ⟨rfl, HS.out.ex, HS.out.kx⟩
theorem corners_some (l : List Ms) (b o cap : Nat) (w : World) (h : MsAt l b o w) (hc : l.length ≤ cap) (hm : cap ≤ 9223372036854775807) (he : ∀ m ∈ l, EdM m) (hl : l.length ≤ 17) :
    Calls Tryz.prog 40 #[.slice (some ⟨b, o, none⟩) l.length cap] w fun e w' => (∃ u, e = .returned u ∧ OC w.heap.size w' u (corL l)) ∧ Below w.heap.size w w' := by
  have LV : LstAt l (.slice (some ⟨b, o, none⟩) l.length cap) w := .inr ⟨b, o, cap, rfl, hc, hm, h⟩
  have HP := Lib.hid fun W1 (h0 : ∃ u, CorI w w.heap.size (w.heap.size + 1) (.slice (some ⟨b, o, none⟩) l.length cap) u [] W1) => pairs_cor l b o cap W1 ⟨w.heap.size, 0, none⟩ ⟨w.heap.size + 1, 0, none⟩
    (fun acc W => ∃ u, CorI w w.heap.size (w.heap.size + 1) (.slice (some ⟨b, o, none⟩) l.length cap) u (corP l acc) W) (OwnC (w.heap.size + 1)) hl hc hm
    ⟨fun acc W hi => by obtain ⟨u, hi⟩ := hi; exact h.below hi.below, fun acc W ob hi => by
      obtain ⟨u, hi⟩ := hi
      have hb := (Below.refl W.heap.size W).alloc (Nat.le_refl _) ob
      exact ⟨⟨u, hi.keep hb⟩, own_alloc hi ob, fun k hk hn => own_below hi.lt hb hn⟩⟩ h0
    (fun acc m n W hm hn hacc hi => by
      obtain ⟨u, hi⟩ := hi
      refine (cor_fn l _ u m n w W _ _ _ hi (by omega) LV he (he m hm) (he n hn) (by have := corP_len l acc; omega)).mono fun e w' ⟨h1, h2, h3⟩ => ⟨h1, ?_, h3⟩
      have e : corP l (acc ++ [(m, n)]) = corP l acc ++ crn l m n 4 := by unfold corP; rw [List.flatMap_append]; simp
      rw [e]
      exact h2)
  have H0 := Lib.hid (show ∀ t1 t2, ∃ u, CorI w w.heap.size (w.heap.size + 1) (.slice (some ⟨b, o, none⟩) l.length cap) u [] ((w.alloc (.cells #[.slice (some ⟨b, o, none⟩) l.length cap] t1)).alloc (.cells #[.slice none 0 0] t2)) from fun t1 t2 =>
    ⟨.slice none 0 0, ⟨((Below.refl _ _).alloc (Nat.le_refl _) _).alloc (by simp) _, by omega, by omega, by simp, by
      rw [World.cell?_alloc_some _ _ _ (by rw [World.cell?_alloc_at _ _ _ _ rfl]; rfl), World.cell?_alloc_at _ _ _ _ rfl]; rfl, by
      rw [World.cell?_alloc_at _ _ _ _ (by simp)]; rfl, by go_simp, World.ownsRow_nil _ _ _ _⟩⟩)
  clear h he LV
  go_enter Tryz.func40, Tryz.ntmps40
  go_wp2_with (go_at_call 65; refine (HP.out _ (H0.out _ _)).mono ?_; rintro e w2 ⟨rfl, u, hi⟩; have hcell := hi.cell; have HI := Lib.hid hi; clear hi)
  go_ret
  exact ⟨⟨u, rfl, (World.ownsRow.mono HI.out.own (by omega))⟩, HI.out.below⟩
theorem corners_nil (w : World) :
    Calls Tryz.prog 40 #[.slice none 0 0] w fun e w' => (∃ u, e = .returned u ∧ OC w.heap.size w' u (corL [])) ∧ Below w.heap.size w w' := by
  go_enter Tryz.func40, Tryz.ntmps40
  go_wp2_with (go_at_call 65; refine (pairs_nil _ _ _).mono ?_; rintro e w2 ⟨rfl, rfl⟩)
  go_ret
  exact ⟨⟨_, rfl, World.ownsRow_nil _ _ _ _⟩, ((Below.refl _ _).alloc (Nat.le_refl _) _).alloc (by simp) _⟩
theorem corners_any (l : List Ms) (v : Value) (w : World) (h : LstAt l v w) (he : ∀ m ∈ l, EdM m) (hl : l.length ≤ 17) :
    Calls Tryz.prog 40 #[v] w fun e w' => (∃ u, e = .returned u ∧ OC w.heap.size w' u (corL l)) ∧ Below w.heap.size w w' := by
  rcases h with ⟨rfl, rfl⟩ | ⟨b, o, cap, rfl, h2, h3, h4⟩
  · exact corners_nil w
  · exact corners_some l b o cap w h4 h2 h3 he hl
end Go.Proofs.YtidelghgjibndaaGreat.S44
namespace Go.Proofs.YtidelghgjibndaaGreat.S44
set_option linter.unusedVariables false
open Go.RowKit
theorem ret_u {k : IntKind} {a b : Int} (h : a = b) : Ending.returned (.int k a) = .returned (.int k b) := by rw [h]
theorem size_any (a : Int) (w : World) (h0 : -9223372036854775808 ≤ a) (h1 : a ≤ 9223372036854775807) :
    Calls Tryz.prog 99 #[.int .i64 a] w fun e w' => e = .returned (.int .u64 (sizeI a)) ∧ w = w' := by
  by_cases h : a < 0
  · have E := Lib.hid (show sizeI a = -a by unfold sizeI; rw [if_pos h])
    have g : decide (a < 0) = true := by simpa using h
    go_enter Tryz.func99, Tryz.ntmps99
    go_wp2
    go_ret
    exact ⟨ret_u (by rw [E.out]; simp only [IntKind.wrap_u64]; omega), rfl⟩
  · have E := Lib.hid (show sizeI a = a by unfold sizeI; rw [if_neg h])
    have g : decide (a < 0) = false := by simpa using h
    go_enter Tryz.func99, Tryz.ntmps99
    go_wp2
    go_ret
    exact ⟨ret_u (by rw [E.out]), rfl⟩
end Go.Proofs.YtidelghgjibndaaGreat.S44
namespace Go.Proofs.YtidelghgjibndaaGreat.S44
set_option linter.unusedVariables false
open Go.RowKit
def cr0 : Cr := ⟨0, 0, 0⟩
def nthC (l : List Cr) (i : Nat) : Cr := l.getD i cr0
theorem nthC_eq {l : List Cr} {i : Nat} (h : i < l.length) : nthC l i = l[i] := by
  unfold nthC
  rw [List.getD_eq_getElem?_getD, List.getElem?_eq_getElem h]
  rfl
structure CrsAt (l : List Cr) (g : Nat) (w : World) : Prop where
  lt : g < w.heap.size
  c0 : ∀ i, i < l.length → w.cell? ⟨g, i * 3, none⟩ = some (.int .i64 (nthC l i).x)
  c1 : ∀ i, i < l.length → w.cell? ⟨g, i * 3 + 1, none⟩ = some (.int .i64 (nthC l i).y)
  c2 : ∀ i, i < l.length → w.cell? ⟨g, i * 3 + 2, none⟩ = some (.int .i64 (nthC l i).d)
theorem CrsAt.below {l : List Cr} {g : Nat} {w w' : World} (h : CrsAt l g w) (hb : Below w.heap.size w w') : CrsAt l g w' :=
  ⟨Nat.lt_of_lt_of_le h.lt hb.size, fun i hi => (hb.cell (p := ⟨g, i * 3, none⟩) h.lt).trans (h.c0 i hi), fun i hi => (hb.cell (p := ⟨g, i * 3 + 1, none⟩) h.lt).trans (h.c1 i hi), fun i hi => (hb.cell (p := ⟨g, i * 3 + 2, none⟩) h.lt).trans (h.c2 i hi)⟩
theorem CrsAt.other {l : List Cr} {g n : Nat} {W : World} (h : CrsAt l g W) (hn : n ≠ g) (u v : Value) : CrsAt l g ((W.setCell ⟨n, 0, none⟩ u).setCell ⟨n, 1, none⟩ v) := by
  have hk : ((W.setCell ⟨n, 0, none⟩ u).setCell ⟨n, 1, none⟩ v).heap[g]? = W.heap[g]? := by
    rw [Below.heap_setCell _ _ _ _ (Ne.symm hn), Below.heap_setCell _ _ _ _ (Ne.symm hn)]
  exact ⟨by have := h.lt; simpa [World.setCell] using this, fun i hi => (World.cell?_of_block (w := W) (a := ⟨g, i * 3, none⟩) hk).trans (h.c0 i hi), fun i hi => (World.cell?_of_block (w := W) (a := ⟨g, i * 3 + 1, none⟩) hk).trans (h.c1 i hi), fun i hi => (World.cell?_of_block (w := W) (a := ⟨g, i * 3 + 2, none⟩) hk).trans (h.c2 i hi)⟩
/-- what a slice of corners of the call's own is -/
theorem oc_cases {B : Nat} {w : World} {v : Value} {l : List Cr} (h : OC B w v l) : (v = .slice none 0 0 ∧ l = []) ∨ ∃ g cap, v = .slice (some ⟨g, 0, none⟩) l.length cap ∧ l.length ≤ cap ∧ cap ≤ 9223372036854775807 ∧ CrsAt l g w := by
  obtain ⟨h1, h2⟩ := h
  rcases h2 with ⟨rfl, hn⟩ | ⟨g, cap, cur, rfl, hb, hg, hc, hm, hs, ht⟩
  · exact .inl ⟨rfl, List.eq_nil_of_length_eq_zero hn⟩
  · have hlt : g < w.heap.size := (Array.getElem?_eq_some_iff.1 hg).1
    have hget : ∀ j, j < l.length * 3 → w.cell? ⟨g, j, none⟩ = (crC l)[j]? := fun j hj => by
      rw [← ht, List.getElem?_take, if_pos hj]
      unfold World.cell?
      rw [hg]
      simp
    unfold maxLen at hm
    refine .inr ⟨g, cap, rfl, hc, hm, hlt, fun i hi => ?_, fun i hi => ?_, fun i hi => ?_⟩
    · rw [hget _ (by omega), nthC_eq hi]; exact (crC_get l i hi).1
    · rw [hget _ (by omega), nthC_eq hi]; exact (crC_get l i hi).2.1
    · rw [hget _ (by omega), nthC_eq hi]; exact (crC_get l i hi).2.2
/-- an interval's variable in block bo -/
structure Out2 (bo : Nat) (x y : Int) (W : World) : Prop where
  lt : bo < W.heap.size
  c0 : W.cell? ⟨bo, 0, none⟩ = some (.int .i64 x)
  c1 : W.cell? ⟨bo, 1, none⟩ = some (.int .i64 y)
  f0 : W.frozen? ⟨bo, 0, none⟩ = false
  f1 : W.frozen? ⟨bo, 1, none⟩ = false
theorem Out2.below {bo : Nat} {x y : Int} {W w' : World} (h : Out2 bo x y W) (hb : Below W.heap.size W w') : Out2 bo x y w' :=
  ⟨Nat.lt_of_lt_of_le h.lt hb.size, (hb.cell (p := ⟨bo, 0, none⟩) h.lt).trans h.c0, (hb.cell (p := ⟨bo, 1, none⟩) h.lt).trans h.c1, (hb.frozen (p := ⟨bo, 0, none⟩) h.lt).trans h.f0, (hb.frozen (p := ⟨bo, 1, none⟩) h.lt).trans h.f1⟩
theorem Out2.set {bo : Nat} {x y : Int} {W : World} (h : Out2 bo x y W) (u v : Int) : Out2 bo u v ((W.setCell ⟨bo, 0, none⟩ (.int .i64 u)).setCell ⟨bo, 1, none⟩ (.int .i64 v)) := by
  have e1 : (W.setCell ⟨bo, 0, none⟩ (.int .i64 u)).cell? ⟨bo, 1, none⟩ = some (.int .i64 y) := by rw [World.cell?_setCell_other]; exact h.c1; intro e; injection e with _ e _; cases e
  have e0 : (W.setCell ⟨bo, 0, none⟩ (.int .i64 u)).cell? ⟨bo, 0, none⟩ = some (.int .i64 u) := World.cell?_setCell_same' W _ _ (by rw [h.c0]; rfl)
  refine ⟨by have := h.lt; simpa [World.setCell] using this, ?_, World.cell?_setCell_same' _ _ _ (by rw [e1]; rfl), by rw [World.frozen?_setCell, World.frozen?_setCell]; exact h.f0, by rw [World.frozen?_setCell, World.frozen?_setCell]; exact h.f1⟩
  rw [World.cell?_setCell_other]
  · exact e0
  · intro e; injection e with _ e _; cases e
theorem Out2.other {bo n : Nat} {x y : Int} {W : World} (h : Out2 bo x y W) (hn : n ≠ bo) (u v : Value) : Out2 bo x y ((W.setCell ⟨n, 0, none⟩ u).setCell ⟨n, 1, none⟩ v) := by
  have hk : ((W.setCell ⟨n, 0, none⟩ u).setCell ⟨n, 1, none⟩ v).heap[bo]? = W.heap[bo]? := by
    rw [Below.heap_setCell _ _ _ _ (Ne.symm hn), Below.heap_setCell _ _ _ _ (Ne.symm hn)]
  exact ⟨by have := h.lt; simpa [World.setCell] using this, (World.cell?_of_block (w := W) (a := ⟨bo, 0, none⟩) hk).trans h.c0, (World.cell?_of_block (w := W) (a := ⟨bo, 1, none⟩) hk).trans h.c1, (World.frozen?_of_block (w := W) (a := ⟨bo, 0, none⟩) hk).trans h.f0, (World.frozen?_of_block (w := W) (a := ⟨bo, 1, none⟩) hk).trans h.f1⟩
end Go.Proofs.YtidelghgjibndaaGreat.S44
namespace Go.Proofs.YtidelghgjibndaaGreat.S44
set_option linter.unusedVariables false
open Go.RowKit
theorem oc_len {B : Nat} {w : World} {v : Value} {l : List Cr} (h : OC B w v l) : ∃ p cap, v = .slice p l.length cap := by
  rcases oc_cases h with ⟨rfl, rfl⟩ | ⟨g, cap, rfl, _⟩
  · exact ⟨none, 0, rfl⟩
  · exact ⟨_, _, rfl⟩
theorem ed_of {l : List Ms} (h : chkL l = 0) : (∀ m ∈ l, EdM m) ∧ l.length ≤ 17 := ⟨fun m hm => OkM.ed ((chkL_ok h).2 m hm), by have := (chkL_ok h).1; omega⟩
end Go.Proofs.YtidelghgjibndaaGreat.S44
namespace Go.Proofs.YtidelghgjibndaaGreat.S44
set_option linter.unusedVariables false
open Go.RowKit
set_option maxHeartbeats 4000000 in
theorem wo_some (l : List Ms) (s : Int) (b o cap : Nat) (w : World) (h : MsAt l b o w) (hc : l.length ≤ cap) (hm : cap ≤ 9223372036854775807) (hl : l.length ≤ 17) :
    Calls Tryz.prog 19 #[.slice (some ⟨b, o, none⟩) l.length cap, .int .i64 s] w fun e w' => (∃ u, e = .returned u ∧ OM w.heap.size w' u (woL l s)) ∧ Below w.heap.size w w' := by
  have H := Lib.hid h
  have hlt := h.lt
  clear h
  go_enter Tryz.func19, Tryz.ntmps19
  go_wp2
  go_loopw [5, 10] (WoR l s w) (fun _ i _ => l.length - (intOf i).toNat)
  case atStart => exact ⟨0, rfl, Nat.zero_le _, Lib.hid (Below.refl _ _), Lib.hid (World.ownsRow_nil _ _ _ _)⟩
  case round =>
    obtain ⟨k, rfl, hk, HB, HO⟩ := hrel
    by_cases q : k < l.length
    · have q' : decide (k < l.length) = true := by simpa using q
      have M := H.out.keep HB.out hlt
      have c0 := M.c0 k q
      have c1 := M.c1 k q
      have c2 := M.c2 k q
      have c3 := M.c3 k q
      have c4 := M.c4 k q
      have c5 := M.c5 k q
      have WS := Lib.hid (woL_succ (s := s) q)
      have SZ := Lib.hid (show (woL (l.take k) s).length ≤ 100000 by have := woL_len (l.take k) s; rw [List.length_take] at this; omega)
      have HS := Lib.hid HB.out.size
      clear M
      generalize hp : nth l k = p at *
      clear hp
      by_cases e : p.s = s
      · have g : (p.s != s) = false := by simpa using e
        have E := Lib.hid e
        clear e
        go_wp2
        go_roundw
        case rel =>
          have hb := (Below.refl wr.heap.size wr).alloc (Nat.le_refl _) (.cells #[.int .i64 p.s, .int .i64 p.a, .int .i64 p.b, .int .i64 p.z, .int .i64 p.d, .int .i64 p.w] 59)
          exact ⟨k + 1, by go_num, by omega, HB.out.trans (hb.mono HS.out), by rw [WS.out, if_pos E.out]; exact HO.out.below hb⟩
        case measure => simp [intOf]; omega
      · have g : (p.s != s) = true := by simpa using e
        have HA := Lib.hid ((Below.refl wr.heap.size wr).alloc (Nat.le_refl _) (.cells #[.int .i64 p.s, .int .i64 p.a, .int .i64 p.b, .int .i64 p.z, .int .i64 p.d, .int .i64 p.w] 59))
        go_wp2_with (at_builtin; refine Halt.mk ?_)
        unfold Halt
        refine wpList_om rfl (.tmp 18) (.tmp 20) rfl w.heap.size u5 (woL (l.take k) s) rfl (wr.alloc (.cells #[.int .i64 p.s, .int .i64 p.a, .int .i64 p.b, .int .i64 p.z, .int .i64 p.d, .int .i64 p.w] 59)) (HO.out.below HA.out) _ p 1 (by rw [World.size_alloc]; rfl) SZ.out (by have := HS.out; simp; omega) ?_
        intro u2 w5 ho5 hg5 hat5
        have HO5 : Hid (OM w.heap.size w5 u2 (woL (l.take (k + 1)) s)) := Lib.hid (by rw [WS.out, if_neg e]; exact ho5)
        have HB5 : Hid (Below w.heap.size w w5) := Lib.hid (below_grown ((HB.out.trans (HA.out.mono HS.out)).alloc (by simp; have := HS.out; omega) _) hg5 (by simp; have := HS.out; omega) (fun k hk => (World.ownsRow.lt HO.out k hk).1))
        clear hg5 hat5 c0 c1 c2 c3 c4 c5
        obtain ⟨g5, cap5, hu2⟩ := Go.Joins.ownsRow_form ho5 (show 0 < (woL (l.take k) s ++ [p]).length by rw [List.length_append, List.length_singleton]; omega)
        obtain ⟨N5, hN5⟩ : ∃ N, (woL (l.take k) s ++ [p]).length = N := ⟨_, rfl⟩
        rw [hN5] at hu2
        clear ho5 hN5
        subst hu2
        go_wp2
        go_roundw
        case rel => exact ⟨k + 1, by go_num, by omega, HB5, HO5⟩
        case measure => simp [intOf]; omega
    · obtain rfl : k = l.length := by omega
      rw [List.take_length] at HO
      rcases om_cases HO.out with ⟨rfl, hz⟩ | ⟨g, cap', rfl, _⟩
      · go_wp2
        go_ret
        exact ⟨⟨_, rfl, HO.out⟩, HB.out⟩
      · go_wp2
        go_ret
        exact ⟨⟨_, rfl, HO.out⟩, HB.out⟩
theorem wo_any (l : List Ms) (s : Int) (v : Value) (w : World) (h : LstAt l v w) (hl : l.length ≤ 17) :
    Calls Tryz.prog 19 #[v, .int .i64 s] w fun e w' => (∃ u, e = .returned u ∧ OM w.heap.size w' u (woL l s)) ∧ Below w.heap.size w w' := by
  rcases h with ⟨rfl, rfl⟩ | ⟨b, o, cap, rfl, h2, h3, h4⟩
  · exact wo_nil s w
  · exact wo_some l s b o cap w h4 h2 h3 hl
end Go.Proofs.YtidelghgjibndaaGreat.S44
