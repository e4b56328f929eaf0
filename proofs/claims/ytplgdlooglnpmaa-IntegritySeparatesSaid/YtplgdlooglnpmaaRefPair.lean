/-
  The walks of the reference's up and pair.
-/
import Derived.Test.YtplgdlooglnpmaaRef42W
import Derived.Test.YtplgdlooglnpmaaSizes43
namespace Go.Proofs.Ytplgdlooglnpmaa
set_option linter.unusedVariables false
open Go.RowKit

set_option maxHeartbeats 8000000 in
set_option maxRecDepth 100000 in
theorem rup_any (x d : Int) (w : World) (hx0 : 0 ≤ x) (hx : x < 85070591730234615865843651857942052864) (hd : 0 < d) (hd1 : d ≤ 9223372036854775807) :
    Calls Try.prog 52 #[wv x, .int .i64 d] w fun e w' => e = .returned (.tuple #[.int .i64 (if I64 (ceilI x d) then ceilI x d else 0), .bool (decide (ceilI x d ≤ 8000000))]) ∧ Below w.heap.size w w' := by
  obtain ⟨b0, b1⟩ := ceil_bd hd hx0
  have OF := Lib.hid fun w => rof_any d w (by omega) hd1
  have DV := Lib.hid fun w => rdivup_any x d w hx0 hx hd (by omega)
  have IN := Lib.hid fun w => rnear_int (x := ceilI x d) w ⟨by omega, by omega⟩
  have NI : ¬ I64 (ceilI x d) → ¬ ceilI x d ≤ 8000000 := fun h q => h ⟨by omega, by omega⟩
  generalize ceilI x d = v at *
  unfold wv at *
  clear hx0 hx hd hd1 b0 b1
  by_cases k : I64 v
  · rw [if_pos k, decide_eq_true k] at IN
    rw [if_pos k]
    obtain ⟨b, g⟩ : ∃ b, decide (v ≤ 8000000) = b := ⟨_, rfl⟩
    rw [g]
    clear NI k
    have KX := Lib.hid (Blk.of (vs := #[.int .i64 (hiW x), .int .u64 (loW x)]) (t := 51) (w := w) (b := w.heap.size) (by simp))
    have HB := Lib.hid ((Below.refl w.heap.size w).alloc (by simp; try omega) (.cells #[.int .i64 (hiW x), .int .u64 (loW x)] 51))
    go_enter Try.func52, Try.ntmps52
    go_wp2_with fail
    generalize w.alloc (.cells #[.int .i64 (hiW x), .int .u64 (loW x)] 51) = w0 at *
    have BD := Lib.hid (show Below w0.heap.size w0 w0.drew from ⟨rfl, rfl, rfl, Nat.le_refl _, fun _ _ => rfl⟩)
    have BD2 := Lib.hid (below_drew_alloc w0 (.cells #[.int .i64 0, .int .u64 0] 51))
    have DOF := Lib.hid fun W (h : Below w0.heap.size w0 W) => (OF.out W).mono fun e w' ⟨h1, h2⟩ => show _ ∧ Below w0.heap.size w0 w' ∧ Below W.heap.size W w' from ⟨h1, h.trans (h2.mono h.size), h2⟩
    have DDV := Lib.hid fun W (h : Below w0.heap.size w0 W) => (DV.out W).mono fun e w' ⟨h1, h2⟩ => show _ ∧ Below w0.heap.size w0 w' ∧ Below W.heap.size W w' from ⟨h1, h.trans (h2.mono h.size), h2⟩
    have yX := KX.out
    have yX_0 := yX.c 0 _ rfl
    have yX_1 := yX.c 1 _ rfl
    have yX_z := yX.lt
    clear yX
    go_region_held3 (fun w' => w'.cell? ⟨w.heap.size, 0, none⟩ = some (.int .i64 (hiW x)) ∧ w'.cell? ⟨w.heap.size, 1, none⟩ = some (.int .u64 (loW x))) (first | (refine ⟨?_, ?_⟩ <;> first | with_reducible assumption | (rw [far2 KV.out.1 yX_z]; with_reducible assumption)) | go_keep)
      (first
        | (go_at_call 70; with_reducible refine Calls.mono (DOF.out _ (by first | with_reducible exact BD.out | with_reducible exact BD2.out | with_reducible exact HX.out | with_reducible exact HX.out.alloc HX.out.size _)) ?_; rintro e9 w9 ⟨rfl, hb9, hc9⟩; have pX := KX.out.below hb9; have qX0 := pX.c 0 _ rfl; have qX1 := pX.c 1 _ rfl; clear pX; (first | (with_reducible have KV := Lib.hid (kv_drew (vs := #[.int .i64 0, .int .u64 0]) (t := 51) hc9); have pV := KV.out.2; have v0 := pV.c 0 _ rfl; have vf0 := pV.f 0 _ rfl; have v1 := pV.c 1 _ rfl; have vf1 := pV.f 1 _ rfl; have v9 := pV.lt; clear pV) | (with_reducible have KV := Lib.hid (kv_new (vs := #[.int .i64 0, .int .u64 0]) (t := 51) HX.out hc9); have pV := KV.out.2; have v0 := pV.c 0 _ rfl; have vf0 := pV.f 0 _ rfl; have v1 := pV.c 1 _ rfl; have vf1 := pV.f 1 _ rfl; have v9 := pV.lt; clear pV) | (with_reducible have KV := Lib.hid (kv_old KV.out hc9); have pV := KV.out.2; have v0 := pV.c 0 _ rfl; have vf0 := pV.f 0 _ rfl; have v1 := pV.c 1 _ rfl; have vf1 := pV.f 1 _ rfl; have v9 := pV.lt; clear pV) | skip); have HX := Lib.hid hb9; clear hb9 hc9)
        | (go_at_call 73; with_reducible refine Calls.mono (DDV.out _ (by first | with_reducible exact BD.out | with_reducible exact BD2.out | with_reducible exact HX.out | with_reducible exact HX.out.alloc HX.out.size _)) ?_; rintro e9 w9 ⟨rfl, hb9, hc9⟩; have pX := KX.out.below hb9; have qX0 := pX.c 0 _ rfl; have qX1 := pX.c 1 _ rfl; clear pX; (first | (with_reducible have KV := Lib.hid (kv_drew (vs := #[.int .i64 0, .int .u64 0]) (t := 51) hc9); have pV := KV.out.2; have v0 := pV.c 0 _ rfl; have vf0 := pV.f 0 _ rfl; have v1 := pV.c 1 _ rfl; have vf1 := pV.f 1 _ rfl; have v9 := pV.lt; clear pV) | (with_reducible have KV := Lib.hid (kv_new (vs := #[.int .i64 0, .int .u64 0]) (t := 51) HX.out hc9); have pV := KV.out.2; have v0 := pV.c 0 _ rfl; have vf0 := pV.f 0 _ rfl; have v1 := pV.c 1 _ rfl; have vf1 := pV.f 1 _ rfl; have v9 := pV.lt; clear pV) | (with_reducible have KV := Lib.hid (kv_old KV.out hc9); have pV := KV.out.2; have v0 := pV.c 0 _ rfl; have vf0 := pV.f 0 _ rfl; have v1 := pV.c 1 _ rfl; have vf1 := pV.f 1 _ rfl; have v9 := pV.lt; clear pV) | skip); have HX := Lib.hid hb9; clear hb9 hc9))
    all_goals
      first
        | (have FN := kv_set2n (.int .i64 (hiW v)) (.int .u64 (loW v)) KV.out HX.out; have FB := Lib.hid FN.1; have KN := Lib.hid FN.2.1; have n0N := FN.2.2; clear FN; generalize World.setCell (World.setCell _ _ (.int .i64 (hiW v))) _ (.int .u64 (loW v)) = w1 at *)
        | (have FN := kv_putn (vs := #[.int .i64 (hiW v), .int .u64 (loW v)]) (t := 51) HX.out; have FB := Lib.hid FN.1; have KN := Lib.hid FN.2.1; have n0N := FN.2.2; clear FN; generalize (World.alloc _ (.cells #[.int .i64 (hiW v), .int .u64 (loW v)] 51)) = w1 at *)
      have nN := Nat.le_trans HB.out.size n0N
      have neN_X := Nat.ne_of_gt (Nat.lt_of_lt_of_le KX.out.lt n0N)
      replace HB := Lib.hid (HB.out.trans (FB.out.mono HB.out.size))
      replace KX := Lib.hid (KX.out.below FB.out)
      have yN := KN.out
      have yN_0 := yN.c 0 _ rfl
      have yN_1 := yN.c 1 _ rfl
      have yN_z := yN.lt
      clear yN
      go_wp2_with fail
      refine (IN.out _).mono ?_
      rintro e2 w2 ⟨rfl, hb2⟩
      replace HB := Lib.hid (HB.out.trans (hb2.mono HB.out.size))
      replace KX := Lib.hid (KX.out.below hb2)
      replace KN := Lib.hid (KN.out.below hb2)
      clear yN_0 yN_1 yN_z
      clear hb2
      go_wp2
      all_goals go_ret2
      all_goals exact ⟨rfl, HB.out⟩
  · rw [if_neg k, decide_eq_false k] at IN
    rw [if_neg k, decide_eq_false (NI k)]
    clear NI k
    have KX := Lib.hid (Blk.of (vs := #[.int .i64 (hiW x), .int .u64 (loW x)]) (t := 51) (w := w) (b := w.heap.size) (by simp))
    have HB := Lib.hid ((Below.refl w.heap.size w).alloc (by simp; try omega) (.cells #[.int .i64 (hiW x), .int .u64 (loW x)] 51))
    go_enter Try.func52, Try.ntmps52
    go_wp2_with fail
    generalize w.alloc (.cells #[.int .i64 (hiW x), .int .u64 (loW x)] 51) = w0 at *
    have BD := Lib.hid (show Below w0.heap.size w0 w0.drew from ⟨rfl, rfl, rfl, Nat.le_refl _, fun _ _ => rfl⟩)
    have BD2 := Lib.hid (below_drew_alloc w0 (.cells #[.int .i64 0, .int .u64 0] 51))
    have DOF := Lib.hid fun W (h : Below w0.heap.size w0 W) => (OF.out W).mono fun e w' ⟨h1, h2⟩ => show _ ∧ Below w0.heap.size w0 w' ∧ Below W.heap.size W w' from ⟨h1, h.trans (h2.mono h.size), h2⟩
    have DDV := Lib.hid fun W (h : Below w0.heap.size w0 W) => (DV.out W).mono fun e w' ⟨h1, h2⟩ => show _ ∧ Below w0.heap.size w0 w' ∧ Below W.heap.size W w' from ⟨h1, h.trans (h2.mono h.size), h2⟩
    have yX := KX.out
    have yX_0 := yX.c 0 _ rfl
    have yX_1 := yX.c 1 _ rfl
    have yX_z := yX.lt
    clear yX
    go_region_held3 (fun w' => w'.cell? ⟨w.heap.size, 0, none⟩ = some (.int .i64 (hiW x)) ∧ w'.cell? ⟨w.heap.size, 1, none⟩ = some (.int .u64 (loW x))) (first | (refine ⟨?_, ?_⟩ <;> first | with_reducible assumption | (rw [far2 KV.out.1 yX_z]; with_reducible assumption)) | go_keep)
      (first
        | (go_at_call 70; with_reducible refine Calls.mono (DOF.out _ (by first | with_reducible exact BD.out | with_reducible exact BD2.out | with_reducible exact HX.out | with_reducible exact HX.out.alloc HX.out.size _)) ?_; rintro e9 w9 ⟨rfl, hb9, hc9⟩; have pX := KX.out.below hb9; have qX0 := pX.c 0 _ rfl; have qX1 := pX.c 1 _ rfl; clear pX; (first | (with_reducible have KV := Lib.hid (kv_drew (vs := #[.int .i64 0, .int .u64 0]) (t := 51) hc9); have pV := KV.out.2; have v0 := pV.c 0 _ rfl; have vf0 := pV.f 0 _ rfl; have v1 := pV.c 1 _ rfl; have vf1 := pV.f 1 _ rfl; have v9 := pV.lt; clear pV) | (with_reducible have KV := Lib.hid (kv_new (vs := #[.int .i64 0, .int .u64 0]) (t := 51) HX.out hc9); have pV := KV.out.2; have v0 := pV.c 0 _ rfl; have vf0 := pV.f 0 _ rfl; have v1 := pV.c 1 _ rfl; have vf1 := pV.f 1 _ rfl; have v9 := pV.lt; clear pV) | (with_reducible have KV := Lib.hid (kv_old KV.out hc9); have pV := KV.out.2; have v0 := pV.c 0 _ rfl; have vf0 := pV.f 0 _ rfl; have v1 := pV.c 1 _ rfl; have vf1 := pV.f 1 _ rfl; have v9 := pV.lt; clear pV) | skip); have HX := Lib.hid hb9; clear hb9 hc9)
        | (go_at_call 73; with_reducible refine Calls.mono (DDV.out _ (by first | with_reducible exact BD.out | with_reducible exact BD2.out | with_reducible exact HX.out | with_reducible exact HX.out.alloc HX.out.size _)) ?_; rintro e9 w9 ⟨rfl, hb9, hc9⟩; have pX := KX.out.below hb9; have qX0 := pX.c 0 _ rfl; have qX1 := pX.c 1 _ rfl; clear pX; (first | (with_reducible have KV := Lib.hid (kv_drew (vs := #[.int .i64 0, .int .u64 0]) (t := 51) hc9); have pV := KV.out.2; have v0 := pV.c 0 _ rfl; have vf0 := pV.f 0 _ rfl; have v1 := pV.c 1 _ rfl; have vf1 := pV.f 1 _ rfl; have v9 := pV.lt; clear pV) | (with_reducible have KV := Lib.hid (kv_new (vs := #[.int .i64 0, .int .u64 0]) (t := 51) HX.out hc9); have pV := KV.out.2; have v0 := pV.c 0 _ rfl; have vf0 := pV.f 0 _ rfl; have v1 := pV.c 1 _ rfl; have vf1 := pV.f 1 _ rfl; have v9 := pV.lt; clear pV) | (with_reducible have KV := Lib.hid (kv_old KV.out hc9); have pV := KV.out.2; have v0 := pV.c 0 _ rfl; have vf0 := pV.f 0 _ rfl; have v1 := pV.c 1 _ rfl; have vf1 := pV.f 1 _ rfl; have v9 := pV.lt; clear pV) | skip); have HX := Lib.hid hb9; clear hb9 hc9))
    all_goals
      first
        | (have FN := kv_set2n (.int .i64 (hiW v)) (.int .u64 (loW v)) KV.out HX.out; have FB := Lib.hid FN.1; have KN := Lib.hid FN.2.1; have n0N := FN.2.2; clear FN; generalize World.setCell (World.setCell _ _ (.int .i64 (hiW v))) _ (.int .u64 (loW v)) = w1 at *)
        | (have FN := kv_putn (vs := #[.int .i64 (hiW v), .int .u64 (loW v)]) (t := 51) HX.out; have FB := Lib.hid FN.1; have KN := Lib.hid FN.2.1; have n0N := FN.2.2; clear FN; generalize (World.alloc _ (.cells #[.int .i64 (hiW v), .int .u64 (loW v)] 51)) = w1 at *)
      have nN := Nat.le_trans HB.out.size n0N
      have neN_X := Nat.ne_of_gt (Nat.lt_of_lt_of_le KX.out.lt n0N)
      replace HB := Lib.hid (HB.out.trans (FB.out.mono HB.out.size))
      replace KX := Lib.hid (KX.out.below FB.out)
      have yN := KN.out
      have yN_0 := yN.c 0 _ rfl
      have yN_1 := yN.c 1 _ rfl
      have yN_z := yN.lt
      clear yN
      go_wp2_with fail
      refine (IN.out _).mono ?_
      rintro e2 w2 ⟨rfl, hb2⟩
      replace HB := Lib.hid (HB.out.trans (hb2.mono HB.out.size))
      replace KX := Lib.hid (KX.out.below hb2)
      replace KN := Lib.hid (KN.out.below hb2)
      clear yN_0 yN_1 yN_z
      clear hb2
      go_wp2
      all_goals go_ret2
      all_goals exact ⟨rfl, HB.out⟩
set_option maxHeartbeats 8000000 in
set_option maxRecDepth 100000 in
theorem rpair_any (x y d : Int) (w : World) (hx0 : 0 ≤ x) (hx : x < 85070591730234615865843651857942052864) (hy0 : 0 ≤ y) (hy : y < 85070591730234615865843651857942052864) (hd : 0 < d) (hd1 : d ≤ 9223372036854775807) :
    Calls Try.prog 31 #[wv x, wv y, .int .i64 d] w fun e w' => e = .returned (.tuple #[.int .i64 (pairF x y d).1.1, .int .i64 (pairF x y d).1.2, .int .i64 (pairF x y d).2]) ∧ Below w.heap.size w w' := by
  have SX := Lib.hid fun w => rup_any x d w hx0 hx hd hd1
  have SY := Lib.hid fun w => rup_any y d w hy0 hy hd hd1
  have E0 : pairF x y d = if ceilI x d ≤ 8000000 ∧ ceilI y d ≤ 8000000 then ((ceilI x d, ceilI y d), 0) else ((0, 0), 2) := rfl
  have IX : ceilI x d ≤ 8000000 → I64 (ceilI x d) := fun h => by have := ceil_bd hd hx0; exact ⟨by omega, by omega⟩
  have IY : ceilI y d ≤ 8000000 → I64 (ceilI y d) := fun h => by have := ceil_bd hd hy0; exact ⟨by omega, by omega⟩
  clear hx0 hx hy0 hy hd hd1
  generalize pairF x y d = P at *
  generalize ceilI x d = u at *
  generalize ceilI y d = v at *
  unfold wv at *
  by_cases h : u ≤ 8000000
  · rw [if_pos (IX h), decide_eq_true h] at SX
    by_cases k : v ≤ 8000000
    · rw [if_pos (IY k), decide_eq_true k] at SY
      have E := Lib.hid (E0.trans (if_pos ⟨h, k⟩))
      clear E0 h k IX IY
      have KX := Lib.hid ((Blk.of (vs := #[.int .i64 (hiW x), .int .u64 (loW x)]) (t := 51) (w := w) (b := w.heap.size) (by simp)).alloc (.cells #[.int .i64 (hiW y), .int .u64 (loW y)] 51))
      have KY := Lib.hid (Blk.of (vs := #[.int .i64 (hiW y), .int .u64 (loW y)]) (t := 51) (w := (w.alloc (.cells #[.int .i64 (hiW x), .int .u64 (loW x)] 51))) (b := w.heap.size + 1) (by simp))
      have HB := Lib.hid (((Below.refl w.heap.size w).alloc (by simp; try omega) (.cells #[.int .i64 (hiW x), .int .u64 (loW x)] 51)).alloc (by simp; try omega) (.cells #[.int .i64 (hiW y), .int .u64 (loW y)] 51))
      go_enter Try.func31, Try.ntmps31
      go_wp2_with fail
      generalize (w.alloc (.cells #[.int .i64 (hiW x), .int .u64 (loW x)] 51)).alloc (.cells #[.int .i64 (hiW y), .int .u64 (loW y)] 51) = w0 at *
      refine (SX.out _).mono ?_
      rintro e1 w1 ⟨rfl, hb1⟩
      replace HB := Lib.hid (HB.out.trans (hb1.mono HB.out.size))
      replace KX := Lib.hid (KX.out.below hb1)
      replace KY := Lib.hid (KY.out.below hb1)
      clear hb1
      have yY := KY.out
      have yY_0 := yY.c 0 _ rfl
      have yY_1 := yY.c 1 _ rfl
      have yY_z := yY.lt
      clear yY
      go_wp2_with fail
      refine (SY.out _).mono ?_
      rintro e2 w2 ⟨rfl, hb2⟩
      replace HB := Lib.hid (HB.out.trans (hb2.mono HB.out.size))
      replace KX := Lib.hid (KX.out.below hb2)
      replace KY := Lib.hid (KY.out.below hb2)
      clear yY_0 yY_1 yY_z
      clear hb2
      go_wp2
      refine bodyPost_ret (v := .tuple #[.int .i64 u, .int .i64 v, .int .i64 0]) (by simp [results, Try.results31, go_sem]) rfl ⟨by rw [E.out], HB.out⟩
    · rw [decide_eq_false k] at SY
      have E := Lib.hid (E0.trans (if_neg fun q => k q.2))
      generalize (if I64 v then v else 0) = v' at *
      clear E0 h k IX IY
      have KX := Lib.hid ((Blk.of (vs := #[.int .i64 (hiW x), .int .u64 (loW x)]) (t := 51) (w := w) (b := w.heap.size) (by simp)).alloc (.cells #[.int .i64 (hiW y), .int .u64 (loW y)] 51))
      have KY := Lib.hid (Blk.of (vs := #[.int .i64 (hiW y), .int .u64 (loW y)]) (t := 51) (w := (w.alloc (.cells #[.int .i64 (hiW x), .int .u64 (loW x)] 51))) (b := w.heap.size + 1) (by simp))
      have HB := Lib.hid (((Below.refl w.heap.size w).alloc (by simp; try omega) (.cells #[.int .i64 (hiW x), .int .u64 (loW x)] 51)).alloc (by simp; try omega) (.cells #[.int .i64 (hiW y), .int .u64 (loW y)] 51))
      go_enter Try.func31, Try.ntmps31
      go_wp2_with fail
      generalize (w.alloc (.cells #[.int .i64 (hiW x), .int .u64 (loW x)] 51)).alloc (.cells #[.int .i64 (hiW y), .int .u64 (loW y)] 51) = w0 at *
      refine (SX.out _).mono ?_
      rintro e1 w1 ⟨rfl, hb1⟩
      replace HB := Lib.hid (HB.out.trans (hb1.mono HB.out.size))
      replace KX := Lib.hid (KX.out.below hb1)
      replace KY := Lib.hid (KY.out.below hb1)
      clear hb1
      have yY := KY.out
      have yY_0 := yY.c 0 _ rfl
      have yY_1 := yY.c 1 _ rfl
      have yY_z := yY.lt
      clear yY
      go_wp2_with fail
      refine (SY.out _).mono ?_
      rintro e2 w2 ⟨rfl, hb2⟩
      replace HB := Lib.hid (HB.out.trans (hb2.mono HB.out.size))
      replace KX := Lib.hid (KX.out.below hb2)
      replace KY := Lib.hid (KY.out.below hb2)
      clear yY_0 yY_1 yY_z
      clear hb2
      go_wp2
      refine bodyPost_ret (v := .tuple #[.int .i64 0, .int .i64 0, .int .i64 2]) (by simp [results, Try.results31, go_sem]) rfl ⟨by rw [E.out], HB.out⟩
  · rw [decide_eq_false h] at SX
    have E := Lib.hid (E0.trans (if_neg fun q => h q.1))
    obtain ⟨bk, hbk⟩ : ∃ b, decide (v ≤ 8000000) = b := ⟨_, rfl⟩
    rw [hbk] at SY
    generalize (if I64 u then u else 0) = u' at *
    generalize (if I64 v then v else 0) = v' at *
    clear E0 h IX IY hbk
    have KX := Lib.hid ((Blk.of (vs := #[.int .i64 (hiW x), .int .u64 (loW x)]) (t := 51) (w := w) (b := w.heap.size) (by simp)).alloc (.cells #[.int .i64 (hiW y), .int .u64 (loW y)] 51))
    have KY := Lib.hid (Blk.of (vs := #[.int .i64 (hiW y), .int .u64 (loW y)]) (t := 51) (w := (w.alloc (.cells #[.int .i64 (hiW x), .int .u64 (loW x)] 51))) (b := w.heap.size + 1) (by simp))
    have HB := Lib.hid (((Below.refl w.heap.size w).alloc (by simp; try omega) (.cells #[.int .i64 (hiW x), .int .u64 (loW x)] 51)).alloc (by simp; try omega) (.cells #[.int .i64 (hiW y), .int .u64 (loW y)] 51))
    go_enter Try.func31, Try.ntmps31
    go_wp2_with fail
    generalize (w.alloc (.cells #[.int .i64 (hiW x), .int .u64 (loW x)] 51)).alloc (.cells #[.int .i64 (hiW y), .int .u64 (loW y)] 51) = w0 at *
    refine (SX.out _).mono ?_
    rintro e1 w1 ⟨rfl, hb1⟩
    replace HB := Lib.hid (HB.out.trans (hb1.mono HB.out.size))
    replace KX := Lib.hid (KX.out.below hb1)
    replace KY := Lib.hid (KY.out.below hb1)
    clear hb1
    have yY := KY.out
    have yY_0 := yY.c 0 _ rfl
    have yY_1 := yY.c 1 _ rfl
    have yY_z := yY.lt
    clear yY
    go_wp2_with fail
    refine (SY.out _).mono ?_
    rintro e2 w2 ⟨rfl, hb2⟩
    replace HB := Lib.hid (HB.out.trans (hb2.mono HB.out.size))
    replace KX := Lib.hid (KX.out.below hb2)
    replace KY := Lib.hid (KY.out.below hb2)
    clear yY_0 yY_1 yY_z
    clear hb2
    go_wp2
    refine bodyPost_ret (v := .tuple #[.int .i64 0, .int .i64 0, .int .i64 2]) (by simp [results, Try.results31, go_sem]) rfl ⟨by rw [E.out], HB.out⟩
end Go.Proofs.Ytplgdlooglnpmaa
