/-
  The walks of Start, report, cut and inertial.Within.
-/
import Derived.Test.YtajmjkliblippaaGreatDoorM83
import Derived.Test.YtajmjkliblippaaGreatDoorM64
namespace Go.Proofs.YtajmjkliblippaaGreatDoor
set_option linter.unusedVariables false
open Go.RowKit

theorem st3 (W : World) (n : Nat) (j0 : Nat) (u0 : Value) (j1 : Nat) (u1 : Value) (j2 : Nat) (u2 : Value) : Oth n W (((W.setCell ⟨n, j0, none⟩ u0).setCell ⟨n, j1, none⟩ u1).setCell ⟨n, j2, none⟩ u2) := ((((Oth.refl n W).set j0 u0).set j1 u1).set j2 u2)
theorem st8 (W : World) (n : Nat) (j0 : Nat) (u0 : Value) (j1 : Nat) (u1 : Value) (j2 : Nat) (u2 : Value) (j3 : Nat) (u3 : Value) (j4 : Nat) (u4 : Value) (j5 : Nat) (u5 : Value) (j6 : Nat) (u6 : Value) (j7 : Nat) (u7 : Value) : Oth n W ((((((((W.setCell ⟨n, j0, none⟩ u0).setCell ⟨n, j1, none⟩ u1).setCell ⟨n, j2, none⟩ u2).setCell ⟨n, j3, none⟩ u3).setCell ⟨n, j4, none⟩ u4).setCell ⟨n, j5, none⟩ u5).setCell ⟨n, j6, none⟩ u6).setCell ⟨n, j7, none⟩ u7) := (((((((((Oth.refl n W).set j0 u0).set j1 u1).set j2 u2).set j3 u3).set j4 u4).set j5 u5).set j6 u6).set j7 u7)
set_option maxHeartbeats 40000000 in
set_option maxRecDepth 100000 in
theorem start_good (b : Bx4) (t : Int) (w : World) (h : chkS b t 0 = 0) : Calls Tryz.prog 12 #[.agg #[.int .i64 b.cx, .int .i64 b.cy, .int .i64 b.x, .int .i64 b.y], .int .i64 t] w fun e w' => e = .returned (.tuple #[.agg #[.int .i64 b.cx, .int .i64 b.cy, .int .i64 b.x, .int .i64 b.y, .int .i64 t, .int .i64 0], .int .i64 0]) ∧ Below w.heap.size w w' := by
  have C0 := fun w => ncheck_any b t 0 w
  rw [h] at C0
  have CK := Lib.hid C0
  clear C0 h
  obtain ⟨cx, cy, x, y⟩ := b
  simp only at CK
  obtain ⟨KB, KZ, HB⟩ := ent2 w #[.int .i64 cx, .int .i64 cy, .int .i64 x, .int .i64 y] 25 #[.int .i64 0, .int .i64 0, .int .i64 0, .int .i64 0, .int .i64 0, .int .i64 0] 27
  go_enter Tryz.func12, Tryz.ntmps12
  go_upto_region 1 with (fail)
  generalize (w.alloc (.cells #[.int .i64 cx, .int .i64 cy, .int .i64 x, .int .i64 y] 25)).alloc (.cells #[.int .i64 0, .int .i64 0, .int .i64 0, .int .i64 0, .int .i64 0, .int .i64 0] 27) = w0 at *
  obtain ⟨yB_0, yB_1, yB_2, yB_3, yB_z⟩ := blk4 KB
  go_upto_region 2 with (fail)
  obtain ⟨KN, hb1⟩ := alB w0 #[.int .i64 cx, .int .i64 cy, .int .i64 x, .int .i64 y, .int .i64 t, .int .i64 0] 27
  have hnN := HB.out.size
  have nzN_B := KB.out.lt
  have nzN_Z := KZ.out.lt
  replace HB := hT HB hb1
  replace KB := hK KB hb1
  replace KZ := hK KZ hb1
  clear yB_0 yB_1 yB_2 yB_3 yB_z
  clear hb1
  generalize w0.alloc (.cells #[.int .i64 cx, .int .i64 cy, .int .i64 x, .int .i64 y, .int .i64 t, .int .i64 0] 27) = w1 at *
  generalize w0.heap.size = bN at *
  have neN_B : bN ≠ w.heap.size := by omega
  have neN_Z : bN ≠ (w.heap.size + 1) := by omega
  clear nzN_B nzN_Z
  obtain ⟨yN_0, yN_1, yN_2, yN_3, yN_4, yN_5, yN_z⟩ := blk6 KN
  go_wp2_with fail
  refine (CK.out _).mono ?_
  rintro e2 w2 ⟨rfl, hb2⟩
  replace HB := hT HB hb2
  replace KB := hK KB hb2
  replace KZ := hK KZ hb2
  replace KN := hK KN hb2
  clear yN_0 yN_1 yN_2 yN_3 yN_4 yN_5 yN_z
  clear hb2
  obtain ⟨yZ_0, yZ_1, yZ_2, yZ_3, yZ_4, yZ_5, yZ_z, yZ_f0, yZ_f1, yZ_f2, yZ_f3, yZ_f4, yZ_f5⟩ := blf6 KZ
  obtain ⟨yN_0, yN_1, yN_2, yN_3, yN_4, yN_5, yN_z⟩ := blk6 KN
  go_wp2
  have hs := st6 w2 (w.heap.size + 1) 0 (.int .i64 cx) 1 (.int .i64 cy) 2 (.int .i64 x) 3 (.int .i64 y) 4 (.int .i64 t) 5 (.int .i64 0)
  replace KB := oB hs KB (by omega)
  replace KZ := Lib.hid (blk_set (blk_set (blk_set (blk_set (blk_set (blk_set KZ.out (j := 0) (by simp) (.int .i64 cx)) (j := 1) (by simp) (.int .i64 cy)) (j := 2) (by simp) (.int .i64 x)) (j := 3) (by simp) (.int .i64 y)) (j := 4) (by simp) (.int .i64 t)) (j := 5) (by simp) (.int .i64 0))
  replace KN := oB hs KN (by omega)
  replace HB := oH hs HB (by omega)
  clear hs
  clear yZ_0 yZ_1 yZ_2 yZ_3 yZ_4 yZ_5 yZ_z yZ_f0 yZ_f1 yZ_f2 yZ_f3 yZ_f4 yZ_f5 yN_0 yN_1 yN_2 yN_3 yN_4 yN_5 yN_z
  generalize (((((w2.setCell ⟨(w.heap.size + 1), 0, none⟩ (.int .i64 cx)).setCell ⟨(w.heap.size + 1), 1, none⟩ (.int .i64 cy)).setCell ⟨(w.heap.size + 1), 2, none⟩ (.int .i64 x)).setCell ⟨(w.heap.size + 1), 3, none⟩ (.int .i64 y)).setCell ⟨(w.heap.size + 1), 4, none⟩ (.int .i64 t)).setCell ⟨(w.heap.size + 1), 5, none⟩ (.int .i64 0) = w3 at *
  simp only [List.set] at KZ
  obtain ⟨yZ_0, yZ_1, yZ_2, yZ_3, yZ_4, yZ_5, yZ_z⟩ := blk6 KZ
  refine bodyPost_ret (v := .tuple #[.agg #[.int .i64 cx, .int .i64 cy, .int .i64 x, .int .i64 y, .int .i64 t, .int .i64 0], .int .i64 0]) (by simp [results, Tryz.results12, go_sem, yZ_0, yZ_1, yZ_2, yZ_3, yZ_4, yZ_5]) rfl ⟨rfl, HB.out⟩
set_option maxHeartbeats 40000000 in
set_option maxRecDepth 100000 in
theorem start_bad (b : Bx4) (t : Int) (w : World) (h : chkS b t 0 ≠ 0) : Calls Tryz.prog 12 #[.agg #[.int .i64 b.cx, .int .i64 b.cy, .int .i64 b.x, .int .i64 b.y], .int .i64 t] w fun e w' => e = .returned (.tuple #[.agg #[.int .i64 0, .int .i64 0, .int .i64 0, .int .i64 0, .int .i64 0, .int .i64 0], .int .i64 (chkS b t 0)]) ∧ Below w.heap.size w w' := by
  have CK := Lib.hid fun w => ncheck_any b t 0 w
  have ge : (chkS b t 0 != 0) = true := by simpa using h
  clear h
  generalize chkS b t 0 = e at *
  obtain ⟨cx, cy, x, y⟩ := b
  simp only at CK
  obtain ⟨KB, KZ, HB⟩ := ent2 w #[.int .i64 cx, .int .i64 cy, .int .i64 x, .int .i64 y] 25 #[.int .i64 0, .int .i64 0, .int .i64 0, .int .i64 0, .int .i64 0, .int .i64 0] 27
  go_enter Tryz.func12, Tryz.ntmps12
  go_upto_region 1 with (fail)
  generalize (w.alloc (.cells #[.int .i64 cx, .int .i64 cy, .int .i64 x, .int .i64 y] 25)).alloc (.cells #[.int .i64 0, .int .i64 0, .int .i64 0, .int .i64 0, .int .i64 0, .int .i64 0] 27) = w0 at *
  obtain ⟨yB_0, yB_1, yB_2, yB_3, yB_z⟩ := blk4 KB
  go_upto_region 2 with (fail)
  obtain ⟨KN, hb1⟩ := alB w0 #[.int .i64 cx, .int .i64 cy, .int .i64 x, .int .i64 y, .int .i64 t, .int .i64 0] 27
  have hnN := HB.out.size
  have nzN_B := KB.out.lt
  have nzN_Z := KZ.out.lt
  replace HB := hT HB hb1
  replace KB := hK KB hb1
  replace KZ := hK KZ hb1
  clear yB_0 yB_1 yB_2 yB_3 yB_z
  clear hb1
  generalize w0.alloc (.cells #[.int .i64 cx, .int .i64 cy, .int .i64 x, .int .i64 y, .int .i64 t, .int .i64 0] 27) = w1 at *
  generalize w0.heap.size = bN at *
  have neN_B : bN ≠ w.heap.size := by omega
  have neN_Z : bN ≠ (w.heap.size + 1) := by omega
  clear nzN_B nzN_Z
  obtain ⟨yN_0, yN_1, yN_2, yN_3, yN_4, yN_5, yN_z⟩ := blk6 KN
  go_wp2_with fail
  refine (CK.out _).mono ?_
  rintro e2 w2 ⟨rfl, hb2⟩
  replace HB := hT HB hb2
  replace KB := hK KB hb2
  replace KZ := hK KZ hb2
  replace KN := hK KN hb2
  clear yN_0 yN_1 yN_2 yN_3 yN_4 yN_5 yN_z
  clear hb2
  obtain ⟨yZ_0, yZ_1, yZ_2, yZ_3, yZ_4, yZ_5, yZ_z, yZ_f0, yZ_f1, yZ_f2, yZ_f3, yZ_f4, yZ_f5⟩ := blf6 KZ
  go_wp2
  have hs := st6 w2 (w.heap.size + 1) 0 (.int .i64 0) 1 (.int .i64 0) 2 (.int .i64 0) 3 (.int .i64 0) 4 (.int .i64 0) 5 (.int .i64 0)
  replace KB := oB hs KB (by omega)
  replace KZ := Lib.hid (blk_set (blk_set (blk_set (blk_set (blk_set (blk_set KZ.out (j := 0) (by simp) (.int .i64 0)) (j := 1) (by simp) (.int .i64 0)) (j := 2) (by simp) (.int .i64 0)) (j := 3) (by simp) (.int .i64 0)) (j := 4) (by simp) (.int .i64 0)) (j := 5) (by simp) (.int .i64 0))
  replace KN := oB hs KN (by omega)
  replace HB := oH hs HB (by omega)
  clear hs
  clear yZ_0 yZ_1 yZ_2 yZ_3 yZ_4 yZ_5 yZ_z yZ_f0 yZ_f1 yZ_f2 yZ_f3 yZ_f4 yZ_f5
  generalize (((((w2.setCell ⟨(w.heap.size + 1), 0, none⟩ (.int .i64 0)).setCell ⟨(w.heap.size + 1), 1, none⟩ (.int .i64 0)).setCell ⟨(w.heap.size + 1), 2, none⟩ (.int .i64 0)).setCell ⟨(w.heap.size + 1), 3, none⟩ (.int .i64 0)).setCell ⟨(w.heap.size + 1), 4, none⟩ (.int .i64 0)).setCell ⟨(w.heap.size + 1), 5, none⟩ (.int .i64 0) = w3 at *
  simp only [List.set] at KZ
  obtain ⟨yZ_0, yZ_1, yZ_2, yZ_3, yZ_4, yZ_5, yZ_z⟩ := blk6 KZ
  refine bodyPost_ret (v := .tuple #[.agg #[.int .i64 0, .int .i64 0, .int .i64 0, .int .i64 0, .int .i64 0, .int .i64 0], .int .i64 e]) (by simp [results, Tryz.results12, go_sem, yZ_0, yZ_1, yZ_2, yZ_3, yZ_4, yZ_5]) rfl ⟨rfl, HB.out⟩
set_option maxHeartbeats 40000000 in
set_option maxRecDepth 100000 in
theorem report_any (s x y : Int) (w : World) : Calls Tryz.prog 29 #[.int .i64 s, .int .i64 x, .int .i64 y] w fun e w' => e = .returned (.agg #[.int .i64 s, .int .u8 1, .int .i64 x, .int .i64 y, .int .i64 0, .int .i64 20, .int .i64 1, .int .i64 12]) ∧ Below w.heap.size w w' := by
  obtain ⟨KZ, HB⟩ := ent1 w #[.int .i64 0, .int .u8 0, .int .i64 0, .int .i64 0, .int .i64 0, .int .i64 0, .int .i64 0, .int .i64 0] 49
  go_enter Tryz.func29, Tryz.ntmps29
  go_upto_region 1 with (fail)
  generalize w.alloc (.cells #[.int .i64 0, .int .u8 0, .int .i64 0, .int .i64 0, .int .i64 0, .int .i64 0, .int .i64 0, .int .i64 0] 49) = w0 at *
  obtain ⟨yZ_0, yZ_1, yZ_2, yZ_3, yZ_4, yZ_5, yZ_6, yZ_7, yZ_z, yZ_f0, yZ_f1, yZ_f2, yZ_f3, yZ_f4, yZ_f5, yZ_f6, yZ_f7⟩ := blf8 KZ
  go_wp2
  have hs := st8 w0 w.heap.size 0 (.int .i64 s) 1 (.int .u8 1) 2 (.int .i64 x) 3 (.int .i64 y) 4 (.int .i64 0) 5 (.int .i64 20) 6 (.int .i64 1) 7 (.int .i64 12)
  replace KZ := Lib.hid (blk_set (blk_set (blk_set (blk_set (blk_set (blk_set (blk_set (blk_set KZ.out (j := 0) (by simp) (.int .i64 s)) (j := 1) (by simp) (.int .u8 1)) (j := 2) (by simp) (.int .i64 x)) (j := 3) (by simp) (.int .i64 y)) (j := 4) (by simp) (.int .i64 0)) (j := 5) (by simp) (.int .i64 20)) (j := 6) (by simp) (.int .i64 1)) (j := 7) (by simp) (.int .i64 12))
  replace HB := oH hs HB (by omega)
  clear hs
  clear yZ_0 yZ_1 yZ_2 yZ_3 yZ_4 yZ_5 yZ_6 yZ_7 yZ_z yZ_f0 yZ_f1 yZ_f2 yZ_f3 yZ_f4 yZ_f5 yZ_f6 yZ_f7
  generalize (((((((w0.setCell ⟨w.heap.size, 0, none⟩ (.int .i64 s)).setCell ⟨w.heap.size, 1, none⟩ (.int .u8 1)).setCell ⟨w.heap.size, 2, none⟩ (.int .i64 x)).setCell ⟨w.heap.size, 3, none⟩ (.int .i64 y)).setCell ⟨w.heap.size, 4, none⟩ (.int .i64 0)).setCell ⟨w.heap.size, 5, none⟩ (.int .i64 20)).setCell ⟨w.heap.size, 6, none⟩ (.int .i64 1)).setCell ⟨w.heap.size, 7, none⟩ (.int .i64 12) = w1 at *
  simp only [List.set] at KZ
  obtain ⟨yZ_0, yZ_1, yZ_2, yZ_3, yZ_4, yZ_5, yZ_6, yZ_7, yZ_z⟩ := blk8 KZ
  refine bodyPost_ret (v := .agg #[.int .i64 s, .int .u8 1, .int .i64 x, .int .i64 y, .int .i64 0, .int .i64 20, .int .i64 1, .int .i64 12]) (by simp [results, Tryz.results29, go_sem, yZ_0, yZ_1, yZ_2, yZ_3, yZ_4, yZ_5, yZ_6, yZ_7]) rfl ⟨rfl, HB.out⟩
set_option maxHeartbeats 40000000 in
set_option maxRecDepth 100000 in
theorem cut_any (tk ve vn dr rq : Int) (L : List Rp) (v : Value) (w : World) (h : RlG L v w) : Calls Tryz.prog 16 #[.agg #[.int .i64 tk, v, .int .i64 ve, .int .i64 vn, .int .i64 dr, .int .i64 rq]] w fun e w' => (∃ v', e = .returned (.agg #[.int .i64 tk, v', .int .i64 ve, .int .i64 vn, .int .i64 dr, .int .i64 rq]) ∧ ∀ W, RlG L v W → RlG (L.take 10) v' W) ∧ Below w.heap.size w w' := by
  obtain ⟨p, cap, rfl⟩ := rg_form h
  by_cases h10 : 10 < L.length
  · obtain ⟨e1, e2, e3⟩ := rg_cap h
    have HC := Lib.hid fun (W : World) (h : RlG L (.slice p L.length cap) W) => rg_take h (n := 10) (by omega)
    have m1 : min (L.length : Int) 10 = 10 := by omega
    have m2 : 10 ≤ cap := by omega
    clear e1 e2 e3 h10 h
    obtain ⟨KI, KZ, HB⟩ := ent2 w #[.int .i64 tk, .slice p L.length cap, .int .i64 ve, .int .i64 vn, .int .i64 dr, .int .i64 rq] 38 #[.int .i64 0, .slice none 0 0, .int .i64 0, .int .i64 0, .int .i64 0, .int .i64 0] 38
    go_enter Tryz.func16, Tryz.ntmps16
    go_upto_region 1 with (fail)
    generalize (w.alloc (.cells #[.int .i64 tk, .slice p L.length cap, .int .i64 ve, .int .i64 vn, .int .i64 dr, .int .i64 rq] 38)).alloc (.cells #[.int .i64 0, .slice none 0 0, .int .i64 0, .int .i64 0, .int .i64 0, .int .i64 0] 38) = w0 at *
    obtain ⟨yI_0, yI_1, yI_2, yI_3, yI_4, yI_5, yI_z, yI_f0, yI_f1, yI_f2, yI_f3, yI_f4, yI_f5⟩ := blf6 KI
    go_upto_region 2 with (fail)
    have hs := st1 w0 w.heap.size 1 (.slice p 10 cap)
    replace KI := Lib.hid (blk_set KI.out (j := 1) (by simp) (.slice p 10 cap))
    replace KZ := oB hs KZ (by omega)
    replace HB := oH hs HB (by omega)
    clear hs
    clear yI_0 yI_1 yI_2 yI_3 yI_4 yI_5 yI_z yI_f0 yI_f1 yI_f2 yI_f3 yI_f4 yI_f5
    generalize w0.setCell ⟨w.heap.size, 1, none⟩ (.slice p 10 cap) = w1 at *
    simp only [List.set] at KI
    obtain ⟨yI_0, yI_1, yI_2, yI_3, yI_4, yI_5, yI_z⟩ := blk6 KI
    obtain ⟨yZ_0, yZ_1, yZ_2, yZ_3, yZ_4, yZ_5, yZ_z, yZ_f0, yZ_f1, yZ_f2, yZ_f3, yZ_f4, yZ_f5⟩ := blf6 KZ
    go_wp2
    have hs := st6 w1 (w.heap.size + 1) 0 (.int .i64 tk) 1 (.slice p 10 cap) 2 (.int .i64 ve) 3 (.int .i64 vn) 4 (.int .i64 dr) 5 (.int .i64 rq)
    replace KI := oB hs KI (by omega)
    replace KZ := Lib.hid (blk_set (blk_set (blk_set (blk_set (blk_set (blk_set KZ.out (j := 0) (by simp) (.int .i64 tk)) (j := 1) (by simp) (.slice p 10 cap)) (j := 2) (by simp) (.int .i64 ve)) (j := 3) (by simp) (.int .i64 vn)) (j := 4) (by simp) (.int .i64 dr)) (j := 5) (by simp) (.int .i64 rq))
    replace HB := oH hs HB (by omega)
    clear hs
    clear yI_0 yI_1 yI_2 yI_3 yI_4 yI_5 yI_z yZ_0 yZ_1 yZ_2 yZ_3 yZ_4 yZ_5 yZ_z yZ_f0 yZ_f1 yZ_f2 yZ_f3 yZ_f4 yZ_f5
    generalize (((((w1.setCell ⟨(w.heap.size + 1), 0, none⟩ (.int .i64 tk)).setCell ⟨(w.heap.size + 1), 1, none⟩ (.slice p 10 cap)).setCell ⟨(w.heap.size + 1), 2, none⟩ (.int .i64 ve)).setCell ⟨(w.heap.size + 1), 3, none⟩ (.int .i64 vn)).setCell ⟨(w.heap.size + 1), 4, none⟩ (.int .i64 dr)).setCell ⟨(w.heap.size + 1), 5, none⟩ (.int .i64 rq) = w2 at *
    simp only [List.set] at KZ
    obtain ⟨yZ_0, yZ_1, yZ_2, yZ_3, yZ_4, yZ_5, yZ_z⟩ := blk6 KZ
    refine bodyPost_ret (v := .agg #[.int .i64 tk, .slice p 10 cap, .int .i64 ve, .int .i64 vn, .int .i64 dr, .int .i64 rq]) (by simp [results, Tryz.results16, go_sem, yZ_0, yZ_1, yZ_2, yZ_3, yZ_4, yZ_5]) rfl ⟨⟨_, rfl, HC.out⟩, HB.out⟩
  · obtain ⟨e1, e2, e3⟩ := rg_cap h
    have HC := Lib.hid fun (W : World) (h : RlG L (.slice p L.length cap) W) => show RlG (L.take 10) (.slice p L.length cap) W by rw [List.take_of_length_le (by omega)]; exact h
    have m1 : min (L.length : Int) 10 = L.length := by omega
    have m2 : L.length ≤ cap := by omega
    clear e1 e2 e3 h10 h
    obtain ⟨KI, KZ, HB⟩ := ent2 w #[.int .i64 tk, .slice p L.length cap, .int .i64 ve, .int .i64 vn, .int .i64 dr, .int .i64 rq] 38 #[.int .i64 0, .slice none 0 0, .int .i64 0, .int .i64 0, .int .i64 0, .int .i64 0] 38
    go_enter Tryz.func16, Tryz.ntmps16
    go_upto_region 1 with (fail)
    generalize (w.alloc (.cells #[.int .i64 tk, .slice p L.length cap, .int .i64 ve, .int .i64 vn, .int .i64 dr, .int .i64 rq] 38)).alloc (.cells #[.int .i64 0, .slice none 0 0, .int .i64 0, .int .i64 0, .int .i64 0, .int .i64 0] 38) = w0 at *
    obtain ⟨yI_0, yI_1, yI_2, yI_3, yI_4, yI_5, yI_z, yI_f0, yI_f1, yI_f2, yI_f3, yI_f4, yI_f5⟩ := blf6 KI
    go_upto_region 2 with (fail)
    have hs := st1 w0 w.heap.size 1 (.slice p L.length cap)
    replace KI := Lib.hid (blk_set KI.out (j := 1) (by simp) (.slice p L.length cap))
    replace KZ := oB hs KZ (by omega)
    replace HB := oH hs HB (by omega)
    clear hs
    clear yI_0 yI_1 yI_2 yI_3 yI_4 yI_5 yI_z yI_f0 yI_f1 yI_f2 yI_f3 yI_f4 yI_f5
    generalize w0.setCell ⟨w.heap.size, 1, none⟩ (.slice p L.length cap) = w1 at *
    simp only [List.set] at KI
    obtain ⟨yI_0, yI_1, yI_2, yI_3, yI_4, yI_5, yI_z⟩ := blk6 KI
    obtain ⟨yZ_0, yZ_1, yZ_2, yZ_3, yZ_4, yZ_5, yZ_z, yZ_f0, yZ_f1, yZ_f2, yZ_f3, yZ_f4, yZ_f5⟩ := blf6 KZ
    go_wp2
    have hs := st6 w1 (w.heap.size + 1) 0 (.int .i64 tk) 1 (.slice p L.length cap) 2 (.int .i64 ve) 3 (.int .i64 vn) 4 (.int .i64 dr) 5 (.int .i64 rq)
    replace KI := oB hs KI (by omega)
    replace KZ := Lib.hid (blk_set (blk_set (blk_set (blk_set (blk_set (blk_set KZ.out (j := 0) (by simp) (.int .i64 tk)) (j := 1) (by simp) (.slice p L.length cap)) (j := 2) (by simp) (.int .i64 ve)) (j := 3) (by simp) (.int .i64 vn)) (j := 4) (by simp) (.int .i64 dr)) (j := 5) (by simp) (.int .i64 rq))
    replace HB := oH hs HB (by omega)
    clear hs
    clear yI_0 yI_1 yI_2 yI_3 yI_4 yI_5 yI_z yZ_0 yZ_1 yZ_2 yZ_3 yZ_4 yZ_5 yZ_z yZ_f0 yZ_f1 yZ_f2 yZ_f3 yZ_f4 yZ_f5
    generalize (((((w1.setCell ⟨(w.heap.size + 1), 0, none⟩ (.int .i64 tk)).setCell ⟨(w.heap.size + 1), 1, none⟩ (.slice p L.length cap)).setCell ⟨(w.heap.size + 1), 2, none⟩ (.int .i64 ve)).setCell ⟨(w.heap.size + 1), 3, none⟩ (.int .i64 vn)).setCell ⟨(w.heap.size + 1), 4, none⟩ (.int .i64 dr)).setCell ⟨(w.heap.size + 1), 5, none⟩ (.int .i64 rq) = w2 at *
    simp only [List.set] at KZ
    obtain ⟨yZ_0, yZ_1, yZ_2, yZ_3, yZ_4, yZ_5, yZ_z⟩ := blk6 KZ
    refine bodyPost_ret (v := .agg #[.int .i64 tk, .slice p L.length cap, .int .i64 ve, .int .i64 vn, .int .i64 dr, .int .i64 rq]) (by simp [results, Tryz.results16, go_sem, yZ_0, yZ_1, yZ_2, yZ_3, yZ_4, yZ_5]) rfl ⟨⟨_, rfl, HC.out⟩, HB.out⟩
set_option maxHeartbeats 40000000 in
set_option maxRecDepth 100000 in
def witF (b : Bx4) (n : Int) : Bool := bxV b && decide (b.x ≤ n) && decide (b.y ≤ n)
theorem wit_any (b : Bx4) (n : Int) (w : World) : Calls Tryz.prog 21 #[.agg #[.int .i64 b.cx, .int .i64 b.cy, .int .i64 b.x, .int .i64 b.y], .int .i64 n] w fun e w' => e = .returned (.bool (witF b n)) ∧ Below w.heap.size w w' := by
  have VI := Lib.hid fun w => ival_any b w
  have E : witF b n = (bxV b && decide (b.x ≤ n) && decide (b.y ≤ n)) := rfl
  generalize witF b n = q at *
  generalize bxV b = v at *
  obtain ⟨cx, cy, x, y⟩ := b
  simp only at VI E
  have g0 : ∃ z, decide (x ≤ n) = z := ⟨_, rfl⟩
  have g1 : ∃ z, decide (y ≤ n) = z := ⟨_, rfl⟩
  obtain ⟨a, g0⟩ := g0
  obtain ⟨c, g1⟩ := g1
  rw [g0, g1] at E
  cases v <;> cases a <;> cases c <;> simp at E <;> subst E
  all_goals
    obtain ⟨KB, HB⟩ := ent1 w #[.int .i64 cx, .int .i64 cy, .int .i64 x, .int .i64 y] 25
    go_enter Tryz.func21, Tryz.ntmps21
    obtain ⟨yB_0, yB_1, yB_2, yB_3, yB_z⟩ := blk4 KB
    go_wp2_with fail
    clear yB_0 yB_1 yB_2 yB_3 yB_z
    generalize w.alloc (.cells #[.int .i64 cx, .int .i64 cy, .int .i64 x, .int .i64 y] 25) = w0 at *
    refine (VI.out _).mono ?_
    rintro e1 w1 ⟨rfl, hb1⟩
    replace HB := hT HB hb1
    replace KB := hK KB hb1
    clear hb1
    obtain ⟨yB_0, yB_1, yB_2, yB_3, yB_z⟩ := blk4 KB
    go_wp2
    go_ret
    exact ⟨rfl, HB.out⟩
end Go.Proofs.YtajmjkliblippaaGreatDoor
