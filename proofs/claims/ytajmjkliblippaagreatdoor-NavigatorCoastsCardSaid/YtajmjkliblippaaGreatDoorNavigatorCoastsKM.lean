/-
  The walk of the law NavigatorCoasts.
-/
import Derived.Test.YtajmjkliblippaaGreatDoorAwake46M
import Derived.Test.YtajmjkliblippaaGreatDoorSafe46M
namespace Go.Proofs.YtajmjkliblippaaGreatDoor.navigatorCoasts
set_option linter.unusedVariables false
open Go.ChangeShapes Go.WideShapes Go.ChangeAt Go.RowKit

set_option maxHeartbeats 40000000 in
set_option maxRecDepth 100000 in
theorem walk (cx cy x y t m tk : Int) (rv : Value) (ve vn dr rq : Int) (L : List Rp) (w : World) (hE : Env w) (h : RlG L rv w) (hK : ∀ i, i < L.length → 0 ≤ (nthR L i).k ∧ (nthR L i).k ≤ 255) :
    Calls Tryz.prog 5 #[.agg #[.int .i64 cx, .int .i64 cy, .int .i64 x, .int .i64 y, .int .i64 t, .int .i64 m], .agg #[.int .i64 tk, rv, .int .i64 ve, .int .i64 vn, .int .i64 dr, .int .i64 rq]] w fun e w' => e = .returned (.bool true) ∧ Below w.heap.size w w' := by
  have HE := Lib.hid hE
  clear hE h hK
  obtain ⟨KS, KI, HB⟩ := ent2 w #[.int .i64 cx, .int .i64 cy, .int .i64 x, .int .i64 y, .int .i64 t, .int .i64 m] 27 #[.int .i64 tk, rv, .int .i64 ve, .int .i64 vn, .int .i64 dr, .int .i64 rq] 38
  go_enter Tryz.func5, Tryz.ntmps5
  go_wp2_with fail
  generalize (w.alloc (.cells #[.int .i64 cx, .int .i64 cy, .int .i64 x, .int .i64 y, .int .i64 t, .int .i64 m] 27)).alloc (.cells #[.int .i64 tk, rv, .int .i64 ve, .int .i64 vn, .int .i64 dr, .int .i64 rq] 38) = w0 at *
  refine (awake_any _ (HE.out.below HB.out)).mono ?_
  rintro e1 w1 ⟨rfl, hb1⟩
  replace HB := hT HB hb1
  replace KS := hK KS hb1
  replace KI := hK KI hb1
  clear hb1
  go_upto_region 3 with (fail)
  obtain ⟨yI_0, yI_1, yI_2, yI_3, yI_4, yI_5, yI_z, yI_f0, yI_f1, yI_f2, yI_f3, yI_f4, yI_f5⟩ := blf6 KI
  go_upto_region 4 with (fail)
  have hs := st1 w1 (w.heap.size + 1) 1 (.slice none 0 0)
  replace KS := oB hs KS (by omega)
  replace KI := Lib.hid (blk_set KI.out (j := 1) (by simp) (.slice none 0 0))
  replace HB := oH hs HB (by omega)
  clear hs
  clear yI_0 yI_1 yI_2 yI_3 yI_4 yI_5 yI_z yI_f0 yI_f1 yI_f2 yI_f3 yI_f4 yI_f5
  generalize w1.setCell ⟨(w.heap.size + 1), 1, none⟩ (.slice none 0 0) = w2 at *
  simp only [List.set] at KI
  obtain ⟨yS_0, yS_1, yS_2, yS_3, yS_4, yS_5, yS_z⟩ := blk6 KS
  obtain ⟨yI_0, yI_1, yI_2, yI_3, yI_4, yI_5, yI_z⟩ := blk6 KI
  by_cases he : stpE2 ⟨cx, cy, x, y⟩ t m tk ve vn dr rq 0 = 0
  · obtain ⟨⟨t0, t1, t2⟩, ⟨m0, m1⟩, _, _, _, hcst, _⟩ := stp_facts (L := []) he
    have SG := fun w => step_okR ⟨cx, cy, x, y⟩ t m tk ve vn dr rq [] (.slice none 0 0) w (rg_nil w) (fun i hi => absurd hi (by simp)) he
    rw [stp_nil] at SG
    have CO := Lib.hid fun w => coast_any ⟨cx, cy, x, y⟩ ve vn dr (tk - t) w
    rw [hcst] at CO
    clear hcst he
    have sw : IntKind.i64.wrap (tk - t) = tk - t := IntWalk.i64_in _ (by omega)
    have sm : IntKind.i64.wrap (m + 1) = m + 1 := IntWalk.i64_in _ (by omega)
    generalize movB ⟨cx, cy, x, y⟩ ve vn dr (tk - t) = nb at *
    obtain ⟨nx, ny, n1, n2⟩ := nb
    simp only at SG CO
    generalize useB n1 n2 rq = us at *
    obtain ⟨mm, hmm⟩ : ∃ z, min (m + 1) 1000 = z := ⟨_, rfl⟩
    rw [hmm] at SG
    have SG := Lib.hid SG
    go_wp2_with fail
    refine (SG.out _).mono ?_
    rintro e3 w3 ⟨rfl, hb3⟩
    replace HB := hT HB hb3
    replace KS := hK KS hb3
    replace KI := hK KI hb3
    clear yS_0 yS_1 yS_2 yS_3 yS_4 yS_5 yS_z yI_0 yI_1 yI_2 yI_3 yI_4 yI_5 yI_z
    clear hb3
    clear SG
    go_upto_region 5 with (fail)
    have KN := Lib.hid ((Blk.of (vs := #[.int .i64 nx, .int .i64 ny, .int .i64 n1, .int .i64 n2, .int .i64 tk, .int .i64 mm]) (t := 27) (w := w3) (b := w3.heap.size) rfl).alloc (.cells #[.int .i64 nx, .int .i64 ny, .int .i64 n1, .int .i64 n2, .bool us, .int .i64 0] 41))
    have KE := Lib.hid (Blk.of (vs := #[.int .i64 nx, .int .i64 ny, .int .i64 n1, .int .i64 n2, .bool us, .int .i64 0]) (t := 41) (w := w3.alloc (.cells #[.int .i64 nx, .int .i64 ny, .int .i64 n1, .int .i64 n2, .int .i64 tk, .int .i64 mm] 27)) (b := w3.heap.size + 1) (by simp))
    have hb4 : Below w3.heap.size w3 ((w3.alloc (.cells #[.int .i64 nx, .int .i64 ny, .int .i64 n1, .int .i64 n2, .int .i64 tk, .int .i64 mm] 27)).alloc (.cells #[.int .i64 nx, .int .i64 ny, .int .i64 n1, .int .i64 n2, .bool us, .int .i64 0] 41)) := ((Below.refl _ _).alloc (Nat.le_refl _) _).alloc (by simp) _
    have hnN := HB.out.size
    have nzN_S := KS.out.lt
    have nzN_I := KI.out.lt
    replace HB := hT HB hb4
    replace KS := hK KS hb4
    replace KI := hK KI hb4
    clear hb4
    generalize (w3.alloc (.cells #[.int .i64 nx, .int .i64 ny, .int .i64 n1, .int .i64 n2, .int .i64 tk, .int .i64 mm] 27)).alloc (.cells #[.int .i64 nx, .int .i64 ny, .int .i64 n1, .int .i64 n2, .bool us, .int .i64 0] 41) = w4 at *
    generalize w3.heap.size = bN at *
    have neN_S : bN ≠ w.heap.size := by omega
    have neE_S : bN + 1 ≠ w.heap.size := by omega
    have neN_I : bN ≠ (w.heap.size + 1) := by omega
    have neE_I : bN + 1 ≠ (w.heap.size + 1) := by omega
    clear nzN_S nzN_I
    obtain ⟨yS_0, yS_1, yS_2, yS_3, yS_4, yS_5, yS_z⟩ := blk6 KS
    obtain ⟨yI_0, yI_1, yI_2, yI_3, yI_4, yI_5, yI_z⟩ := blk6 KI
    go_wp2_with fail
    refine (CO.out _).mono ?_
    rintro e5 w5 ⟨rfl, hb5⟩
    replace HB := hT HB hb5
    replace KS := hK KS hb5
    replace KI := hK KI hb5
    replace KN := hK KN hb5
    replace KE := hK KE hb5
    clear yS_0 yS_1 yS_2 yS_3 yS_4 yS_5 yS_z yI_0 yI_1 yI_2 yI_3 yI_4 yI_5 yI_z
    clear hb5
    clear CO
    go_upto_region 8 with (fail)
    obtain ⟨KD, hb6⟩ := alB w5 #[.int .i64 nx, .int .i64 ny, .int .i64 n1, .int .i64 n2] 25
    have hnD := HB.out.size
    have nzD_S := KS.out.lt
    have nzD_I := KI.out.lt
    have nzD_N := KN.out.lt
    have nzD_E := KE.out.lt
    replace HB := hT HB hb6
    replace KS := hK KS hb6
    replace KI := hK KI hb6
    replace KN := hK KN hb6
    replace KE := hK KE hb6
    clear hb6
    generalize w5.alloc (.cells #[.int .i64 nx, .int .i64 ny, .int .i64 n1, .int .i64 n2] 25) = w6 at *
    generalize w5.heap.size = bD at *
    have neD_S : bD ≠ w.heap.size := by omega
    have neD_I : bD ≠ (w.heap.size + 1) := by omega
    have neD_N : bD ≠ bN := by omega
    have neD_E : bD ≠ (bN + 1) := by omega
    clear nzD_S nzD_I nzD_N nzD_E
    obtain ⟨yS_0, yS_1, yS_2, yS_3, yS_4, yS_5, yS_z⟩ := blk6 KS
    obtain ⟨yI_0, yI_1, yI_2, yI_3, yI_4, yI_5, yI_z⟩ := blk6 KI
    obtain ⟨yN_0, yN_1, yN_2, yN_3, yN_4, yN_5, yN_z⟩ := blk6 KN
    obtain ⟨yE_0, yE_1, yE_2, yE_3, yE_4, yE_5, yE_z⟩ := blk6 KE
    obtain ⟨yD_0, yD_1, yD_2, yD_3, yD_z⟩ := blk4 KD
    go_wp2
    go_ret
    exact ⟨rfl, HB.out⟩
  · have SB := Lib.hid fun w => step_badR ⟨cx, cy, x, y⟩ t m tk ve vn dr rq [] (.slice none 0 0) w (rg_nil w) (by simp) he
    have ge : (stpE2 ⟨cx, cy, x, y⟩ t m tk ve vn dr rq 0 != 0) = true := by simpa using he
    simp only [List.length_nil] at SB
    clear he
    generalize stpE2 ⟨cx, cy, x, y⟩ t m tk ve vn dr rq 0 = e at *
    go_wp2_with fail
    refine (SB.out _).mono ?_
    rintro e3 w3 ⟨rfl, hb3⟩
    replace HB := hT HB hb3
    replace KS := hK KS hb3
    replace KI := hK KI hb3
    clear yS_0 yS_1 yS_2 yS_3 yS_4 yS_5 yS_z yI_0 yI_1 yI_2 yI_3 yI_4 yI_5 yI_z
    clear hb3
    go_wp2
    go_ret
    exact ⟨rfl, (HB.out.alloc HB.out.size _).alloc (by have := HB.out.size; simp; omega) _⟩
end Go.Proofs.YtajmjkliblippaaGreatDoor.navigatorCoasts
