/-
  The walk of the law NavigatorTexts.
-/
import Derived.Test.YtajmjkliblippaaGreatDoorAwake46T
import Derived.Test.YtajmjkliblippaaGreatDoorRText46T
import Derived.Test.YtajmjkliblippaaGreatDoorParseW46T
namespace Go.Proofs.YtajmjkliblippaaGreatDoor.navigatorTexts
set_option linter.unusedVariables false
open Go.ChangeShapes Go.WideShapes Go.ChangeAt Go.RowKit Tx Ty

theorem textS_len (b : Bx4) (t m : Int) : (textS b t m).length ≤ 1000 := by
  unfold textS
  split
  · rename_i h
    obtain ⟨hv, ⟨t0, t1⟩, m0, m1⟩ := chkS_ok h
    have v := bxV_iff.1 hv
    exact Nat.le_trans (txN_len [b.cx, b.cy, b.x, b.y, t, m] (fun n hn => by simp only [List.mem_cons, List.not_mem_nil, or_false] at hn; omega) (by simp)) (by omega)
  · simp
set_option maxHeartbeats 40000000 in
set_option maxRecDepth 100000 in
theorem walk (cx cy x y t m : Int) (w : World) (hE : Env w) :
    Calls Tryz.prog 9 #[.agg #[.int .i64 cx, .int .i64 cy, .int .i64 x, .int .i64 y, .int .i64 t, .int .i64 m]] w fun e w' => e = .returned (.bool true) ∧ Below w.heap.size w w' := by
  have HE := Lib.hid hE
  have CK0 := fun w => ncheck_any ⟨cx, cy, x, y⟩ t m w
  have TX0 := fun w h => textS_any ⟨cx, cy, x, y⟩ t m w h
  obtain ⟨d, hd⟩ : ∃ d : ByteArray, (⟨(textS ⟨cx, cy, x, y⟩ t m).toArray⟩ : ByteArray) = d := ⟨_, rfl⟩
  have hdl : d.data.toList = textS ⟨cx, cy, x, y⟩ t m := by rw [← hd]
  have hsz : d.size ≤ 1000 := by
    have e : d.size = (textS ⟨cx, cy, x, y⟩ t m).length := by rw [← hdl, Array.length_toList]; rfl
    rw [e]
    exact textS_len _ _ _
  have PA0 := fun w h => parseS_any d w h hsz
  unfold RetS at PA0
  rw [hdl] at PA0
  have RX0 := fun w => rtextS_any ⟨cx, cy, x, y⟩ t m w
  rw [hd] at TX0 RX0
  have TX := Lib.hid TX0
  have RX := Lib.hid RX0
  by_cases h : chkS ⟨cx, cy, x, y⟩ t m = 0
  · rw [parse_textS h] at PA0
    rw [h] at CK0
    have PA := Lib.hid PA0
    have CK := Lib.hid CK0
    clear h hE hd hdl hsz TX0 RX0 PA0 CK0
    simp only at PA
    obtain ⟨KS, HB⟩ := ent1 w #[.int .i64 cx, .int .i64 cy, .int .i64 x, .int .i64 y, .int .i64 t, .int .i64 m] 27
    go_enter Tryz.func9, Tryz.ntmps9
    go_wp2_with fail
    generalize w.alloc (.cells #[.int .i64 cx, .int .i64 cy, .int .i64 x, .int .i64 y, .int .i64 t, .int .i64 m] 27) = w0 at *
    refine (awake_any _ (HE.out.below HB.out)).mono ?_
    rintro e1 w1 ⟨rfl, hb1⟩
    replace HB := hT HB hb1
    replace KS := hK KS hb1
    clear hb1
    obtain ⟨yS_0, yS_1, yS_2, yS_3, yS_4, yS_5, yS_z⟩ := blk6 KS
    go_wp2_with fail
    refine (TX.out _ (HE.out.below HB.out)).mono ?_
    rintro e2 w2 ⟨rfl, hb2⟩
    replace HB := hT HB hb2
    replace KS := hK KS hb2
    clear yS_0 yS_1 yS_2 yS_3 yS_4 yS_5 yS_z
    clear hb2
    go_wp2_with fail
    refine (PA.out _ (HE.out.below HB.out)).mono ?_
    rintro e3 w3 ⟨rfl, hb3⟩
    replace HB := hT HB hb3
    replace KS := hK KS hb3
    clear hb3
    go_upto_region 5 with (fail)
    obtain ⟨KT, hb4⟩ := alB w3 #[.int .i64 cx, .int .i64 cy, .int .i64 x, .int .i64 y, .int .i64 t, .int .i64 m] 27
    have hnT := HB.out.size
    have nzT_S := KS.out.lt
    replace HB := hT HB hb4
    replace KS := hK KS hb4
    clear hb4
    generalize w3.alloc (.cells #[.int .i64 cx, .int .i64 cy, .int .i64 x, .int .i64 y, .int .i64 t, .int .i64 m] 27) = w4 at *
    generalize w3.heap.size = bT at *
    have neT_S : bT ≠ w.heap.size := by omega
    clear nzT_S
    obtain ⟨yS_0, yS_1, yS_2, yS_3, yS_4, yS_5, yS_z⟩ := blk6 KS
    go_wp2_with fail
    refine (CK.out _).mono ?_
    rintro e5 w5 ⟨rfl, hb5⟩
    replace HB := hT HB hb5
    replace KS := hK KS hb5
    replace KT := hK KT hb5
    clear yS_0 yS_1 yS_2 yS_3 yS_4 yS_5 yS_z
    clear hb5
    obtain ⟨yS_0, yS_1, yS_2, yS_3, yS_4, yS_5, yS_z⟩ := blk6 KS
    go_wp2_with fail
    refine (RX.out _).mono ?_
    rintro e6 w6 ⟨rfl, hb6⟩
    replace HB := hT HB hb6
    replace KS := hK KS hb6
    replace KT := hK KT hb6
    clear yS_0 yS_1 yS_2 yS_3 yS_4 yS_5 yS_z
    clear hb6
    obtain ⟨yS_0, yS_1, yS_2, yS_3, yS_4, yS_5, yS_z⟩ := blk6 KS
    obtain ⟨yT_0, yT_1, yT_2, yT_3, yT_4, yT_5, yT_z⟩ := blk6 KT
    go_wp2
    go_ret
    exact ⟨rfl, HB.out⟩
  · have e0 : textS ⟨cx, cy, x, y⟩ t m = [] := by unfold textS; rw [if_neg h]
    rw [e0, parse_nilS] at PA0
    rw [e0] at hd
    subst hd
    have ge : (chkS ⟨cx, cy, x, y⟩ t m != 0) = true := by simpa using h
    have PA := Lib.hid PA0
    have CK := Lib.hid CK0
    clear h hE hdl hsz TX0 RX0 PA0 CK0 RX e0
    unfold ns0 at PA
    simp only at PA
    generalize chkS ⟨cx, cy, x, y⟩ t m = e at *
    obtain ⟨KS, HB⟩ := ent1 w #[.int .i64 cx, .int .i64 cy, .int .i64 x, .int .i64 y, .int .i64 t, .int .i64 m] 27
    go_enter Tryz.func9, Tryz.ntmps9
    go_wp2_with fail
    generalize w.alloc (.cells #[.int .i64 cx, .int .i64 cy, .int .i64 x, .int .i64 y, .int .i64 t, .int .i64 m] 27) = w0 at *
    refine (awake_any _ (HE.out.below HB.out)).mono ?_
    rintro e1 w1 ⟨rfl, hb1⟩
    replace HB := hT HB hb1
    replace KS := hK KS hb1
    clear hb1
    obtain ⟨yS_0, yS_1, yS_2, yS_3, yS_4, yS_5, yS_z⟩ := blk6 KS
    go_wp2_with fail
    refine (TX.out _ (HE.out.below HB.out)).mono ?_
    rintro e2 w2 ⟨rfl, hb2⟩
    replace HB := hT HB hb2
    replace KS := hK KS hb2
    clear yS_0 yS_1 yS_2 yS_3 yS_4 yS_5 yS_z
    clear hb2
    go_wp2_with fail
    refine (PA.out _ (HE.out.below HB.out)).mono ?_
    rintro e3 w3 ⟨rfl, hb3⟩
    replace HB := hT HB hb3
    replace KS := hK KS hb3
    clear hb3
    go_upto_region 5 with (fail)
    obtain ⟨KT, hb4⟩ := alB w3 #[.int .i64 0, .int .i64 0, .int .i64 0, .int .i64 0, .int .i64 0, .int .i64 0] 27
    have hnT := HB.out.size
    have nzT_S := KS.out.lt
    replace HB := hT HB hb4
    replace KS := hK KS hb4
    clear hb4
    generalize w3.alloc (.cells #[.int .i64 0, .int .i64 0, .int .i64 0, .int .i64 0, .int .i64 0, .int .i64 0] 27) = w4 at *
    generalize w3.heap.size = bT at *
    have neT_S : bT ≠ w.heap.size := by omega
    clear nzT_S
    obtain ⟨yS_0, yS_1, yS_2, yS_3, yS_4, yS_5, yS_z⟩ := blk6 KS
    go_wp2_with fail
    refine (CK.out _).mono ?_
    rintro e5 w5 ⟨rfl, hb5⟩
    replace HB := hT HB hb5
    replace KS := hK KS hb5
    replace KT := hK KT hb5
    clear yS_0 yS_1 yS_2 yS_3 yS_4 yS_5 yS_z
    clear hb5
    obtain ⟨yT_0, yT_1, yT_2, yT_3, yT_4, yT_5, yT_z⟩ := blk6 KT
    go_wp2
    go_ret
    exact ⟨rfl, HB.out⟩
end Go.Proofs.YtajmjkliblippaaGreatDoor.navigatorTexts
