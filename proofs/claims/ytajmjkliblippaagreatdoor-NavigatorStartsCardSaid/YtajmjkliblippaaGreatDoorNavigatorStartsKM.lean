/-
  The walk of the law NavigatorStarts.
-/
import Derived.Test.YtajmjkliblippaaGreatDoorAwake46M
import Derived.Test.YtajmjkliblippaaGreatDoorRef46AM
namespace Go.Proofs.YtajmjkliblippaaGreatDoor.navigatorStarts
set_option linter.unusedVariables false
open Go.ChangeShapes Go.WideShapes Go.ChangeAt Go.RowKit

set_option maxHeartbeats 40000000 in
set_option maxRecDepth 100000 in
theorem walk (cx cy x y t m : Int) (w : World) (hE : Env w) :
    Calls Tryz.prog 3 #[.agg #[.int .i64 cx, .int .i64 cy, .int .i64 x, .int .i64 y, .int .i64 t, .int .i64 m]] w fun e w' => e = .returned (.bool true) ∧ Below w.heap.size w w' := by
  have HE := Lib.hid hE
  have CK := Lib.hid fun w => ncheck_any ⟨cx, cy, x, y⟩ t m w
  have RK := Lib.hid fun w => rcheck_any ⟨cx, cy, x, y⟩ t m w
  generalize chkS ⟨cx, cy, x, y⟩ t m = c at *
  by_cases h : chkS ⟨cx, cy, x, y⟩ t 0 = 0
  · have ST := Lib.hid fun w => start_good ⟨cx, cy, x, y⟩ t w h
    have RS := Lib.hid fun w => rstart_good ⟨cx, cy, x, y⟩ t w h
    clear h hE
    obtain ⟨KS, HB⟩ := ent1 w #[.int .i64 cx, .int .i64 cy, .int .i64 x, .int .i64 y, .int .i64 t, .int .i64 m] 27
    go_enter Tryz.func3, Tryz.ntmps3
    go_wp2_with fail
    generalize w.alloc (.cells #[.int .i64 cx, .int .i64 cy, .int .i64 x, .int .i64 y, .int .i64 t, .int .i64 m] 27) = w0 at *
    refine (awake_any _ (HE.out.below HB.out)).mono ?_
    rintro e1 w1 ⟨rfl, hb1⟩
    replace HB := hT HB hb1
    replace KS := hK KS hb1
    clear hb1
    obtain ⟨yS_0, yS_1, yS_2, yS_3, yS_4, yS_5, yS_z⟩ := blk6 KS
    go_wp2_with fail
    refine (ST.out _).mono ?_
    rintro e2 w2 ⟨rfl, hb2⟩
    replace HB := hT HB hb2
    replace KS := hK KS hb2
    clear yS_0 yS_1 yS_2 yS_3 yS_4 yS_5 yS_z
    clear hb2
    go_upto_region 4 with (fail)
    obtain ⟨KA, hb3⟩ := alB w2 #[.int .i64 cx, .int .i64 cy, .int .i64 x, .int .i64 y, .int .i64 t, .int .i64 0] 27
    have hnA := HB.out.size
    have nzA_S := KS.out.lt
    replace HB := hT HB hb3
    replace KS := hK KS hb3
    clear hb3
    generalize w2.alloc (.cells #[.int .i64 cx, .int .i64 cy, .int .i64 x, .int .i64 y, .int .i64 t, .int .i64 0] 27) = w3 at *
    generalize w2.heap.size = bA at *
    have neA_S : bA ≠ w.heap.size := by omega
    clear nzA_S
    obtain ⟨yS_0, yS_1, yS_2, yS_3, yS_4, yS_5, yS_z⟩ := blk6 KS
    go_wp2_with fail
    refine (RS.out _).mono ?_
    rintro e4 w4 ⟨rfl, hb4⟩
    replace HB := hT HB hb4
    replace KS := hK KS hb4
    replace KA := hK KA hb4
    clear yS_0 yS_1 yS_2 yS_3 yS_4 yS_5 yS_z
    clear hb4
    go_upto_region 5 with (fail)
    obtain ⟨KR, hb5⟩ := alB w4 #[.int .i64 cx, .int .i64 cy, .int .i64 x, .int .i64 y, .int .i64 t, .int .i64 0] 27
    have hnR := HB.out.size
    have nzR_S := KS.out.lt
    have nzR_A := KA.out.lt
    replace HB := hT HB hb5
    replace KS := hK KS hb5
    replace KA := hK KA hb5
    clear hb5
    generalize w4.alloc (.cells #[.int .i64 cx, .int .i64 cy, .int .i64 x, .int .i64 y, .int .i64 t, .int .i64 0] 27) = w5 at *
    generalize w4.heap.size = bR at *
    have neR_S : bR ≠ w.heap.size := by omega
    have neR_A : bR ≠ bA := by omega
    clear nzR_S nzR_A
    have gS_0 := fun d os => cell_regrown (KS.out.c 0 _ rfl) d os
    have gS_1 := fun d os => cell_regrown (KS.out.c 1 _ rfl) d os
    have gS_2 := fun d os => cell_regrown (KS.out.c 2 _ rfl) d os
    have gS_3 := fun d os => cell_regrown (KS.out.c 3 _ rfl) d os
    have gS_4 := fun d os => cell_regrown (KS.out.c 4 _ rfl) d os
    have gS_5 := fun d os => cell_regrown (KS.out.c 5 _ rfl) d os
    have gA_0 := fun d os => cell_regrown (KA.out.c 0 _ rfl) d os
    have gA_1 := fun d os => cell_regrown (KA.out.c 1 _ rfl) d os
    have gA_2 := fun d os => cell_regrown (KA.out.c 2 _ rfl) d os
    have gA_3 := fun d os => cell_regrown (KA.out.c 3 _ rfl) d os
    have gA_4 := fun d os => cell_regrown (KA.out.c 4 _ rfl) d os
    have gA_5 := fun d os => cell_regrown (KA.out.c 5 _ rfl) d os
    have gR_0 := fun d os => cell_regrown (KR.out.c 0 _ rfl) d os
    have gR_1 := fun d os => cell_regrown (KR.out.c 1 _ rfl) d os
    have gR_2 := fun d os => cell_regrown (KR.out.c 2 _ rfl) d os
    have gR_3 := fun d os => cell_regrown (KR.out.c 3 _ rfl) d os
    have gR_4 := fun d os => cell_regrown (KR.out.c 4 _ rfl) d os
    have gR_5 := fun d os => cell_regrown (KR.out.c 5 _ rfl) d os
    have rv0 := Lib.hid (fun d os => Calls.regrown_of (CK.out (Go.Sort.grow (redrawn w5 d) os)))
    have rv1 := Lib.hid (fun d os => Calls.regrown_of (RK.out (Go.Sort.grow (redrawn w5 d) os)))
    refine wp_region_quiet_below (by kernel_rfl) (by kernel_rfl) ?_
    generalize hact : Act.mk _ _ = act
    repeat (refine wpQuiet_step (fun K hK => ?_); subst hact; go_simp; (first | (generalize hact : Act.mk _ _ = act; refine hK act ?_; clear hK K) | (apply Exists.intro; refine ⟨fun _ => ?_, ?_⟩; (with_reducible exact rv0.out _ _); generalize hact : Act.mk _ _ = act; refine hK act ?_; clear hK K) | (apply Exists.intro; refine ⟨fun _ => ?_, ?_⟩; (with_reducible exact rv1.out _ _); generalize hact : Act.mk _ _ = act; refine hK act ?_; clear hK K) | (rw [if_neg (by decide)]; go_simp; generalize hact : Act.mk _ _ = act; refine hK act ?_; clear hK K)))
    refine wpQuiet_nil ?_
    subst hact
    intro w6 hw6
    have hb6 : Below w5.heap.size w5 w6 := by
      obtain ⟨⟨dq, osq⟩, hw2⟩ := hw6
      rw [hw2]; exact below_regrown _ dq osq
    clear hw6 gS_0 gS_1 gS_2 gS_3 gS_4 gS_5 gA_0 gA_1 gA_2 gA_3 gA_4 gA_5 gR_0 gR_1 gR_2 gR_3 gR_4 gR_5 rv0 rv1
    replace HB := hT HB hb6
    replace KS := hK KS hb6
    replace KA := hK KA hb6
    replace KR := hK KR hb6
    clear hb6
    go_wp2
    go_ret
    exact ⟨rfl, HB.out⟩
  · have ST := Lib.hid fun w => start_bad ⟨cx, cy, x, y⟩ t w h
    have RS := Lib.hid fun w => rstart_bad ⟨cx, cy, x, y⟩ t w h
    clear h hE
    generalize chkS ⟨cx, cy, x, y⟩ t 0 = e at *
    obtain ⟨KS, HB⟩ := ent1 w #[.int .i64 cx, .int .i64 cy, .int .i64 x, .int .i64 y, .int .i64 t, .int .i64 m] 27
    go_enter Tryz.func3, Tryz.ntmps3
    go_wp2_with fail
    generalize w.alloc (.cells #[.int .i64 cx, .int .i64 cy, .int .i64 x, .int .i64 y, .int .i64 t, .int .i64 m] 27) = w0 at *
    refine (awake_any _ (HE.out.below HB.out)).mono ?_
    rintro e1 w1 ⟨rfl, hb1⟩
    replace HB := hT HB hb1
    replace KS := hK KS hb1
    clear hb1
    obtain ⟨yS_0, yS_1, yS_2, yS_3, yS_4, yS_5, yS_z⟩ := blk6 KS
    go_wp2_with fail
    refine (ST.out _).mono ?_
    rintro e2 w2 ⟨rfl, hb2⟩
    replace HB := hT HB hb2
    replace KS := hK KS hb2
    clear yS_0 yS_1 yS_2 yS_3 yS_4 yS_5 yS_z
    clear hb2
    go_upto_region 4 with (fail)
    obtain ⟨KA, hb3⟩ := alB w2 #[.int .i64 0, .int .i64 0, .int .i64 0, .int .i64 0, .int .i64 0, .int .i64 0] 27
    have hnA := HB.out.size
    have nzA_S := KS.out.lt
    replace HB := hT HB hb3
    replace KS := hK KS hb3
    clear hb3
    generalize w2.alloc (.cells #[.int .i64 0, .int .i64 0, .int .i64 0, .int .i64 0, .int .i64 0, .int .i64 0] 27) = w3 at *
    generalize w2.heap.size = bA at *
    have neA_S : bA ≠ w.heap.size := by omega
    clear nzA_S
    obtain ⟨yS_0, yS_1, yS_2, yS_3, yS_4, yS_5, yS_z⟩ := blk6 KS
    go_wp2_with fail
    refine (RS.out _).mono ?_
    rintro e4 w4 ⟨rfl, hb4⟩
    replace HB := hT HB hb4
    replace KS := hK KS hb4
    replace KA := hK KA hb4
    clear yS_0 yS_1 yS_2 yS_3 yS_4 yS_5 yS_z
    clear hb4
    go_upto_region 5 with (fail)
    obtain ⟨KR, hb5⟩ := alB w4 #[.int .i64 0, .int .i64 0, .int .i64 0, .int .i64 0, .int .i64 0, .int .i64 0] 27
    have hnR := HB.out.size
    have nzR_S := KS.out.lt
    have nzR_A := KA.out.lt
    replace HB := hT HB hb5
    replace KS := hK KS hb5
    replace KA := hK KA hb5
    clear hb5
    generalize w4.alloc (.cells #[.int .i64 0, .int .i64 0, .int .i64 0, .int .i64 0, .int .i64 0, .int .i64 0] 27) = w5 at *
    generalize w4.heap.size = bR at *
    have neR_S : bR ≠ w.heap.size := by omega
    have neR_A : bR ≠ bA := by omega
    clear nzR_S nzR_A
    have gS_0 := fun d os => cell_regrown (KS.out.c 0 _ rfl) d os
    have gS_1 := fun d os => cell_regrown (KS.out.c 1 _ rfl) d os
    have gS_2 := fun d os => cell_regrown (KS.out.c 2 _ rfl) d os
    have gS_3 := fun d os => cell_regrown (KS.out.c 3 _ rfl) d os
    have gS_4 := fun d os => cell_regrown (KS.out.c 4 _ rfl) d os
    have gS_5 := fun d os => cell_regrown (KS.out.c 5 _ rfl) d os
    have gA_0 := fun d os => cell_regrown (KA.out.c 0 _ rfl) d os
    have gA_1 := fun d os => cell_regrown (KA.out.c 1 _ rfl) d os
    have gA_2 := fun d os => cell_regrown (KA.out.c 2 _ rfl) d os
    have gA_3 := fun d os => cell_regrown (KA.out.c 3 _ rfl) d os
    have gA_4 := fun d os => cell_regrown (KA.out.c 4 _ rfl) d os
    have gA_5 := fun d os => cell_regrown (KA.out.c 5 _ rfl) d os
    have gR_0 := fun d os => cell_regrown (KR.out.c 0 _ rfl) d os
    have gR_1 := fun d os => cell_regrown (KR.out.c 1 _ rfl) d os
    have gR_2 := fun d os => cell_regrown (KR.out.c 2 _ rfl) d os
    have gR_3 := fun d os => cell_regrown (KR.out.c 3 _ rfl) d os
    have gR_4 := fun d os => cell_regrown (KR.out.c 4 _ rfl) d os
    have gR_5 := fun d os => cell_regrown (KR.out.c 5 _ rfl) d os
    have rv0 := Lib.hid (fun d os => Calls.regrown_of (CK.out (Go.Sort.grow (redrawn w5 d) os)))
    have rv1 := Lib.hid (fun d os => Calls.regrown_of (RK.out (Go.Sort.grow (redrawn w5 d) os)))
    refine wp_region_quiet_below (by kernel_rfl) (by kernel_rfl) ?_
    generalize hact : Act.mk _ _ = act
    repeat (refine wpQuiet_step (fun K hK => ?_); subst hact; go_simp; (first | (generalize hact : Act.mk _ _ = act; refine hK act ?_; clear hK K) | (apply Exists.intro; refine ⟨fun _ => ?_, ?_⟩; (with_reducible exact rv0.out _ _); generalize hact : Act.mk _ _ = act; refine hK act ?_; clear hK K) | (apply Exists.intro; refine ⟨fun _ => ?_, ?_⟩; (with_reducible exact rv1.out _ _); generalize hact : Act.mk _ _ = act; refine hK act ?_; clear hK K) | (rw [if_neg (by decide)]; go_simp; generalize hact : Act.mk _ _ = act; refine hK act ?_; clear hK K)))
    refine wpQuiet_nil ?_
    subst hact
    intro w6 hw6
    have hb6 : Below w5.heap.size w5 w6 := by
      obtain ⟨⟨dq, osq⟩, hw2⟩ := hw6
      rw [hw2]; exact below_regrown _ dq osq
    clear hw6 gS_0 gS_1 gS_2 gS_3 gS_4 gS_5 gA_0 gA_1 gA_2 gA_3 gA_4 gA_5 gR_0 gR_1 gR_2 gR_3 gR_4 gR_5 rv0 rv1
    replace HB := hT HB hb6
    replace KS := hK KS hb6
    replace KA := hK KA hb6
    replace KR := hK KR hb6
    clear hb6
    go_wp2
    go_ret
    exact ⟨rfl, HB.out⟩
end Go.Proofs.YtajmjkliblippaaGreatDoor.navigatorStarts
