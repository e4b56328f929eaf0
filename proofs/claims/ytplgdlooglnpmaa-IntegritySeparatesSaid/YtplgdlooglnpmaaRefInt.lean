/-
  The walk of the reference's Int of layer 2.
-/
import Derived.Test.YtplgdlooglnpmaaRefRnd
import Derived.Test.YtplgdlooglnpmaaLsqTwo
namespace Go.Proofs.Ytplgdlooglnpmaa
set_option linter.unusedVariables false
open Go.RowKit

set_option maxHeartbeats 4000000 in
set_option maxRecDepth 100000 in
theorem rnear_int {x : Int} (w : World) (hf : FitW x) : Calls Try.prog 71 #[wv x] w fun e w' => e = .returned (.tuple #[.int .i64 (if I64 x then x else 0), .bool (decide (I64 x))]) ∧ Below w.heap.size w w' := by
  obtain ⟨t, ht⟩ : ∃ t, IntKind.i64.wrap (loW x) = t := ⟨_, rfl⟩
  have tb : -9223372036854775808 ≤ t ∧ t ≤ 9223372036854775807 := by rw [← ht]; unfold loW; simp [IntKind.wrap, IntKind.bits, IntKind.signed]; omega
  have OF := Lib.hid fun w => rof_any t w tb.1 tb.2
  by_cases h : I64 x
  · have e : t = x := by obtain ⟨a, b⟩ := h; rw [← ht]; unfold loW; simp [IntKind.wrap, IntKind.bits, IntKind.signed]; omega
    rw [if_pos h, decide_eq_true h]
    rw [e] at OF ht
    unfold wv at *
    clear h hf tb e t
    have KX := Lib.hid (Blk.of (vs := #[.int .i64 (hiW x), .int .u64 (loW x)]) (t := 51) (w := w) (b := w.heap.size) (by simp))
    have HB := Lib.hid ((Below.refl w.heap.size w).alloc (by simp; try omega) (.cells #[.int .i64 (hiW x), .int .u64 (loW x)] 51))
    go_enter Try.func71, Try.ntmps71
    go_wp2_with fail
    generalize w.alloc (.cells #[.int .i64 (hiW x), .int .u64 (loW x)] 51) = w0 at *
    have gX_0 := fun d os => cell_regrown (KX.out.c 0 _ rfl) d os
    have gX_1 := fun d os => cell_regrown (KX.out.c 1 _ rfl) d os
    have rv0 := Lib.hid (fun d os => Calls.regrown_of (OF.out (Go.Sort.grow (redrawn w0 d) os)))
    refine wp_region_quiet_below (by kernel_rfl) (by kernel_rfl) ?_
    repeat (quiet_step (first | with_reducible exact rv0.out _ _))
    refine wpQuiet_nil ?_
    intro w1 hw1
    have hb1 : Below w0.heap.size w0 w1 := by
      obtain ⟨⟨dq, osq⟩, hw2⟩ := hw1
      rw [hw2]; exact below_regrown _ dq osq
    clear gX_0 gX_1 rv0 hw1
    replace HB := Lib.hid (HB.out.trans (hb1.mono HB.out.size))
    replace KX := Lib.hid (KX.out.below hb1)
    clear hb1
    have yX := KX.out
    have yX_0 := yX.c 0 _ rfl
    have yX_1 := yX.c 1 _ rfl
    have yX_z := yX.lt
    clear yX
    go_wp2
    go_ret2
    exact ⟨rfl, HB.out⟩
  · have g : (hiW t == hiW x) = false := by
      obtain ⟨f0, f1⟩ := hf
      have : x < -9223372036854775808 ∨ 9223372036854775807 < x := by
        rcases Int.lt_or_le x (-9223372036854775808) with a | a
        · exact .inl a
        · rcases Int.lt_or_le 9223372036854775807 x with b | b
          · exact .inr b
          · exact absurd ⟨a, b⟩ h
      have tt : (loW x < 9223372036854775808 ∧ t = loW x) ∨ (9223372036854775808 ≤ loW x ∧ t = loW x - 18446744073709551616) := by
        obtain ⟨l0, l1⟩ := lo_rng x
        rw [← ht]
        simp [IntKind.wrap, IntKind.bits, IntKind.signed]
        omega
      simp
      unfold hiW loW at *
      omega
    have g' : ¬ hiW t = hiW x := by simpa using g
    rw [if_neg h, decide_eq_false h]
    unfold wv at *
    clear h hf tb
    have KX := Lib.hid (Blk.of (vs := #[.int .i64 (hiW x), .int .u64 (loW x)]) (t := 51) (w := w) (b := w.heap.size) (by simp))
    have HB := Lib.hid ((Below.refl w.heap.size w).alloc (by simp; try omega) (.cells #[.int .i64 (hiW x), .int .u64 (loW x)] 51))
    go_enter Try.func71, Try.ntmps71
    go_wp2_with fail
    generalize w.alloc (.cells #[.int .i64 (hiW x), .int .u64 (loW x)] 51) = w0 at *
    have gX_0 := fun d os => cell_regrown (KX.out.c 0 _ rfl) d os
    have gX_1 := fun d os => cell_regrown (KX.out.c 1 _ rfl) d os
    have rv0 := Lib.hid (fun d os => Calls.regrown_of (OF.out (Go.Sort.grow (redrawn w0 d) os)))
    refine wp_region_quiet_below (by kernel_rfl) (by kernel_rfl) ?_
    repeat (quiet_step (first | with_reducible exact rv0.out _ _))
    refine wpQuiet_nil ?_
    intro w1 hw1
    have hb1 : Below w0.heap.size w0 w1 := by
      obtain ⟨⟨dq, osq⟩, hw2⟩ := hw1
      rw [hw2]; exact below_regrown _ dq osq
    clear gX_0 gX_1 rv0 hw1
    replace HB := Lib.hid (HB.out.trans (hb1.mono HB.out.size))
    replace KX := Lib.hid (KX.out.below hb1)
    clear hb1
    have yX := KX.out
    have yX_0 := yX.c 0 _ rfl
    have yX_1 := yX.c 1 _ rfl
    have yX_z := yX.lt
    clear yX
    go_wp2
    go_ret2
    exact ⟨rfl, HB.out⟩
end Go.Proofs.Ytplgdlooglnpmaa
