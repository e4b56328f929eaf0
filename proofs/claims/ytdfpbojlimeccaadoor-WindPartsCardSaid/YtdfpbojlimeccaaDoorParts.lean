/-
  The law WindParts holds for every input: which winds are valid, their components, and winds by direction and speed are the specified ones. No condition.
-/
import Derived.Test.YtdfpbojlimeccaaDoorFrame
import Derived.Test.YtdfpbojlimeccaaDoorAwake
import Derived.Test.YtdfpbojlimeccaaDoorWindOf
import Derived.Lib.QuietBelow
namespace Go.Proofs.YtdfpbojlimeccaaDoor.windParts
set_option linter.unusedVariables false
open Go.ChangeShapes Go.WideShapes Go.ChangeAt Go.RowKit Tr Sq

set_option maxHeartbeats 4000000 in
set_option maxRecDepth 100000 in
theorem walk (c x n s : Int) (c0 : -9223372036854775808 ≤ c) (c1 : c ≤ 9223372036854775807) (x0 : -9223372036854775808 ≤ x) (x1 : x ≤ 9223372036854775807) (n0 : -9223372036854775808 ≤ n) (n1 : n ≤ 9223372036854775807) (s0 : -9223372036854775808 ≤ s) (s1 : s ≤ 9223372036854775807) (w : World) (hE : Env w) :
    Calls Tryd.prog 10 #[.int .i64 c, .agg #[.int .i64 x, .int .i64 n], .int .i64 s] w fun e w' => e = .returned (.bool true) ∧ Below w.heap.size w w' := by
  have HE := Lib.hid hE
  have A1 := Lib.hid (fun w => valid_any x n w)
  have A2 := Lib.hid (fun w => valid_ref x n w)
  have B1 := Lib.hid (fun w => parts_any c x n w c0 c1)
  have B2 := Lib.hid (fun w => parts_ref c x n w c0 c1)
  have C1 := Lib.hid (fun w => of_any c s w c0 c1)
  have C2 := Lib.hid (fun w => of_ref c s w c0 c1)
  have D1 := Lib.hid (fun w => from_any x n w)
  have D2 := Lib.hid (fun w => from_ref x n w)
  clear hE
  generalize vldW x n = v at *
  generalize partsF c x n = g at *
  generalize ofF c s = h at *
  generalize fromF x n = k at *
  obtain ⟨ga, gb, gc⟩ := g
  obtain ⟨ha, hb, hc⟩ := h
  obtain ⟨ka, kb, kc⟩ := k
  cases v
  all_goals
    go_enter Tryd.func10, Tryd.ntmps10
    go_wp2_with fail
    have p0 : (w.alloc (.cells #[.int .i64 x, .int .i64 n] 23)).cell? ⟨w.heap.size, 0, none⟩ = some (.int .i64 x) := by rw [World.cell?_alloc_at _ _ _ _ (by simp)]; rfl
    have p1 : (w.alloc (.cells #[.int .i64 x, .int .i64 n] 23)).cell? ⟨w.heap.size, 1, none⟩ = some (.int .i64 n) := by rw [World.cell?_alloc_at _ _ _ _ (by simp)]; rfl
    have hz : w.heap.size < (w.alloc (.cells #[.int .i64 x, .int .i64 n] 23)).heap.size := by simp
    have hw := Lib.hid ((Below.refl w.heap.size w).alloc (Nat.le_refl _) (.cells #[.int .i64 x, .int .i64 n] 23))
    generalize hW1 : w.alloc (.cells #[.int .i64 x, .int .i64 n] 23) = W1 at *
    clear hW1
    have g0 := fun d os => cell_regrown p0 d os
    have g1 := fun d os => cell_regrown p1 d os
    have k0 := Lib.hid (fun d os => Calls.regrown_of (awake_any (Go.Sort.grow (redrawn W1 d) os) ((HE.out.below hw.out).below (below_regrown W1 d os))))
    have k1 := Lib.hid (fun d os => Calls.regrown_of (A1.out (Go.Sort.grow (redrawn W1 d) os)))
    have k2 := Lib.hid (fun d os => Calls.regrown_of (A2.out (Go.Sort.grow (redrawn W1 d) os)))
    refine wp_region_quiet_below (by kernel_rfl) (by kernel_rfl) ?_
    repeat (quiet_step (first | with_reducible exact k0.out _ _ | with_reducible exact k1.out _ _ | with_reducible exact k2.out _ _))
    refine wpQuiet_nil ?_
    intro w2 hw'
    have hb2 : Below W1.heap.size W1 w2 := by
      obtain ⟨⟨dq, osq⟩, hw''⟩ := hw'
      rw [hw'']; exact below_regrown W1 dq osq
    clear k0 k1 k2 g0 g1 hw'
    have q0 := (hb2.cell (p := ⟨w.heap.size, 0, none⟩) hz).trans p0
    have q1 := (hb2.cell (p := ⟨w.heap.size, 1, none⟩) hz).trans p1
    have hz2 : w.heap.size < w2.heap.size := Nat.lt_of_lt_of_le hz hb2.size
    have hw2 := Lib.hid (hw.out.trans (hb2.mono hw.out.size))
    clear hb2 p0 p1 hz hw
    
    go_wp2_with fail
    refine (B1.out _).mono ?_
    rintro e w3 ⟨rfl, hb3⟩
    have r0 := (hb3.cell (p := ⟨w.heap.size, 0, none⟩) hz2).trans q0
    have r1 := (hb3.cell (p := ⟨w.heap.size, 1, none⟩) hz2).trans q1
    have hz3 : w.heap.size < w3.heap.size := Nat.lt_of_lt_of_le hz2 hb3.size
    have hw3 := Lib.hid (hw2.out.trans (hb3.mono hw2.out.size))
    clear hb3 q0 q1 hz2 hw2
    go_wp2_with fail
    refine (B2.out _).mono ?_
    rintro e w4 ⟨rfl, hb4⟩
    have q0 := (hb4.cell (p := ⟨w.heap.size, 0, none⟩) hz3).trans r0
    have q1 := (hb4.cell (p := ⟨w.heap.size, 1, none⟩) hz3).trans r1
    have hz4 : w.heap.size < w4.heap.size := Nat.lt_of_lt_of_le hz3 hb4.size
    have hw4 := Lib.hid (hw3.out.trans (hb4.mono hw3.out.size))
    clear hb4 r0 r1 hz3 hw3
    go_wp2_with fail
    refine (C1.out _).mono ?_
    rintro e w5 ⟨rfl, hb5⟩
    have r0 := (hb5.cell (p := ⟨w.heap.size, 0, none⟩) hz4).trans q0
    have r1 := (hb5.cell (p := ⟨w.heap.size, 1, none⟩) hz4).trans q1
    have hz5 : w.heap.size < w5.heap.size := Nat.lt_of_lt_of_le hz4 hb5.size
    have hw5 := Lib.hid (hw4.out.trans (hb5.mono hw4.out.size))
    clear hb5 q0 q1 hz4 hw4
    go_wp2_with fail
    refine (C2.out _).mono ?_
    rintro e w6 ⟨rfl, hb6⟩
    have v0 := (hb6.cell (p := ⟨w5.heap.size, 0, none⟩) (by simp)).trans (show _ = some (Value.int .i64 ha) by rw [World.cell?_alloc_at _ _ _ _ (by simp)]; rfl)
    have v1 := (hb6.cell (p := ⟨w5.heap.size, 1, none⟩) (by simp)).trans (show _ = some (Value.int .i64 hb) by rw [World.cell?_alloc_at _ _ _ _ (by simp)]; rfl)
    have hzv : w5.heap.size < w6.heap.size := by have := hb6.size; simp at this; omega
    have hb5 : Below w5.heap.size w5 w6 := ((Below.refl _ _).alloc (Nat.le_refl _) _).trans (hb6.mono (by simp))
    clear hb6
    have hb6 := hb5
    clear hb5
    have q0 := (hb6.cell (p := ⟨w.heap.size, 0, none⟩) hz5).trans r0
    have q1 := (hb6.cell (p := ⟨w.heap.size, 1, none⟩) hz5).trans r1
    have hz6 : w.heap.size < w6.heap.size := Nat.lt_of_lt_of_le hz5 hb6.size
    have hw6 := Lib.hid (hw5.out.trans (hb6.mono hw5.out.size))
    clear hb6 r0 r1 hz5 hw5
    go_wp2_with fail
    refine (D1.out _).mono ?_
    rintro e w7 ⟨rfl, hb7⟩
    have hb6 : Below w6.heap.size w6 w7 := ((Below.refl _ _).alloc (Nat.le_refl _) _).trans (hb7.mono (by simp))
    clear hb7
    have hb7 := hb6
    clear hb6
    have r0 := (hb7.cell (p := ⟨w.heap.size, 0, none⟩) hz6).trans q0
    have r1 := (hb7.cell (p := ⟨w.heap.size, 1, none⟩) hz6).trans q1
    have hz7 : w.heap.size < w7.heap.size := Nat.lt_of_lt_of_le hz6 hb7.size
    have hw7 := Lib.hid (hw6.out.trans (hb7.mono hw6.out.size))
    clear hb7 q0 q1 hz6 hw6
    go_wp2_with fail
    refine (D2.out _).mono ?_
    rintro e w8 ⟨rfl, hb8⟩
    have q0 := (hb8.cell (p := ⟨w.heap.size, 0, none⟩) hz7).trans r0
    have q1 := (hb8.cell (p := ⟨w.heap.size, 1, none⟩) hz7).trans r1
    have hz8 : w.heap.size < w8.heap.size := Nat.lt_of_lt_of_le hz7 hb8.size
    have hw8 := Lib.hid (hw7.out.trans (hb8.mono hw7.out.size))
    clear hb8 r0 r1 hz7 hw7
    go_wp2
    go_ret
    exact ⟨rfl, hw8.out⟩
/-! ### the row's step -/
theorem contract (H : Type) (enc : TypeId × Value → H) (W : World) (base : Nat) (args : Array Value) (ds gs : List (DataW H)) (before : List MemPlace)
    (hval : ∀ (j : Nat) t v, Tryd.f10.params[j]? = some t → args[j]? = some v → Value.okWide Tryd.prog W .any base t v)
    (hW : DataW.Whole enc Tryd.prog Tryd.f10.params.toList Rows.windPartsSpec.vars false W args.toList ds gs before) (hL : laidMetH Tryd.prog Rows.windPartsRow.laid W) (hsh : W.ShapedOpen Tryd.prog) :
    Calls Tryd.prog 10 args W fun e W' => ∃ v, e = .returned v ∧ Rows.windPartsSpec.post enc Tryd.prog Tryd.f10 false true false false W args v W' := by
  have hW' := hW
  obtain ⟨p, q, hA0, hV, rfl, hfz, hnd⟩ := hW
  have hA : DataW.TrodAll enc Tryd.prog W 0 (fun _ => true) true Tryd.f10.params.toList args.toList ds p := hA0
  rw [Tryd.params10] at hA hval
  obtain ⟨v0, vs0, d0, ds0, p0, q0, hargs, rfl, rfl, h0, r0⟩ := trodAll_cons hA
  obtain ⟨v1, vs1, d1, ds1, p1, q1, rfl, rfl, rfl, h1, r1⟩ := trodAll_cons r0
  obtain ⟨v2, vs2, d2, ds2, p2, q2, rfl, rfl, rfl, h2, r2⟩ := trodAll_cons r1
  obtain ⟨rfl, rfl, rfl⟩ := trodAll_nil r2
  obtain rfl : args = #[v0, v1, v2] := by cases args; simp_all
  obtain ⟨rfl, rfl⟩ := trodVars_none hV
  obtain ⟨a0, rfl, rfl, rfl, w0⟩ := open_int Tryd.underlying2 (hval 0 2 v0 rfl rfl) h0
  obtain ⟨x1_0, x1_1, rfl, rfl, rfl, w1_0, w1_1⟩ := open_wind (hval 1 23 v1 rfl rfl) h1
  obtain ⟨a2, rfl, rfl, rfl, w2⟩ := open_int Tryd.underlying2 (hval 2 2 v2 rfl rfl) h2
  clear hA0
  simp only [List.append_nil] at hW'
  refine (walk a0 x1_0 x1_1 a2 (bd64 w0).1 (bd64 w0).2 (bd64 w1_0).1 (bd64 w1_0).2 (bd64 w1_1).1 (bd64 w1_1).2 (bd64 w2).1 (bd64 w2).2 W (env_of hL hsh)).mono fun e W' ⟨he, hb⟩ => ?_
  subst he
  exact ⟨_, rfl, post_of_below (pa := []) (pv := []) hW' (fun _ _ _ => trodAll_cons_mk (shut_bool Tryd.underlying4 _) trodAll_mk0) (fun sp _ => (trodAll_cons_mk (shut_int Tryd.underlying2 w0) (trodAll_cons_mk (shut_wind w1_0 w1_1) (trodAll_cons_mk (shut_int Tryd.underlying2 w2) trodAll_mk0)))) (fun _ _ => rfl) rfl
    hb (ok_one (by kernel_rfl) rfl (okWide_bool_mk Tryd.underlying4 _))⟩

theorem reads (os : Os) {H : Type} (enc : TypeId × Value → H) : ∃ places, DataW.whole enc Tryd.prog ((laidWorld os).forCall (fun _ _ => 0) ⟨#[], #[.int .i64 0, .agg #[.int .i64 0, .int .i64 0], .int .i64 0], []⟩).memory Tryd.f10.params.toList Rows.windPartsSpec.vars false (#[.int .i64 0, .agg #[.int .i64 0, .int .i64 0], .int .i64 0] : Array Value).toList 8 = some ([.lit (.int .i64 0), .agg [.lit (.int .i64 0), .lit (.int .i64 0)], .lit (.int .i64 0)], [], places) :=
  ⟨[], by kernel_rfl⟩

set_option maxRecDepth 100000 in
theorem lifted (os : Os) (started : os.Started) (H : Type) (enc : TypeId × Value → H) (F : Stop.Interp) :
    ReturnsInHanded {} Tryd.checked os 10 .any ((OpenSpec.ofChange Rows.windPartsSpec).preRow enc Tryd.prog Tryd.f10 Rows.windPartsRow.domain false Rows.windPartsRow.laid) (((OpenSpec.ofChange Rows.windPartsSpec).at F).post enc Tryd.prog Tryd.f10 false true false false) := by
  obtain ⟨places, hx⟩ := reads os enc
  refine returnsInHanded_of_row (C := Tryd.checked) (s := OpenSpec.ofChange Rows.windPartsSpec) own started (by kernel_rfl) Tryd.func10
    (witness_row_at (enc := enc) (C := Tryd.checked) false (laidWorld os) #[.int .i64 0, .agg #[.int .i64 0, .int .i64 0], .int .i64 0] rfl (by kernel_rfl) (by kernel_rfl) (by kernel_rfl)
      (OpenSpec.preRow_of_cond 8 hx (by kernel_rfl) (fun k hk => by cases hk) (by kernel_rfl) (laid_met_any os _))) ?_
  intro W base args ds gs before hval hW _ _ _ hL hsh _
  exact contract H enc W base args ds gs before hval hW hL hsh

theorem said : Rows.WindPartsSaid :=
  OpenClaim.holds_of_cond 10 Tryd.f10 rfl rfl rfl rfl rfl rfl rfl ⟨rfl, rfl, rfl, rfl, rfl⟩ rfl rfl rfl rfl rfl (by kernel_rfl) Tryd.func10 (by kernel_rfl)
    (of_decide_eq_true (by kernel_rfl)) (by unfold Func.isWrapper; first | (rw [if_pos (by decide +kernel)]; kernel_rfl) | (rw [if_neg (by decide +kernel)]; exact ⟨rfl, rfl⟩))
    (fun os started H enc _ F => by rw [OpenClaim.pre_eq_preRow]; exact lifted os started H enc F)

theorem plain (f : FuncId) (fn : Func) (hf : Tryd.pinned.checked.prog.funcNamed "flightdeck/flightdecklaw13.WindParts" = some f) (hfn : Tryd.pinned.checked.prog.funcs[f]? = some fn) :
    false = Tryd.pinned.checked.prog.looks [] ∧ ∀ (j : Nat) t, fn.params[j]? = some t → Tryd.pinned.checked.prog.wantsStandIn t = false := by
  obtain rfl : f = 10 := Option.some.inj ((show Tryd.prog.funcNamed "flightdeck/flightdecklaw13.WindParts" = some 10 by kernel_rfl).symm.trans hf) |>.symm
  obtain rfl : fn = Tryd.f10 := (Option.some.inj (Tryd.func10.symm.trans hfn)).symm
  refine ⟨by kernel_rfl, fun j t ht => ?_⟩
  rw [Tryd.params10] at ht
  have hm := Array.mem_of_getElem? ht
  simp only [List.mem_toArray, List.mem_cons, List.not_mem_nil, or_false] at hm
  rcases hm with rfl | rfl | rfl
  · exact (show Tryd.prog.wantsStandIn 2 = false by kernel_rfl)
  · exact (show Tryd.prog.wantsStandIn 23 = false by kernel_rfl)
  · exact (show Tryd.prog.wantsStandIn 2 = false by kernel_rfl)
/-- the law -/
theorem card : Rows.WindPartsCardSaid :=
  Claim7.holds_tied_plain_at .later [] _ _ _ _ said (fun _ h => by cases h) (by kernel_rfl) (fun _ h => by cases h) windParts_row_tie rfl ⟨rfl, rfl⟩ (by kernel_rfl) rfl plain (by kernel_rfl)
end Go.Proofs.YtdfpbojlimeccaaDoor.windParts

