/-
  The law SensorChecks holds for every input: reports are checked, and points agree with them, as specified. No condition.
-/
import Derived.Test.YtnnafjmfbnnnjaaDoorStructs41
import Derived.Test.YtnnafjmfbnnnjaaDoorAwake41
import Derived.Test.YtnnafjmfbnnnjaaDoorAged
import Derived.Lib.QuietBelow
namespace Go.Proofs.YtnnafjmfbnnnjaaDoor.sensorChecks
set_option linter.unusedVariables false
open Go.ChangeShapes Go.WideShapes Go.ChangeAt Go.RowKit Tr Sq

set_option maxHeartbeats 8000000 in
set_option maxRecDepth 100000 in
theorem walk (s k x y v b wt t px py : Int) (s_a : -9223372036854775808 ≤ s) (s_b : s ≤ 9223372036854775807) (k_a : 0 ≤ k) (k_b : k ≤ 255) (x_a : -9223372036854775808 ≤ x) (x_b : x ≤ 9223372036854775807) (y_a : -9223372036854775808 ≤ y) (y_b : y ≤ 9223372036854775807) (v_a : -9223372036854775808 ≤ v) (v_b : v ≤ 9223372036854775807) (b_a : -9223372036854775808 ≤ b) (b_b : b ≤ 9223372036854775807) (wt_a : -9223372036854775808 ≤ wt) (wt_b : wt ≤ 9223372036854775807) (t_a : -9223372036854775808 ≤ t) (t_b : t ≤ 9223372036854775807) (px_a : -9223372036854775808 ≤ px) (px_b : px ≤ 9223372036854775807) (py_a : -9223372036854775808 ≤ py) (py_b : py ≤ 9223372036854775807) (w : World) (hE : Env w) :
    Calls Tryd.prog 3 #[.agg #[.int .i64 s, .int .u8 k, .int .i64 x, .int .i64 y, .int .i64 v, .int .i64 b, .int .i64 wt, .int .i64 t], .agg #[.int .i64 px, .int .i64 py]] w fun e w' => e = .returned (.bool true) ∧ Below w.heap.size w w' := by
  have HE := Lib.hid hE
  clear hE
  have C1 := Lib.hid (fun w => check_any s k x y v b wt t w k_a k_b)
  have C2 := Lib.hid (fun w => check_ref s k x y v b wt t w k_a k_b)
  have A1 := Lib.hid (fun w => agrees_any s k x y v b wt t px py w k_a k_b)
  have A2 := Lib.hid (fun w => agrees_ref s k x y v b wt t px py w k_a k_b)
  generalize checkI s k x y v b wt t = en at *
  generalize agrB s k x y v b wt t px py = u at *
  cases u
  all_goals
    go_enter Tryd.func3, Tryd.ntmps3
    go_wp2_with fail
    have c0_0_0 : ((w.alloc (.cells #[.int .i64 s, .int .u8 k, .int .i64 x, .int .i64 y, .int .i64 v, .int .i64 b, .int .i64 wt, .int .i64 t] 26)).alloc (.cells #[.int .i64 px, .int .i64 py] 24)).cell? ⟨w.heap.size, 0, none⟩ = some (.int .i64 s) := (((Below.refl (w.heap.size + 1) (w.alloc (.cells #[.int .i64 s, .int .u8 k, .int .i64 x, .int .i64 y, .int .i64 v, .int .i64 b, .int .i64 wt, .int .i64 t] 26))).alloc (by simp; try omega) (.cells #[.int .i64 px, .int .i64 py] 24)).cell (p := ⟨w.heap.size, 0, none⟩) (by simp; try omega)).trans (by rw [World.cell?_alloc_at _ _ _ _ (by simp)]; rfl)
    have c0_0_1 : ((w.alloc (.cells #[.int .i64 s, .int .u8 k, .int .i64 x, .int .i64 y, .int .i64 v, .int .i64 b, .int .i64 wt, .int .i64 t] 26)).alloc (.cells #[.int .i64 px, .int .i64 py] 24)).cell? ⟨w.heap.size, 1, none⟩ = some (.int .u8 k) := (((Below.refl (w.heap.size + 1) (w.alloc (.cells #[.int .i64 s, .int .u8 k, .int .i64 x, .int .i64 y, .int .i64 v, .int .i64 b, .int .i64 wt, .int .i64 t] 26))).alloc (by simp; try omega) (.cells #[.int .i64 px, .int .i64 py] 24)).cell (p := ⟨w.heap.size, 1, none⟩) (by simp; try omega)).trans (by rw [World.cell?_alloc_at _ _ _ _ (by simp)]; rfl)
    have c0_0_2 : ((w.alloc (.cells #[.int .i64 s, .int .u8 k, .int .i64 x, .int .i64 y, .int .i64 v, .int .i64 b, .int .i64 wt, .int .i64 t] 26)).alloc (.cells #[.int .i64 px, .int .i64 py] 24)).cell? ⟨w.heap.size, 2, none⟩ = some (.int .i64 x) := (((Below.refl (w.heap.size + 1) (w.alloc (.cells #[.int .i64 s, .int .u8 k, .int .i64 x, .int .i64 y, .int .i64 v, .int .i64 b, .int .i64 wt, .int .i64 t] 26))).alloc (by simp; try omega) (.cells #[.int .i64 px, .int .i64 py] 24)).cell (p := ⟨w.heap.size, 2, none⟩) (by simp; try omega)).trans (by rw [World.cell?_alloc_at _ _ _ _ (by simp)]; rfl)
    have c0_0_3 : ((w.alloc (.cells #[.int .i64 s, .int .u8 k, .int .i64 x, .int .i64 y, .int .i64 v, .int .i64 b, .int .i64 wt, .int .i64 t] 26)).alloc (.cells #[.int .i64 px, .int .i64 py] 24)).cell? ⟨w.heap.size, 3, none⟩ = some (.int .i64 y) := (((Below.refl (w.heap.size + 1) (w.alloc (.cells #[.int .i64 s, .int .u8 k, .int .i64 x, .int .i64 y, .int .i64 v, .int .i64 b, .int .i64 wt, .int .i64 t] 26))).alloc (by simp; try omega) (.cells #[.int .i64 px, .int .i64 py] 24)).cell (p := ⟨w.heap.size, 3, none⟩) (by simp; try omega)).trans (by rw [World.cell?_alloc_at _ _ _ _ (by simp)]; rfl)
    have c0_0_4 : ((w.alloc (.cells #[.int .i64 s, .int .u8 k, .int .i64 x, .int .i64 y, .int .i64 v, .int .i64 b, .int .i64 wt, .int .i64 t] 26)).alloc (.cells #[.int .i64 px, .int .i64 py] 24)).cell? ⟨w.heap.size, 4, none⟩ = some (.int .i64 v) := (((Below.refl (w.heap.size + 1) (w.alloc (.cells #[.int .i64 s, .int .u8 k, .int .i64 x, .int .i64 y, .int .i64 v, .int .i64 b, .int .i64 wt, .int .i64 t] 26))).alloc (by simp; try omega) (.cells #[.int .i64 px, .int .i64 py] 24)).cell (p := ⟨w.heap.size, 4, none⟩) (by simp; try omega)).trans (by rw [World.cell?_alloc_at _ _ _ _ (by simp)]; rfl)
    have c0_0_5 : ((w.alloc (.cells #[.int .i64 s, .int .u8 k, .int .i64 x, .int .i64 y, .int .i64 v, .int .i64 b, .int .i64 wt, .int .i64 t] 26)).alloc (.cells #[.int .i64 px, .int .i64 py] 24)).cell? ⟨w.heap.size, 5, none⟩ = some (.int .i64 b) := (((Below.refl (w.heap.size + 1) (w.alloc (.cells #[.int .i64 s, .int .u8 k, .int .i64 x, .int .i64 y, .int .i64 v, .int .i64 b, .int .i64 wt, .int .i64 t] 26))).alloc (by simp; try omega) (.cells #[.int .i64 px, .int .i64 py] 24)).cell (p := ⟨w.heap.size, 5, none⟩) (by simp; try omega)).trans (by rw [World.cell?_alloc_at _ _ _ _ (by simp)]; rfl)
    have c0_0_6 : ((w.alloc (.cells #[.int .i64 s, .int .u8 k, .int .i64 x, .int .i64 y, .int .i64 v, .int .i64 b, .int .i64 wt, .int .i64 t] 26)).alloc (.cells #[.int .i64 px, .int .i64 py] 24)).cell? ⟨w.heap.size, 6, none⟩ = some (.int .i64 wt) := (((Below.refl (w.heap.size + 1) (w.alloc (.cells #[.int .i64 s, .int .u8 k, .int .i64 x, .int .i64 y, .int .i64 v, .int .i64 b, .int .i64 wt, .int .i64 t] 26))).alloc (by simp; try omega) (.cells #[.int .i64 px, .int .i64 py] 24)).cell (p := ⟨w.heap.size, 6, none⟩) (by simp; try omega)).trans (by rw [World.cell?_alloc_at _ _ _ _ (by simp)]; rfl)
    have c0_0_7 : ((w.alloc (.cells #[.int .i64 s, .int .u8 k, .int .i64 x, .int .i64 y, .int .i64 v, .int .i64 b, .int .i64 wt, .int .i64 t] 26)).alloc (.cells #[.int .i64 px, .int .i64 py] 24)).cell? ⟨w.heap.size, 7, none⟩ = some (.int .i64 t) := (((Below.refl (w.heap.size + 1) (w.alloc (.cells #[.int .i64 s, .int .u8 k, .int .i64 x, .int .i64 y, .int .i64 v, .int .i64 b, .int .i64 wt, .int .i64 t] 26))).alloc (by simp; try omega) (.cells #[.int .i64 px, .int .i64 py] 24)).cell (p := ⟨w.heap.size, 7, none⟩) (by simp; try omega)).trans (by rw [World.cell?_alloc_at _ _ _ _ (by simp)]; rfl)
    have c0_1_0 : ((w.alloc (.cells #[.int .i64 s, .int .u8 k, .int .i64 x, .int .i64 y, .int .i64 v, .int .i64 b, .int .i64 wt, .int .i64 t] 26)).alloc (.cells #[.int .i64 px, .int .i64 py] 24)).cell? ⟨w.heap.size + 1, 0, none⟩ = some (.int .i64 px) := by rw [World.cell?_alloc_at _ _ _ _ (by simp)]; rfl
    have c0_1_1 : ((w.alloc (.cells #[.int .i64 s, .int .u8 k, .int .i64 x, .int .i64 y, .int .i64 v, .int .i64 b, .int .i64 wt, .int .i64 t] 26)).alloc (.cells #[.int .i64 px, .int .i64 py] 24)).cell? ⟨w.heap.size + 1, 1, none⟩ = some (.int .i64 py) := by rw [World.cell?_alloc_at _ _ _ _ (by simp)]; rfl
    have z0_0 : w.heap.size < ((w.alloc (.cells #[.int .i64 s, .int .u8 k, .int .i64 x, .int .i64 y, .int .i64 v, .int .i64 b, .int .i64 wt, .int .i64 t] 26)).alloc (.cells #[.int .i64 px, .int .i64 py] 24)).heap.size := by simp; try omega
    have z0_1 : w.heap.size + 1 < ((w.alloc (.cells #[.int .i64 s, .int .u8 k, .int .i64 x, .int .i64 y, .int .i64 v, .int .i64 b, .int .i64 wt, .int .i64 t] 26)).alloc (.cells #[.int .i64 px, .int .i64 py] 24)).heap.size := by simp; try omega
    have hw0 := Lib.hid (((Below.refl w.heap.size w).alloc (by simp; try omega) (.cells #[.int .i64 s, .int .u8 k, .int .i64 x, .int .i64 y, .int .i64 v, .int .i64 b, .int .i64 wt, .int .i64 t] 26)).alloc (by simp; try omega) (.cells #[.int .i64 px, .int .i64 py] 24))
    generalize hW0 : ((w.alloc (.cells #[.int .i64 s, .int .u8 k, .int .i64 x, .int .i64 y, .int .i64 v, .int .i64 b, .int .i64 wt, .int .i64 t] 26)).alloc (.cells #[.int .i64 px, .int .i64 py] 24)) = w0 at *
    clear hW0
    have g_0_0 := fun d os => cell_regrown c0_0_0 d os
    have g_0_1 := fun d os => cell_regrown c0_0_1 d os
    have g_0_2 := fun d os => cell_regrown c0_0_2 d os
    have g_0_3 := fun d os => cell_regrown c0_0_3 d os
    have g_0_4 := fun d os => cell_regrown c0_0_4 d os
    have g_0_5 := fun d os => cell_regrown c0_0_5 d os
    have g_0_6 := fun d os => cell_regrown c0_0_6 d os
    have g_0_7 := fun d os => cell_regrown c0_0_7 d os
    have g_1_0 := fun d os => cell_regrown c0_1_0 d os
    have g_1_1 := fun d os => cell_regrown c0_1_1 d os
    have k0 := Lib.hid (fun d os => Calls.regrown_of (awake_any (Go.Sort.grow (redrawn w0 d) os) ((HE.out.below hw0.out).below (below_regrown w0 d os))))
    have k1 := Lib.hid (fun d os => Calls.regrown_of (C1.out (Go.Sort.grow (redrawn w0 d) os)))
    have k2 := Lib.hid (fun d os => Calls.regrown_of (C2.out (Go.Sort.grow (redrawn w0 d) os)))
    have k3 := Lib.hid (fun d os => Calls.regrown_of (A1.out (Go.Sort.grow (redrawn w0 d) os)))
    have k4 := Lib.hid (fun d os => Calls.regrown_of (A2.out (Go.Sort.grow (redrawn w0 d) os)))
    refine wp_region_quiet_below (by kernel_rfl) (by kernel_rfl) ?_
    repeat (quiet_step (first | with_reducible exact k0.out _ _ | with_reducible exact k1.out _ _ | with_reducible exact k2.out _ _ | with_reducible exact k3.out _ _ | with_reducible exact k4.out _ _))
    refine wpQuiet_nil ?_
    intro w1 hw'
    have hb1 : Below w0.heap.size w0 w1 := by
      obtain ⟨⟨dq, osq⟩, hw''⟩ := hw'
      rw [hw'']; exact below_regrown w0 dq osq
    clear hw' k0 k1 k2 k3 k4 g_0_0 g_0_1 g_0_2 g_0_3 g_0_4 g_0_5 g_0_6 g_0_7 g_1_0 g_1_1
    have hw1 := Lib.hid (hw0.out.trans (hb1.mono hw0.out.size))
    clear hb1 hw0 c0_0_0 c0_0_1 c0_0_2 c0_0_3 c0_0_4 c0_0_5 c0_0_6 c0_0_7 c0_1_0 c0_1_1 z0_0 z0_1
    go_wp2
    go_ret
    exact ⟨rfl, hw1.out⟩
/-! ### the row's step -/
set_option maxRecDepth 100000 in
theorem contract (H : Type) (enc : TypeId × Value → H) (W : World) (base : Nat) (args : Array Value) (ds gs : List (DataW H)) (before : List MemPlace)
    (hval : ∀ (j : Nat) t v, Tryd.f3.params[j]? = some t → args[j]? = some v → Value.okWide Tryd.prog W .any base t v)
    (hW : DataW.Whole enc Tryd.prog Tryd.f3.params.toList Rows.sensorChecksSpec.vars false W args.toList ds gs before) (hL : laidMetH Tryd.prog Rows.sensorChecksRow.laid W) (hsh : W.ShapedOpen Tryd.prog) :
    Calls Tryd.prog 3 args W fun e W' => ∃ v, e = .returned v ∧ Rows.sensorChecksSpec.post enc Tryd.prog Tryd.f3 false true false false W args v W' := by
  have hW' := hW
  obtain ⟨p, q, hA0, hV, rfl, hfz, hnd⟩ := hW
  have hA : DataW.TrodAll enc Tryd.prog W 0 (fun _ => true) true Tryd.f3.params.toList args.toList ds p := hA0
  rw [Tryd.params3] at hA hval
  obtain ⟨v0, vs0, d0, ds0, p0, q0, hargs, rfl, rfl, h0, r0⟩ := trodAll_cons hA
  obtain ⟨v1, vs1, d1, ds1, p1, q1, rfl, rfl, rfl, h1, r1⟩ := trodAll_cons r0
  obtain ⟨rfl, rfl, rfl⟩ := trodAll_nil r1
  obtain rfl : args = #[v0, v1] := by cases args; simp_all
  obtain ⟨rfl, rfl⟩ := trodVars_none hV
  obtain ⟨x0_0, x0_1, x0_2, x0_3, x0_4, x0_5, x0_6, x0_7, rfl, rfl, rfl, w0_0, w0_1, w0_2, w0_3, w0_4, w0_5, w0_6, w0_7⟩ := open_report (hval 0 26 v0 rfl rfl) h0
  obtain ⟨x1_0, x1_1, rfl, rfl, rfl, w1_0, w1_1⟩ := open_point (hval 1 24 v1 rfl rfl) h1
  clear hA0
  simp only [List.append_nil] at hW'
  refine (walk x0_0 x0_1 x0_2 x0_3 x0_4 x0_5 x0_6 x0_7 x1_0 x1_1 (bd64 w0_0).1 (bd64 w0_0).2 (bd8 w0_1).1 (bd8 w0_1).2 (bd64 w0_2).1 (bd64 w0_2).2 (bd64 w0_3).1 (bd64 w0_3).2 (bd64 w0_4).1 (bd64 w0_4).2 (bd64 w0_5).1 (bd64 w0_5).2 (bd64 w0_6).1 (bd64 w0_6).2 (bd64 w0_7).1 (bd64 w0_7).2 (bd64 w1_0).1 (bd64 w1_0).2 (bd64 w1_1).1 (bd64 w1_1).2 W (env_of hL hsh)).mono fun e W' ⟨he, hb⟩ => ?_
  subst he
  exact ⟨_, rfl, post_of_below (pa := []) (pv := []) hW' (fun _ _ _ => trodAll_cons_mk (shut_bool Tryd.underlying4 _) trodAll_mk0) (fun sp _ => (trodAll_cons_mk (shut_report w0_0 w0_1 w0_2 w0_3 w0_4 w0_5 w0_6 w0_7) (trodAll_cons_mk (shut_point w1_0 w1_1) trodAll_mk0))) (fun _ _ => rfl) rfl
    hb (ok_one (by kernel_rfl) rfl (okWide_bool_mk Tryd.underlying4 _))⟩

theorem reads (os : Os) {H : Type} (enc : TypeId × Value → H) : ∃ places, DataW.whole enc Tryd.prog ((laidWorld os).forCall (fun _ _ => 0) ⟨#[], #[.agg #[.int .i64 0, .int .u8 0, .int .i64 0, .int .i64 0, .int .i64 0, .int .i64 0, .int .i64 0, .int .i64 0], .agg #[.int .i64 0, .int .i64 0]], []⟩).memory Tryd.f3.params.toList Rows.sensorChecksSpec.vars false (#[.agg #[.int .i64 0, .int .u8 0, .int .i64 0, .int .i64 0, .int .i64 0, .int .i64 0, .int .i64 0, .int .i64 0], .agg #[.int .i64 0, .int .i64 0]] : Array Value).toList 8 = some ([.agg [.lit (.int .i64 0), .lit (.int .u8 0), .agg [.lit (.int .i64 0), .lit (.int .i64 0)], .lit (.int .i64 0), .lit (.int .i64 0), .lit (.int .i64 0), .lit (.int .i64 0)], .agg [.lit (.int .i64 0), .lit (.int .i64 0)]], [], places) :=
  ⟨[], by kernel_rfl⟩

set_option maxRecDepth 100000 in
theorem lifted (os : Os) (started : os.Started) (H : Type) (enc : TypeId × Value → H) (F : Stop.Interp) :
    ReturnsInHanded {} Tryd.checked os 3 .any ((OpenSpec.ofChange Rows.sensorChecksSpec).preRow enc Tryd.prog Tryd.f3 Rows.sensorChecksRow.domain false Rows.sensorChecksRow.laid) (((OpenSpec.ofChange Rows.sensorChecksSpec).at F).post enc Tryd.prog Tryd.f3 false true false false) := by
  obtain ⟨places, hx⟩ := reads os enc
  refine returnsInHanded_of_row (C := Tryd.checked) (s := OpenSpec.ofChange Rows.sensorChecksSpec) own started (by kernel_rfl) Tryd.func3
    (witness_row_at (enc := enc) (C := Tryd.checked) false (laidWorld os) #[.agg #[.int .i64 0, .int .u8 0, .int .i64 0, .int .i64 0, .int .i64 0, .int .i64 0, .int .i64 0, .int .i64 0], .agg #[.int .i64 0, .int .i64 0]] rfl (by kernel_rfl) (by kernel_rfl) (by kernel_rfl)
      (OpenSpec.preRow_of_cond 8 hx (by kernel_rfl) (fun k hk => by cases hk) (by kernel_rfl) (laid_met_any os _))) ?_
  intro W base args ds gs before hval hW _ _ _ hL hsh _
  exact contract H enc W base args ds gs before hval hW hL hsh

theorem said : Rows.SensorChecksSaid :=
  OpenClaim.holds_of_cond 3 Tryd.f3 rfl rfl rfl rfl rfl rfl rfl ⟨rfl, rfl, rfl, rfl, rfl⟩ rfl rfl rfl rfl rfl (by kernel_rfl) Tryd.func3 (by kernel_rfl)
    (of_decide_eq_true (by kernel_rfl)) (by unfold Func.isWrapper; first | (rw [if_pos (by decide +kernel)]; kernel_rfl) | (rw [if_neg (by decide +kernel)]; exact ⟨rfl, rfl⟩))
    (fun os started H enc _ F => by rw [OpenClaim.pre_eq_preRow]; exact lifted os started H enc F)

theorem plain (f : FuncId) (fn : Func) (hf : Tryd.pinned.checked.prog.funcNamed "flightdeck/flightdecklaw41.SensorChecks" = some f) (hfn : Tryd.pinned.checked.prog.funcs[f]? = some fn) :
    false = Tryd.pinned.checked.prog.looks [] ∧ ∀ (j : Nat) t, fn.params[j]? = some t → Tryd.pinned.checked.prog.wantsStandIn t = false := by
  obtain rfl : f = 3 := Option.some.inj ((show Tryd.prog.funcNamed "flightdeck/flightdecklaw41.SensorChecks" = some 3 by kernel_rfl).symm.trans hf) |>.symm
  obtain rfl : fn = Tryd.f3 := (Option.some.inj (Tryd.func3.symm.trans hfn)).symm
  refine ⟨by kernel_rfl, fun j t ht => ?_⟩
  rw [Tryd.params3] at ht
  have hm := Array.mem_of_getElem? ht
  simp only [List.mem_toArray, List.mem_cons, List.not_mem_nil, or_false] at hm
  rcases hm with rfl | rfl
  · exact (show Tryd.prog.wantsStandIn 26 = false by kernel_rfl)
  · exact (show Tryd.prog.wantsStandIn 24 = false by kernel_rfl)
/-- the law -/
theorem card : Rows.SensorChecksCardSaid :=
  Claim7.holds_tied_plain_at .later [] _ _ _ _ said (fun _ h => by cases h) (by kernel_rfl) (fun _ h => by cases h) sensorChecks_row_tie rfl ⟨rfl, rfl⟩ (by kernel_rfl) rfl plain (by kernel_rfl)
end Go.Proofs.YtnnafjmfbnnnjaaDoor.sensorChecks
