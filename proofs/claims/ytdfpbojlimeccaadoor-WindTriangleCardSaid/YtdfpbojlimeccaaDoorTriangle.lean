/-
  The law WindTriangle holds for every input: flown with the heading that Ground finds, the course over ground is the one that was wanted, and the ground speed is the one that was found, within the rounding. No condition.
-/
import Derived.Test.YtdfpbojlimeccaaDoorFrame
import Derived.Test.YtdfpbojlimeccaaDoorAwake
import Derived.Test.YtdfpbojlimeccaaDoorTriPlain
import Derived.Lib.QuietBelow
namespace Go.Proofs.YtdfpbojlimeccaaDoor.windTriangle
set_option linter.unusedVariables false
open Go.ChangeShapes Go.WideShapes Go.ChangeAt Go.RowKit Tr Sq

theorem ground_err (c t x n : Int) : (∃ g d, groundF c t x n = (g, d, 0) ∧ 1024 ≤ g ∧ -64800000 ≤ d ∧ d ≤ 64800000) ∨ groundF c t x n = (0, 0, 1) ∨ groundF c t x n = (0, 0, 10) := by
  unfold groundF
  split
  · split
    · exact .inr (.inr rfl)
    · split
      · exact .inr (.inr rfl)
      · refine .inl ⟨_, _, rfl, by omega, ?_⟩
        unfold diffI normI
        split <;> omega
  · exact .inr (.inl rfl)
set_option maxHeartbeats 4000000 in
set_option maxRecDepth 100000 in
theorem walk (c t x n : Int) (c0 : -9223372036854775808 ≤ c) (c1 : c ≤ 9223372036854775807) (t0 : -9223372036854775808 ≤ t) (t1 : t ≤ 9223372036854775807) (x0 : -9223372036854775808 ≤ x) (x1 : x ≤ 9223372036854775807) (n0 : -9223372036854775808 ≤ n) (n1 : n ≤ 9223372036854775807) (w : World) (hE : Env w) :
    Calls Tryd.prog 6 #[.int .i64 c, .int .i64 t, .agg #[.int .i64 x, .int .i64 n]] w fun e w' => e = .returned (.bool true) ∧ Below w.heap.size w w' := by
  have HE := Lib.hid hE
  obtain ⟨r0, r1⟩ := normI_range c
  have G1 := Lib.hid (fun w => ground_any (normI c) t x n w (by omega) (by omega))
  clear hE
  rcases ground_err (normI c) t x n with ⟨g, d, hg, hg0, hd0, hd1⟩ | hg | hg
  · rw [hg] at G1
    by_cases h8 : g < 1032
    · have k1 : decide (g < 1032) = true := by simpa using h8
      clear hg
      go_enter Tryd.func6, Tryd.ntmps6
      go_wp2_with fail
      have p0 : (w.alloc (.cells #[.int .i64 x, .int .i64 n] 23)).cell? ⟨w.heap.size, 0, none⟩ = some (.int .i64 x) := by rw [World.cell?_alloc_at _ _ _ _ (by simp)]; rfl
      have p1 : (w.alloc (.cells #[.int .i64 x, .int .i64 n] 23)).cell? ⟨w.heap.size, 1, none⟩ = some (.int .i64 n) := by rw [World.cell?_alloc_at _ _ _ _ (by simp)]; rfl
      have hz : w.heap.size < (w.alloc (.cells #[.int .i64 x, .int .i64 n] 23)).heap.size := by simp
      have hw := Lib.hid ((Below.refl w.heap.size w).alloc (Nat.le_refl _) (.cells #[.int .i64 x, .int .i64 n] 23))
      generalize hW1 : w.alloc (.cells #[.int .i64 x, .int .i64 n] 23) = W1 at *
      clear hW1
      refine (awake_any _ (HE.out.below hw.out)).mono ?_
      rintro e w2 ⟨rfl, hb2⟩
      have q0 := (hb2.cell (p := ⟨w.heap.size, 0, none⟩) hz).trans p0
      have q1 := (hb2.cell (p := ⟨w.heap.size, 1, none⟩) hz).trans p1
      have hz2 : w.heap.size < w2.heap.size := Nat.lt_of_lt_of_le hz hb2.size
      have hw2 := Lib.hid (hw.out.trans (hb2.mono hw.out.size))
      clear hb2 p0 p1 hz hw
      go_wp2_with fail
      refine (norm_any _ _ c0 c1).mono ?_
      rintro e w' ⟨rfl, rfl⟩
      go_wp2_with fail
      refine (G1.out _).mono ?_
      rintro e w3 ⟨rfl, hb3⟩
      have p0 := (hb3.cell (p := ⟨w.heap.size, 0, none⟩) hz2).trans q0
      have p1 := (hb3.cell (p := ⟨w.heap.size, 1, none⟩) hz2).trans q1
      have hz3 : w.heap.size < w3.heap.size := Nat.lt_of_lt_of_le hz2 hb3.size
      have hw3 := Lib.hid (hw2.out.trans (hb3.mono hw2.out.size))
      clear hb3 q0 q1 hz2 hw2
      go_wp2
      go_ret
      exact ⟨rfl, hw3.out⟩
    · have k1 : decide (g < 1032) = false := by simpa using h8
      obtain ⟨c', h', e1, e2, e3, e4, e5, e6⟩ := Un.triangle r0 r1 hg (by omega)
      have T1 := Lib.hid (fun w => track_any (turnI (normI c) d) t x n w (by unfold turnI normI; omega) (by unfold turnI normI; omega))
      rw [e1] at T1
      have a2 : -9223372036854775808 ≤ c' ∧ c' ≤ 9223372036854775807 := by
        unfold trackF at e1
        split at e1
        · split at e1
          · simp only [Prod.mk.injEq] at e1; omega
          · simp only [Prod.mk.injEq] at e1
            have := atanI_range (trackX (turnI (normI c) d) t x) (trackY (turnI (normI c) d) t n)
            omega
        · simp only [Prod.mk.injEq] at e1; omega
      obtain ⟨a2, a3⟩ := a2
      have k2 : decide (h' ≤ g + 8) = true := by simpa using e3
      have k3 : decide (g - 8 ≤ h') = true := by simpa using e4
      have k4 : decide (max (diffI (normI c) c') (-diffI (normI c) c') ≤ 331200000 / g + 1) = true := by simp; omega
      have k6 : -64800000 ≤ diffI (normI c) c' ∧ diffI (normI c) c' ≤ 64800000 := by unfold diffI normI; split <;> omega
      obtain ⟨k6, k7⟩ := k6
      have k8 : 0 ≤ 331200000 / g ∧ 331200000 / g ≤ 331200000 := ⟨Int.ediv_nonneg (by decide) (by omega), Int.ediv_le_self _ (by decide)⟩
      obtain ⟨k8, k9⟩ := k8
      clear hg e1
      go_enter Tryd.func6, Tryd.ntmps6
      go_wp2_with fail
      have p0 : (w.alloc (.cells #[.int .i64 x, .int .i64 n] 23)).cell? ⟨w.heap.size, 0, none⟩ = some (.int .i64 x) := by rw [World.cell?_alloc_at _ _ _ _ (by simp)]; rfl
      have p1 : (w.alloc (.cells #[.int .i64 x, .int .i64 n] 23)).cell? ⟨w.heap.size, 1, none⟩ = some (.int .i64 n) := by rw [World.cell?_alloc_at _ _ _ _ (by simp)]; rfl
      have hz : w.heap.size < (w.alloc (.cells #[.int .i64 x, .int .i64 n] 23)).heap.size := by simp
      have hw := Lib.hid ((Below.refl w.heap.size w).alloc (Nat.le_refl _) (.cells #[.int .i64 x, .int .i64 n] 23))
      generalize hW1 : w.alloc (.cells #[.int .i64 x, .int .i64 n] 23) = W1 at *
      clear hW1
      refine (awake_any _ (HE.out.below hw.out)).mono ?_
      rintro e w2 ⟨rfl, hb2⟩
      have q0 := (hb2.cell (p := ⟨w.heap.size, 0, none⟩) hz).trans p0
      have q1 := (hb2.cell (p := ⟨w.heap.size, 1, none⟩) hz).trans p1
      have hz2 : w.heap.size < w2.heap.size := Nat.lt_of_lt_of_le hz hb2.size
      have hw2 := Lib.hid (hw.out.trans (hb2.mono hw.out.size))
      clear hb2 p0 p1 hz hw
      go_wp2_with fail
      refine (norm_any _ _ c0 c1).mono ?_
      rintro e w' ⟨rfl, rfl⟩
      go_wp2_with fail
      refine (G1.out _).mono ?_
      rintro e w3 ⟨rfl, hb3⟩
      have p0 := (hb3.cell (p := ⟨w.heap.size, 0, none⟩) hz2).trans q0
      have p1 := (hb3.cell (p := ⟨w.heap.size, 1, none⟩) hz2).trans q1
      have hz3 : w.heap.size < w3.heap.size := Nat.lt_of_lt_of_le hz2 hb3.size
      have hw3 := Lib.hid (hw2.out.trans (hb3.mono hw2.out.size))
      clear hb3 q0 q1 hz2 hw2
      go_wp2_with fail
      have g0 := fun d os => cell_regrown p0 d os
      have g1 := fun d os => cell_regrown p1 d os
      have k0 := Lib.hid (fun dd os => Calls.regrown_of ((turn_any (normI c) d (Go.Sort.grow (redrawn w3 dd) os) (by omega) (by omega) (by omega) (by omega)).mono fun e w' ⟨he, hw⟩ => ⟨he, hw ▸ Below.refl _ _⟩))
      have k01 := Lib.hid (fun dd os => Calls.regrown_of (T1.out (Go.Sort.grow (redrawn w3 dd) os)))
      refine wp_region_quiet_below (by kernel_rfl) (by kernel_rfl) ?_
      repeat (quiet_step (first | with_reducible exact k0.out _ _ | with_reducible exact k01.out _ _))
      refine wpQuiet_nil ?_
      intro w4 hw'
      have hb4 : Below w3.heap.size w3 w4 := by
        obtain ⟨⟨dq, osq⟩, hw''⟩ := hw'
        rw [hw'']; exact below_regrown w3 dq osq
      clear k0 k01 g0 g1 hw' p0 p1
      have hw4 := Lib.hid (hw3.out.trans (hb4.mono hw3.out.size))
      clear hb4 hw3
      go_wp2_with (go_at_call 22; refine (diff_any _ _ _ (by omega) (by omega) (by omega) (by omega)).mono ?_; rintro e w' ⟨rfl, rfl⟩)
      go_ret
      exact ⟨rfl, hw4.out⟩
  · rw [hg] at G1
    clear hg
    go_enter Tryd.func6, Tryd.ntmps6
    go_wp2_with fail
    have p0 : (w.alloc (.cells #[.int .i64 x, .int .i64 n] 23)).cell? ⟨w.heap.size, 0, none⟩ = some (.int .i64 x) := by rw [World.cell?_alloc_at _ _ _ _ (by simp)]; rfl
    have p1 : (w.alloc (.cells #[.int .i64 x, .int .i64 n] 23)).cell? ⟨w.heap.size, 1, none⟩ = some (.int .i64 n) := by rw [World.cell?_alloc_at _ _ _ _ (by simp)]; rfl
    have hz : w.heap.size < (w.alloc (.cells #[.int .i64 x, .int .i64 n] 23)).heap.size := by simp
    have hw := Lib.hid ((Below.refl w.heap.size w).alloc (Nat.le_refl _) (.cells #[.int .i64 x, .int .i64 n] 23))
    generalize hW1 : w.alloc (.cells #[.int .i64 x, .int .i64 n] 23) = W1 at *
    clear hW1
    refine (awake_any _ (HE.out.below hw.out)).mono ?_
    rintro e w2 ⟨rfl, hb2⟩
    have q0 := (hb2.cell (p := ⟨w.heap.size, 0, none⟩) hz).trans p0
    have q1 := (hb2.cell (p := ⟨w.heap.size, 1, none⟩) hz).trans p1
    have hz2 : w.heap.size < w2.heap.size := Nat.lt_of_lt_of_le hz hb2.size
    have hw2 := Lib.hid (hw.out.trans (hb2.mono hw.out.size))
    clear hb2 p0 p1 hz hw
    go_wp2_with fail
    refine (norm_any _ _ c0 c1).mono ?_
    rintro e w' ⟨rfl, rfl⟩
    go_wp2_with fail
    refine (G1.out _).mono ?_
    rintro e w3 ⟨rfl, hb3⟩
    have p0 := (hb3.cell (p := ⟨w.heap.size, 0, none⟩) hz2).trans q0
    have p1 := (hb3.cell (p := ⟨w.heap.size, 1, none⟩) hz2).trans q1
    have hz3 : w.heap.size < w3.heap.size := Nat.lt_of_lt_of_le hz2 hb3.size
    have hw3 := Lib.hid (hw2.out.trans (hb3.mono hw2.out.size))
    clear hb3 q0 q1 hz2 hw2
    go_wp2
    go_ret
    exact ⟨rfl, hw3.out⟩
  · rw [hg] at G1
    clear hg
    go_enter Tryd.func6, Tryd.ntmps6
    go_wp2_with fail
    have p0 : (w.alloc (.cells #[.int .i64 x, .int .i64 n] 23)).cell? ⟨w.heap.size, 0, none⟩ = some (.int .i64 x) := by rw [World.cell?_alloc_at _ _ _ _ (by simp)]; rfl
    have p1 : (w.alloc (.cells #[.int .i64 x, .int .i64 n] 23)).cell? ⟨w.heap.size, 1, none⟩ = some (.int .i64 n) := by rw [World.cell?_alloc_at _ _ _ _ (by simp)]; rfl
    have hz : w.heap.size < (w.alloc (.cells #[.int .i64 x, .int .i64 n] 23)).heap.size := by simp
    have hw := Lib.hid ((Below.refl w.heap.size w).alloc (Nat.le_refl _) (.cells #[.int .i64 x, .int .i64 n] 23))
    generalize hW1 : w.alloc (.cells #[.int .i64 x, .int .i64 n] 23) = W1 at *
    clear hW1
    refine (awake_any _ (HE.out.below hw.out)).mono ?_
    rintro e w2 ⟨rfl, hb2⟩
    have q0 := (hb2.cell (p := ⟨w.heap.size, 0, none⟩) hz).trans p0
    have q1 := (hb2.cell (p := ⟨w.heap.size, 1, none⟩) hz).trans p1
    have hz2 : w.heap.size < w2.heap.size := Nat.lt_of_lt_of_le hz hb2.size
    have hw2 := Lib.hid (hw.out.trans (hb2.mono hw.out.size))
    clear hb2 p0 p1 hz hw
    go_wp2_with fail
    refine (norm_any _ _ c0 c1).mono ?_
    rintro e w' ⟨rfl, rfl⟩
    go_wp2_with fail
    refine (G1.out _).mono ?_
    rintro e w3 ⟨rfl, hb3⟩
    have p0 := (hb3.cell (p := ⟨w.heap.size, 0, none⟩) hz2).trans q0
    have p1 := (hb3.cell (p := ⟨w.heap.size, 1, none⟩) hz2).trans q1
    have hz3 : w.heap.size < w3.heap.size := Nat.lt_of_lt_of_le hz2 hb3.size
    have hw3 := Lib.hid (hw2.out.trans (hb3.mono hw2.out.size))
    clear hb3 q0 q1 hz2 hw2
    go_wp2
    go_ret
    exact ⟨rfl, hw3.out⟩

/-! ### the row's step -/
theorem contract (H : Type) (enc : TypeId × Value → H) (W : World) (base : Nat) (args : Array Value) (ds gs : List (DataW H)) (before : List MemPlace)
    (hval : ∀ (j : Nat) t v, Tryd.f6.params[j]? = some t → args[j]? = some v → Value.okWide Tryd.prog W .any base t v)
    (hW : DataW.Whole enc Tryd.prog Tryd.f6.params.toList Rows.windTriangleSpec.vars false W args.toList ds gs before) (hL : laidMetH Tryd.prog Rows.windTriangleRow.laid W) (hsh : W.ShapedOpen Tryd.prog) :
    Calls Tryd.prog 6 args W fun e W' => ∃ v, e = .returned v ∧ Rows.windTriangleSpec.post enc Tryd.prog Tryd.f6 false true false false W args v W' := by
  have hW' := hW
  obtain ⟨p, q, hA0, hV, rfl, hfz, hnd⟩ := hW
  have hA : DataW.TrodAll enc Tryd.prog W 0 (fun _ => true) true Tryd.f6.params.toList args.toList ds p := hA0
  rw [Tryd.params6] at hA hval
  obtain ⟨v0, vs0, d0, ds0, p0, q0, hargs, rfl, rfl, h0, r0⟩ := trodAll_cons hA
  obtain ⟨v1, vs1, d1, ds1, p1, q1, rfl, rfl, rfl, h1, r1⟩ := trodAll_cons r0
  obtain ⟨v2, vs2, d2, ds2, p2, q2, rfl, rfl, rfl, h2, r2⟩ := trodAll_cons r1
  obtain ⟨rfl, rfl, rfl⟩ := trodAll_nil r2
  obtain rfl : args = #[v0, v1, v2] := by cases args; simp_all
  obtain ⟨rfl, rfl⟩ := trodVars_none hV
  obtain ⟨a0, rfl, rfl, rfl, w0⟩ := open_int Tryd.underlying2 (hval 0 2 v0 rfl rfl) h0
  obtain ⟨a1, rfl, rfl, rfl, w1⟩ := open_int Tryd.underlying2 (hval 1 2 v1 rfl rfl) h1
  obtain ⟨x2_0, x2_1, rfl, rfl, rfl, w2_0, w2_1⟩ := open_wind (hval 2 23 v2 rfl rfl) h2
  clear hA0
  simp only [List.append_nil] at hW'
  refine (walk a0 a1 x2_0 x2_1 (bd64 w0).1 (bd64 w0).2 (bd64 w1).1 (bd64 w1).2 (bd64 w2_0).1 (bd64 w2_0).2 (bd64 w2_1).1 (bd64 w2_1).2 W (env_of hL hsh)).mono fun e W' ⟨he, hb⟩ => ?_
  subst he
  exact ⟨_, rfl, post_of_below (pa := []) (pv := []) hW' (fun _ _ _ => trodAll_cons_mk (shut_bool Tryd.underlying4 _) trodAll_mk0) (fun sp _ => (trodAll_cons_mk (shut_int Tryd.underlying2 w0) (trodAll_cons_mk (shut_int Tryd.underlying2 w1) (trodAll_cons_mk (shut_wind w2_0 w2_1) trodAll_mk0)))) (fun _ _ => rfl) rfl
    hb (ok_one (by kernel_rfl) rfl (okWide_bool_mk Tryd.underlying4 _))⟩

theorem reads (os : Os) {H : Type} (enc : TypeId × Value → H) : ∃ places, DataW.whole enc Tryd.prog ((laidWorld os).forCall (fun _ _ => 0) ⟨#[], #[.int .i64 0, .int .i64 0, .agg #[.int .i64 0, .int .i64 0]], []⟩).memory Tryd.f6.params.toList Rows.windTriangleSpec.vars false (#[.int .i64 0, .int .i64 0, .agg #[.int .i64 0, .int .i64 0]] : Array Value).toList 8 = some ([.lit (.int .i64 0), .lit (.int .i64 0), .agg [.lit (.int .i64 0), .lit (.int .i64 0)]], [], places) :=
  ⟨[], by kernel_rfl⟩

set_option maxRecDepth 100000 in
theorem lifted (os : Os) (started : os.Started) (H : Type) (enc : TypeId × Value → H) (F : Stop.Interp) :
    ReturnsInHanded {} Tryd.checked os 6 .any ((OpenSpec.ofChange Rows.windTriangleSpec).preRow enc Tryd.prog Tryd.f6 Rows.windTriangleRow.domain false Rows.windTriangleRow.laid) (((OpenSpec.ofChange Rows.windTriangleSpec).at F).post enc Tryd.prog Tryd.f6 false true false false) := by
  obtain ⟨places, hx⟩ := reads os enc
  refine returnsInHanded_of_row (C := Tryd.checked) (s := OpenSpec.ofChange Rows.windTriangleSpec) own started (by kernel_rfl) Tryd.func6
    (witness_row_at (enc := enc) (C := Tryd.checked) false (laidWorld os) #[.int .i64 0, .int .i64 0, .agg #[.int .i64 0, .int .i64 0]] rfl (by kernel_rfl) (by kernel_rfl) (by kernel_rfl)
      (OpenSpec.preRow_of_cond 8 hx (by kernel_rfl) (fun k hk => by cases hk) (by kernel_rfl) (laid_met_any os _))) ?_
  intro W base args ds gs before hval hW _ _ _ hL hsh _
  exact contract H enc W base args ds gs before hval hW hL hsh

theorem said : Rows.WindTriangleSaid :=
  OpenClaim.holds_of_cond 6 Tryd.f6 rfl rfl rfl rfl rfl rfl rfl ⟨rfl, rfl, rfl, rfl, rfl⟩ rfl rfl rfl rfl rfl (by kernel_rfl) Tryd.func6 (by kernel_rfl)
    (of_decide_eq_true (by kernel_rfl)) (by unfold Func.isWrapper; first | (rw [if_pos (by decide +kernel)]; kernel_rfl) | (rw [if_neg (by decide +kernel)]; exact ⟨rfl, rfl⟩))
    (fun os started H enc _ F => by rw [OpenClaim.pre_eq_preRow]; exact lifted os started H enc F)

theorem plain (f : FuncId) (fn : Func) (hf : Tryd.pinned.checked.prog.funcNamed "flightdeck/flightdecklaw13.WindTriangle" = some f) (hfn : Tryd.pinned.checked.prog.funcs[f]? = some fn) :
    false = Tryd.pinned.checked.prog.looks [] ∧ ∀ (j : Nat) t, fn.params[j]? = some t → Tryd.pinned.checked.prog.wantsStandIn t = false := by
  obtain rfl : f = 6 := Option.some.inj ((show Tryd.prog.funcNamed "flightdeck/flightdecklaw13.WindTriangle" = some 6 by kernel_rfl).symm.trans hf) |>.symm
  obtain rfl : fn = Tryd.f6 := (Option.some.inj (Tryd.func6.symm.trans hfn)).symm
  refine ⟨by kernel_rfl, fun j t ht => ?_⟩
  rw [Tryd.params6] at ht
  have hm := Array.mem_of_getElem? ht
  simp only [List.mem_toArray, List.mem_cons, List.not_mem_nil, or_false] at hm
  rcases hm with rfl | rfl | rfl
  · exact (show Tryd.prog.wantsStandIn 2 = false by kernel_rfl)
  · exact (show Tryd.prog.wantsStandIn 2 = false by kernel_rfl)
  · exact (show Tryd.prog.wantsStandIn 23 = false by kernel_rfl)
/-- the law -/
theorem card : Rows.WindTriangleCardSaid :=
  Claim7.holds_tied_plain_at .later [] _ _ _ _ said (fun _ h => by cases h) (by kernel_rfl) (fun _ h => by cases h) windTriangle_row_tie rfl ⟨rfl, rfl⟩ (by kernel_rfl) rfl plain (by kernel_rfl)
end Go.Proofs.YtdfpbojlimeccaaDoor.windTriangle

