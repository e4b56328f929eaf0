/-
  The law WindDirections holds for every input: a wind by direction and speed has that speed and direction, within the rounding to whole knots. No condition.
-/
import Derived.Test.YtdfpbojlimeccaaDoorFrame
import Derived.Test.YtdfpbojlimeccaaDoorAwake
import Derived.Test.YtdfpbojlimeccaaDoorWindOf
import Derived.Test.YtdfpbojlimeccaaDoorDirPlain
import Derived.Lib.QuietBelow
namespace Go.Proofs.YtdfpbojlimeccaaDoor.windDirections
set_option linter.unusedVariables false
open Go.ChangeShapes Go.WideShapes Go.ChangeAt Go.RowKit Tr Sq

theorem dir_facts {c s : Int} (s0 : 1 ≤ s) (s1 : s ≤ 400) : ∃ E N v a : Int, ofF c s = (E, N, 0) ∧ vldW E N = true ∧ fromF E N = (a, v, 0) ∧ v ≤ s ∧ s - 2 ≤ v ∧ 0 ≤ a ∧ a < 129600000 ∧ max (diffI (normI c) a) (-diffI (normI c) a) ≤ 20700000 / s := by
  obtain ⟨n0, n1⟩ := normI_range c
  have hn : normI (normI c) = normI c := by unfold normI; omega
  have es : sinI (normI c) = sinI c := by unfold sinI; rw [hn]
  have ec : cosI (normI c) = cosI c := by unfold cosI turnI; rw [hn]
  obtain ⟨⟨d1, d2⟩, d3, d4, d5⟩ := Un.directions n0 n1 s0 s1
  rw [es, ec] at d1 d2 d3 d4 d5
  obtain ⟨r1, r2⟩ := sinI_range c
  obtain ⟨r3, r4⟩ := cosI_range c
  have p1 := sprod4 (x := -s) (by omega) (by omega) r1 r2
  have p2 := sprod4 (x := -s) (by omega) (by omega) r3 r4
  have hv : vldW (shu (-s * sinI c)) (shu (-s * cosI c)) = true := vldW_iff.2 (by unfold shu; omega)
  refine ⟨_, _, _, _, (by unfold ofF; rw [if_neg (by omega)]), hv, (by unfold fromF; rw [if_pos hv, if_neg d3]), d1, by omega, ?_, ?_, by omega⟩
  · exact (atanI_range _ _).1
  · exact (atanI_range _ _).2
set_option maxHeartbeats 4000000 in
set_option maxRecDepth 100000 in
theorem walk (c s : Int) (c0 : -9223372036854775808 ≤ c) (c1 : c ≤ 9223372036854775807) (s0 : -9223372036854775808 ≤ s) (s1 : s ≤ 9223372036854775807) (w : World) (hE : Env w) :
    Calls Tryd.prog 11 #[.int .i64 c, .int .i64 s] w fun e w' => e = .returned (.bool true) ∧ Below w.heap.size w w' := by
  have HE := Lib.hid hE
  clear hE
  by_cases hs : s < 0
  · have O1 := Lib.hid (fun w => of_any c s w c0 c1)
    rw [show ofF c s = (0, 0, 1) by unfold ofF; rw [if_pos (.inl hs)]] at O1
    have g1 : decide (s < 0) = true := by simpa using hs
    go_enter Tryd.func11, Tryd.ntmps11
    go_wp2_with fail
    refine (awake_any _ HE.out).mono ?_
    rintro e w1 ⟨rfl, hb1⟩
    have hw1 := Lib.hid hb1
    clear hb1
    go_wp2_with fail
    refine (O1.out _).mono ?_
    rintro e w2 ⟨rfl, hb2⟩
    have hw2 := Lib.hid (hw1.out.trans (hb2.mono hw1.out.size))
    clear hb2
    go_wp2
    go_ret
    exact ⟨rfl, hw2.out.alloc hw2.out.size _⟩
  by_cases hs2 : 400 < s
  · have O1 := Lib.hid (fun w => of_any c s w c0 c1)
    rw [show ofF c s = (0, 0, 1) by unfold ofF; rw [if_pos (.inr hs2)]] at O1
    have g1 : decide (s < 0) = false := by simpa using hs
    have g2 : decide (400 < s) = true := by simpa using hs2
    go_enter Tryd.func11, Tryd.ntmps11
    go_wp2_with fail
    refine (awake_any _ HE.out).mono ?_
    rintro e w1 ⟨rfl, hb1⟩
    have hw1 := Lib.hid hb1
    clear hb1
    go_wp2_with fail
    refine (O1.out _).mono ?_
    rintro e w2 ⟨rfl, hb2⟩
    have hw2 := Lib.hid (hw1.out.trans (hb2.mono hw1.out.size))
    clear hb2
    go_wp2
    go_ret
    exact ⟨rfl, hw2.out.alloc hw2.out.size _⟩
  have g1 : decide (s < 0) = false := by simpa using hs
  have g2 : decide (400 < s) = false := by simpa using hs2
  obtain ⟨n0, n1⟩ := normI_range c
  by_cases h0 : s = 0
  · subst h0
    have O1 := Lib.hid (fun w => of_any c 0 w c0 c1)
    rw [show ofF c 0 = (0, 0, 0) by unfold ofF; rw [if_neg (by omega)]; simp [shu]] at O1
    have R1 := Lib.hid (fun w => from_any 0 0 w)
    rw [show fromF 0 0 = (0, 0, 0) by decide] at R1
    have V1 := Lib.hid (fun w => valid_any 0 0 w)
    rw [show vldW 0 0 = true by decide] at V1
    go_enter Tryd.func11, Tryd.ntmps11
    go_wp2_with fail
    refine (awake_any _ HE.out).mono ?_
    rintro e w1 ⟨rfl, hb1⟩
    have hw1 := Lib.hid hb1
    clear hb1
    go_wp2_with fail
    refine (O1.out _).mono ?_
    rintro e w2 ⟨rfl, hb2⟩
    have hw2 := Lib.hid (hw1.out.trans (hb2.mono hw1.out.size))
    clear hb2
    go_wp2_with fail
    have q0 : (w2.alloc (.cells #[.int .i64 0, .int .i64 0] 23)).cell? ⟨w2.heap.size, 0, none⟩ = some (.int .i64 0) := by rw [World.cell?_alloc_at _ _ _ _ (by simp)]; rfl
    have q1 : (w2.alloc (.cells #[.int .i64 0, .int .i64 0] 23)).cell? ⟨w2.heap.size, 1, none⟩ = some (.int .i64 0) := by rw [World.cell?_alloc_at _ _ _ _ (by simp)]; rfl
    have hz3 : w2.heap.size < (w2.alloc (.cells #[.int .i64 0, .int .i64 0] 23)).heap.size := by simp
    have hw3 := Lib.hid (hw2.out.alloc hw2.out.size (.cells #[.int .i64 0, .int .i64 0] 23))
    generalize hW3 : w2.alloc (.cells #[.int .i64 0, .int .i64 0] 23) = w3 at *
    clear hW3
    refine (R1.out _).mono ?_
    rintro e w4 ⟨rfl, hb4⟩
    have p0 := (hb4.cell (p := ⟨w2.heap.size, 0, none⟩) hz3).trans q0
    have p1 := (hb4.cell (p := ⟨w2.heap.size, 1, none⟩) hz3).trans q1
    have hz4 : w2.heap.size < w4.heap.size := Nat.lt_of_lt_of_le hz3 hb4.size
    have hw4 := Lib.hid (hw3.out.trans (hb4.mono hw3.out.size))
    clear hb4 q0 q1 hz3 hw3
    go_wp2_with fail
    refine (V1.out _).mono ?_
    rintro e w5 ⟨rfl, hb5⟩
    have q0 := (hb5.cell (p := ⟨w2.heap.size, 0, none⟩) hz4).trans p0
    have q1 := (hb5.cell (p := ⟨w2.heap.size, 1, none⟩) hz4).trans p1
    have hw5 := Lib.hid (hw4.out.trans (hb5.mono hw4.out.size))
    clear hb5 p0 p1 hw4
    go_wp2_with (first
      | (go_at_call 20; refine (norm_any _ _ c0 c1).mono ?_; rintro e w' ⟨rfl, rfl⟩)
      | (go_at_call 22; refine (diff_any _ _ _ (by omega) (by omega) (by omega) (by omega)).mono ?_; rintro e w' ⟨rfl, rfl⟩))
    go_ret
    exact ⟨rfl, hw5.out⟩
  · obtain ⟨E, N, v, a, h1, h2, h3, h4, h5, h6, h7, h8⟩ := dir_facts (c := c) (s := s) (by omega) (by omega)
    have O1 := Lib.hid (fun w => of_any c s w c0 c1)
    rw [h1] at O1
    have R1 := Lib.hid (fun w => from_any E N w)
    rw [h3] at R1
    have V1 := Lib.hid (fun w => valid_any E N w)
    rw [h2] at V1
    have k1 : decide (s < v) = false := by simp; omega
    have k2 : decide (v < s - 2) = false := by simp; omega
    have k3 : (s == 0) = false := by simpa using h0
    have k4 : decide (0 < s) = true := by simp; omega
    have k5 : decide (max (diffI (normI c) a) (-diffI (normI c) a) ≤ 20700000 / s) = true := by simpa using h8
    have k6 : -64800000 ≤ diffI (normI c) a ∧ diffI (normI c) a ≤ 64800000 := by unfold diffI normI; split <;> omega
    obtain ⟨k6, k7⟩ := k6
    clear h1 h2 h3
    go_enter Tryd.func11, Tryd.ntmps11
    go_wp2_with fail
    refine (awake_any _ HE.out).mono ?_
    rintro e w1 ⟨rfl, hb1⟩
    have hw1 := Lib.hid hb1
    clear hb1
    go_wp2_with fail
    refine (O1.out _).mono ?_
    rintro e w2 ⟨rfl, hb2⟩
    have hw2 := Lib.hid (hw1.out.trans (hb2.mono hw1.out.size))
    clear hb2
    go_wp2_with fail
    have q0 : (w2.alloc (.cells #[.int .i64 E, .int .i64 N] 23)).cell? ⟨w2.heap.size, 0, none⟩ = some (.int .i64 E) := by rw [World.cell?_alloc_at _ _ _ _ (by simp)]; rfl
    have q1 : (w2.alloc (.cells #[.int .i64 E, .int .i64 N] 23)).cell? ⟨w2.heap.size, 1, none⟩ = some (.int .i64 N) := by rw [World.cell?_alloc_at _ _ _ _ (by simp)]; rfl
    have hz3 : w2.heap.size < (w2.alloc (.cells #[.int .i64 E, .int .i64 N] 23)).heap.size := by simp
    have hw3 := Lib.hid (hw2.out.alloc hw2.out.size (.cells #[.int .i64 E, .int .i64 N] 23))
    generalize hW3 : w2.alloc (.cells #[.int .i64 E, .int .i64 N] 23) = w3 at *
    clear hW3
    refine (R1.out _).mono ?_
    rintro e w4 ⟨rfl, hb4⟩
    have p0 := (hb4.cell (p := ⟨w2.heap.size, 0, none⟩) hz3).trans q0
    have p1 := (hb4.cell (p := ⟨w2.heap.size, 1, none⟩) hz3).trans q1
    have hz4 : w2.heap.size < w4.heap.size := Nat.lt_of_lt_of_le hz3 hb4.size
    have hw4 := Lib.hid (hw3.out.trans (hb4.mono hw3.out.size))
    clear hb4 q0 q1 hz3 hw3
    go_wp2_with fail
    refine (V1.out _).mono ?_
    rintro e w5 ⟨rfl, hb5⟩
    have q0 := (hb5.cell (p := ⟨w2.heap.size, 0, none⟩) hz4).trans p0
    have q1 := (hb5.cell (p := ⟨w2.heap.size, 1, none⟩) hz4).trans p1
    have hw5 := Lib.hid (hw4.out.trans (hb5.mono hw4.out.size))
    clear hb5 p0 p1 hw4
    go_wp2_with (first
      | (go_at_call 20; refine (norm_any _ _ c0 c1).mono ?_; rintro e w' ⟨rfl, rfl⟩)
      | (go_at_call 22; refine (diff_any _ _ _ (by omega) (by omega) (by omega) (by omega)).mono ?_; rintro e w' ⟨rfl, rfl⟩))
    go_ret
    exact ⟨rfl, hw5.out⟩

/-! ### the row's step -/
theorem contract (H : Type) (enc : TypeId × Value → H) (W : World) (base : Nat) (args : Array Value) (ds gs : List (DataW H)) (before : List MemPlace)
    (hval : ∀ (j : Nat) t v, Tryd.f11.params[j]? = some t → args[j]? = some v → Value.okWide Tryd.prog W .any base t v)
    (hW : DataW.Whole enc Tryd.prog Tryd.f11.params.toList Rows.windDirectionsSpec.vars false W args.toList ds gs before) (hL : laidMetH Tryd.prog Rows.windDirectionsRow.laid W) (hsh : W.ShapedOpen Tryd.prog) :
    Calls Tryd.prog 11 args W fun e W' => ∃ v, e = .returned v ∧ Rows.windDirectionsSpec.post enc Tryd.prog Tryd.f11 false true false false W args v W' := by
  have hW' := hW
  obtain ⟨p, q, hA0, hV, rfl, hfz, hnd⟩ := hW
  have hA : DataW.TrodAll enc Tryd.prog W 0 (fun _ => true) true Tryd.f11.params.toList args.toList ds p := hA0
  rw [Tryd.params11] at hA hval
  obtain ⟨v0, vs0, d0, ds0, p0, q0, hargs, rfl, rfl, h0, r0⟩ := trodAll_cons hA
  obtain ⟨v1, vs1, d1, ds1, p1, q1, rfl, rfl, rfl, h1, r1⟩ := trodAll_cons r0
  obtain ⟨rfl, rfl, rfl⟩ := trodAll_nil r1
  obtain rfl : args = #[v0, v1] := by cases args; simp_all
  obtain ⟨rfl, rfl⟩ := trodVars_none hV
  obtain ⟨a0, rfl, rfl, rfl, w0⟩ := open_int Tryd.underlying2 (hval 0 2 v0 rfl rfl) h0
  obtain ⟨a1, rfl, rfl, rfl, w1⟩ := open_int Tryd.underlying2 (hval 1 2 v1 rfl rfl) h1
  clear hA0
  simp only [List.append_nil] at hW'
  refine (walk a0 a1 (bd64 w0).1 (bd64 w0).2 (bd64 w1).1 (bd64 w1).2 W (env_of hL hsh)).mono fun e W' ⟨he, hb⟩ => ?_
  subst he
  exact ⟨_, rfl, post_of_below (pa := []) (pv := []) hW' (fun _ _ _ => trodAll_cons_mk (shut_bool Tryd.underlying4 _) trodAll_mk0) (fun sp _ => (trodAll_cons_mk (shut_int Tryd.underlying2 w0) (trodAll_cons_mk (shut_int Tryd.underlying2 w1) trodAll_mk0))) (fun _ _ => rfl) rfl
    hb (ok_one (by kernel_rfl) rfl (okWide_bool_mk Tryd.underlying4 _))⟩

theorem reads (os : Os) {H : Type} (enc : TypeId × Value → H) : ∃ places, DataW.whole enc Tryd.prog ((laidWorld os).forCall (fun _ _ => 0) ⟨#[], #[.int .i64 0, .int .i64 0], []⟩).memory Tryd.f11.params.toList Rows.windDirectionsSpec.vars false (#[.int .i64 0, .int .i64 0] : Array Value).toList 8 = some ([.lit (.int .i64 0), .lit (.int .i64 0)], [], places) :=
  ⟨[], by kernel_rfl⟩

set_option maxRecDepth 100000 in
theorem lifted (os : Os) (started : os.Started) (H : Type) (enc : TypeId × Value → H) (F : Stop.Interp) :
    ReturnsInHanded {} Tryd.checked os 11 .any ((OpenSpec.ofChange Rows.windDirectionsSpec).preRow enc Tryd.prog Tryd.f11 Rows.windDirectionsRow.domain false Rows.windDirectionsRow.laid) (((OpenSpec.ofChange Rows.windDirectionsSpec).at F).post enc Tryd.prog Tryd.f11 false true false false) := by
  obtain ⟨places, hx⟩ := reads os enc
  refine returnsInHanded_of_row (C := Tryd.checked) (s := OpenSpec.ofChange Rows.windDirectionsSpec) own started (by kernel_rfl) Tryd.func11
    (witness_row_at (enc := enc) (C := Tryd.checked) false (laidWorld os) #[.int .i64 0, .int .i64 0] rfl (by kernel_rfl) (by kernel_rfl) (by kernel_rfl)
      (OpenSpec.preRow_of_cond 8 hx (by kernel_rfl) (fun k hk => by cases hk) (by kernel_rfl) (laid_met_any os _))) ?_
  intro W base args ds gs before hval hW _ _ _ hL hsh _
  exact contract H enc W base args ds gs before hval hW hL hsh

theorem said : Rows.WindDirectionsSaid :=
  OpenClaim.holds_of_cond 11 Tryd.f11 rfl rfl rfl rfl rfl rfl rfl ⟨rfl, rfl, rfl, rfl, rfl⟩ rfl rfl rfl rfl rfl (by kernel_rfl) Tryd.func11 (by kernel_rfl)
    (of_decide_eq_true (by kernel_rfl)) (by unfold Func.isWrapper; first | (rw [if_pos (by decide +kernel)]; kernel_rfl) | (rw [if_neg (by decide +kernel)]; exact ⟨rfl, rfl⟩))
    (fun os started H enc _ F => by rw [OpenClaim.pre_eq_preRow]; exact lifted os started H enc F)

theorem plain (f : FuncId) (fn : Func) (hf : Tryd.pinned.checked.prog.funcNamed "flightdeck/flightdecklaw13.WindDirections" = some f) (hfn : Tryd.pinned.checked.prog.funcs[f]? = some fn) :
    false = Tryd.pinned.checked.prog.looks [] ∧ ∀ (j : Nat) t, fn.params[j]? = some t → Tryd.pinned.checked.prog.wantsStandIn t = false := by
  obtain rfl : f = 11 := Option.some.inj ((show Tryd.prog.funcNamed "flightdeck/flightdecklaw13.WindDirections" = some 11 by kernel_rfl).symm.trans hf) |>.symm
  obtain rfl : fn = Tryd.f11 := (Option.some.inj (Tryd.func11.symm.trans hfn)).symm
  refine ⟨by kernel_rfl, fun j t ht => ?_⟩
  rw [Tryd.params11] at ht
  have hm := Array.mem_of_getElem? ht
  simp only [List.mem_toArray, List.mem_cons, List.not_mem_nil, or_false] at hm
  rcases hm with rfl | rfl
  · exact (show Tryd.prog.wantsStandIn 2 = false by kernel_rfl)
  · exact (show Tryd.prog.wantsStandIn 2 = false by kernel_rfl)
/-- the law -/
theorem card : Rows.WindDirectionsCardSaid :=
  Claim7.holds_tied_plain_at .later [] _ _ _ _ said (fun _ h => by cases h) (by kernel_rfl) (fun _ h => by cases h) windDirections_row_tie rfl ⟨rfl, rfl⟩ (by kernel_rfl) rfl plain (by kernel_rfl)
end Go.Proofs.YtdfpbojlimeccaaDoor.windDirections

