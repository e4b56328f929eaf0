/-
  The law AirspeedTrue holds for every input: true airspeeds and Mach numbers are the specified ones. No condition.
-/
import Derived.Test.YtnaokohffelklaaDoorStructs30
import Derived.Test.YtnaokohffelklaaDoorAwake30
import Derived.Test.YtnaokohffelklaaDoorCrossRef
namespace Go.Proofs.YtnaokohffelklaaDoor.airspeedTrue
set_option linter.unusedVariables false
open Go.ChangeShapes Go.WideShapes Go.ChangeAt Go.RowKit Sq

set_option maxHeartbeats 8000000 in
set_option maxRecDepth 100000 in
theorem walk (v m alt dev : Int) (v_a : -9223372036854775808 ≤ v) (v_b : v ≤ 9223372036854775807) (m_a : -9223372036854775808 ≤ m) (m_b : m ≤ 9223372036854775807) (alt_a : -9223372036854775808 ≤ alt) (alt_b : alt ≤ 9223372036854775807) (dev_a : -9223372036854775808 ≤ dev) (dev_b : dev ≤ 9223372036854775807) (w : World) (hE : Env w) :
    Calls Tryd.prog 3 #[.int .i64 v, .int .i64 m, .agg #[.int .i64 alt, .int .i64 dev]] w fun e w' => e = .returned (.bool true) ∧ Below w.heap.size w w' := by
  have HE := Lib.hid hE
  clear hE
  have A0 := Lib.hid fun w => tas_any v alt dev w
  have B0 := Lib.hid fun w => rtas_any v alt dev w
  generalize tasF v alt dev = p0 at *
  obtain ⟨x0, e0⟩ := p0
  have A1 := Lib.hid fun w => mach_any v alt dev w
  have B1 := Lib.hid fun w => rmach_any v alt dev w
  generalize machF v alt dev = p1 at *
  obtain ⟨x1, e1⟩ := p1
  have A2 := Lib.hid fun w => sched_any v m alt dev w
  have B2 := Lib.hid fun w => rsched_any v m alt dev w
  generalize schF v m alt dev = p2 at *
  obtain ⟨x2, e2⟩ := p2
  go_enter Tryd.func3, Tryd.ntmps3
  go_wp2_with fail
  have c0_0_0 : (w.alloc (.cells #[.int .i64 alt, .int .i64 dev] 23)).cell? ⟨w.heap.size, 0, none⟩ = some (.int .i64 alt) := by rw [World.cell?_alloc_at _ _ _ _ (by simp)]; rfl
  have c0_0_1 : (w.alloc (.cells #[.int .i64 alt, .int .i64 dev] 23)).cell? ⟨w.heap.size, 1, none⟩ = some (.int .i64 dev) := by rw [World.cell?_alloc_at _ _ _ _ (by simp)]; rfl
  have z0_0 : w.heap.size < (w.alloc (.cells #[.int .i64 alt, .int .i64 dev] 23)).heap.size := by simp; try omega
  have hw0 := Lib.hid ((Below.refl w.heap.size w).alloc (by simp; try omega) (.cells #[.int .i64 alt, .int .i64 dev] 23))
  generalize hW0 : (w.alloc (.cells #[.int .i64 alt, .int .i64 dev] 23)) = w0 at *
  clear hW0
  refine (awake_any _ (HE.out.below hw0.out)).mono ?_
  rintro e w1 ⟨rfl, hb1⟩
  have c1_0_0 := (hb1.cell (p := ⟨w.heap.size, 0, none⟩) z0_0).trans c0_0_0
  have c1_0_1 := (hb1.cell (p := ⟨w.heap.size, 1, none⟩) z0_0).trans c0_0_1
  have z1_0 : w.heap.size < w1.heap.size := Nat.lt_of_lt_of_le z0_0 hb1.size
  have hw1 := Lib.hid (hw0.out.trans (hb1.mono hw0.out.size))
  clear hb1 hw0 c0_0_0 c0_0_1 z0_0
  go_wp2_with fail
  refine (A0.out _).mono ?_
  rintro e w2 ⟨rfl, hb2⟩
  have c2_0_0 := (hb2.cell (p := ⟨w.heap.size, 0, none⟩) z1_0).trans c1_0_0
  have c2_0_1 := (hb2.cell (p := ⟨w.heap.size, 1, none⟩) z1_0).trans c1_0_1
  have z2_0 : w.heap.size < w2.heap.size := Nat.lt_of_lt_of_le z1_0 hb2.size
  have hw2 := Lib.hid (hw1.out.trans (hb2.mono hw1.out.size))
  clear hb2 hw1 c1_0_0 c1_0_1 z1_0
  go_wp2_with fail
  refine (B0.out _).mono ?_
  rintro e w3 ⟨rfl, hb3⟩
  have c3_0_0 := (hb3.cell (p := ⟨w.heap.size, 0, none⟩) z2_0).trans c2_0_0
  have c3_0_1 := (hb3.cell (p := ⟨w.heap.size, 1, none⟩) z2_0).trans c2_0_1
  have z3_0 : w.heap.size < w3.heap.size := Nat.lt_of_lt_of_le z2_0 hb3.size
  have hw3 := Lib.hid (hw2.out.trans (hb3.mono hw2.out.size))
  clear hb3 hw2 c2_0_0 c2_0_1 z2_0
  go_wp2_with fail
  refine (A1.out _).mono ?_
  rintro e w4 ⟨rfl, hb4⟩
  have c4_0_0 := (hb4.cell (p := ⟨w.heap.size, 0, none⟩) z3_0).trans c3_0_0
  have c4_0_1 := (hb4.cell (p := ⟨w.heap.size, 1, none⟩) z3_0).trans c3_0_1
  have z4_0 : w.heap.size < w4.heap.size := Nat.lt_of_lt_of_le z3_0 hb4.size
  have hw4 := Lib.hid (hw3.out.trans (hb4.mono hw3.out.size))
  clear hb4 hw3 c3_0_0 c3_0_1 z3_0
  go_wp2_with fail
  refine (B1.out _).mono ?_
  rintro e w5 ⟨rfl, hb5⟩
  have c5_0_0 := (hb5.cell (p := ⟨w.heap.size, 0, none⟩) z4_0).trans c4_0_0
  have c5_0_1 := (hb5.cell (p := ⟨w.heap.size, 1, none⟩) z4_0).trans c4_0_1
  have z5_0 : w.heap.size < w5.heap.size := Nat.lt_of_lt_of_le z4_0 hb5.size
  have hw5 := Lib.hid (hw4.out.trans (hb5.mono hw4.out.size))
  clear hb5 hw4 c4_0_0 c4_0_1 z4_0
  go_wp2_with fail
  refine (A2.out _).mono ?_
  rintro e w6 ⟨rfl, hb6⟩
  have c6_0_0 := (hb6.cell (p := ⟨w.heap.size, 0, none⟩) z5_0).trans c5_0_0
  have c6_0_1 := (hb6.cell (p := ⟨w.heap.size, 1, none⟩) z5_0).trans c5_0_1
  have z6_0 : w.heap.size < w6.heap.size := Nat.lt_of_lt_of_le z5_0 hb6.size
  have hw6 := Lib.hid (hw5.out.trans (hb6.mono hw5.out.size))
  clear hb6 hw5 c5_0_0 c5_0_1 z5_0
  go_wp2_with fail
  refine (B2.out _).mono ?_
  rintro e w7 ⟨rfl, hb7⟩
  have c7_0_0 := (hb7.cell (p := ⟨w.heap.size, 0, none⟩) z6_0).trans c6_0_0
  have c7_0_1 := (hb7.cell (p := ⟨w.heap.size, 1, none⟩) z6_0).trans c6_0_1
  have z7_0 : w.heap.size < w7.heap.size := Nat.lt_of_lt_of_le z6_0 hb7.size
  have hw7 := Lib.hid (hw6.out.trans (hb7.mono hw6.out.size))
  clear hb7 hw6 c6_0_0 c6_0_1 z6_0
  go_wp2
  go_ret
  exact ⟨rfl, hw7.out⟩
/-! ### the row's step -/
set_option maxRecDepth 100000 in
theorem contract (H : Type) (enc : TypeId × Value → H) (W : World) (base : Nat) (args : Array Value) (ds gs : List (DataW H)) (before : List MemPlace)
    (hval : ∀ (j : Nat) t v, Tryd.f3.params[j]? = some t → args[j]? = some v → Value.okWide Tryd.prog W .any base t v)
    (hW : DataW.Whole enc Tryd.prog Tryd.f3.params.toList Rows.airspeedTrueSpec.vars false W args.toList ds gs before) (hL : laidMetH Tryd.prog Rows.airspeedTrueRow.laid W) (hsh : W.ShapedOpen Tryd.prog) :
    Calls Tryd.prog 3 args W fun e W' => ∃ v, e = .returned v ∧ Rows.airspeedTrueSpec.post enc Tryd.prog Tryd.f3 false true false false W args v W' := by
  have hW' := hW
  obtain ⟨p, q, hA0, hV, rfl, hfz, hnd⟩ := hW
  have hA : DataW.TrodAll enc Tryd.prog W 0 (fun _ => true) true Tryd.f3.params.toList args.toList ds p := hA0
  rw [Tryd.params3] at hA hval
  obtain ⟨v0, vs0, d0, ds0, p0, q0, hargs, rfl, rfl, h0, r0⟩ := trodAll_cons hA
  obtain ⟨v1, vs1, d1, ds1, p1, q1, rfl, rfl, rfl, h1, r1⟩ := trodAll_cons r0
  obtain ⟨v2, vs2, d2, ds2, p2, q2, rfl, rfl, rfl, h2, r2⟩ := trodAll_cons r1
  obtain ⟨rfl, rfl, rfl⟩ := trodAll_nil r2
  obtain rfl : args = #[v0, v1, v2] := by cases args; simp_all
  obtain ⟨rfl, rfl⟩ := trodVars_none hV
  obtain ⟨a0, rfl, rfl, rfl, w0⟩ := open_int Tryd.underlying2 (hval 0 2 v0 rfl rfl) h0
  obtain ⟨a1, rfl, rfl, rfl, w1⟩ := open_int Tryd.underlying2 (hval 1 2 v1 rfl rfl) h1
  obtain ⟨x2_0, x2_1, rfl, rfl, rfl, w2_0, w2_1⟩ := open_air (hval 2 23 v2 rfl rfl) h2
  clear hA0
  simp only [List.append_nil] at hW'
  refine (walk a0 a1 x2_0 x2_1 (bd64 w0).1 (bd64 w0).2 (bd64 w1).1 (bd64 w1).2 (bd64 w2_0).1 (bd64 w2_0).2 (bd64 w2_1).1 (bd64 w2_1).2 W (env_of hL hsh)).mono fun e W' ⟨he, hb⟩ => ?_
  subst he
  exact ⟨_, rfl, post_of_below (pa := []) (pv := []) hW' (fun _ _ _ => trodAll_cons_mk (shut_bool Tryd.underlying4 _) trodAll_mk0) (fun sp _ => (trodAll_cons_mk (shut_int Tryd.underlying2 w0) (trodAll_cons_mk (shut_int Tryd.underlying2 w1) (trodAll_cons_mk (shut_air w2_0 w2_1) trodAll_mk0)))) (fun _ _ => rfl) rfl
    hb (ok_one (by kernel_rfl) rfl (okWide_bool_mk Tryd.underlying4 _))⟩

theorem reads (os : Os) {H : Type} (enc : TypeId × Value → H) : ∃ places, DataW.whole enc Tryd.prog ((laidWorld os).forCall (fun _ _ => 0) ⟨#[], #[.int .i64 0, .int .i64 0, .agg #[.int .i64 0, .int .i64 0]], []⟩).memory Tryd.f3.params.toList Rows.airspeedTrueSpec.vars false (#[.int .i64 0, .int .i64 0, .agg #[.int .i64 0, .int .i64 0]] : Array Value).toList 8 = some ([.lit (.int .i64 0), .lit (.int .i64 0), .agg [.lit (.int .i64 0), .lit (.int .i64 0)]], [], places) :=
  ⟨[], by kernel_rfl⟩

set_option maxRecDepth 100000 in
theorem lifted (os : Os) (started : os.Started) (H : Type) (enc : TypeId × Value → H) (F : Stop.Interp) :
    ReturnsInHanded {} Tryd.checked os 3 .any ((OpenSpec.ofChange Rows.airspeedTrueSpec).preRow enc Tryd.prog Tryd.f3 Rows.airspeedTrueRow.domain false Rows.airspeedTrueRow.laid) (((OpenSpec.ofChange Rows.airspeedTrueSpec).at F).post enc Tryd.prog Tryd.f3 false true false false) := by
  obtain ⟨places, hx⟩ := reads os enc
  refine returnsInHanded_of_row (C := Tryd.checked) (s := OpenSpec.ofChange Rows.airspeedTrueSpec) own started (by kernel_rfl) Tryd.func3
    (witness_row_at (enc := enc) (C := Tryd.checked) false (laidWorld os) #[.int .i64 0, .int .i64 0, .agg #[.int .i64 0, .int .i64 0]] rfl (by kernel_rfl) (by kernel_rfl) (by kernel_rfl)
      (OpenSpec.preRow_of_cond 8 hx (by kernel_rfl) (fun k hk => by cases hk) (by kernel_rfl) (laid_met_any os _))) ?_
  intro W base args ds gs before hval hW _ _ _ hL hsh _
  exact contract H enc W base args ds gs before hval hW hL hsh

theorem said : Rows.AirspeedTrueSaid :=
  OpenClaim.holds_of_cond 3 Tryd.f3 rfl rfl rfl rfl rfl rfl rfl ⟨rfl, rfl, rfl, rfl, rfl⟩ rfl rfl rfl rfl rfl (by kernel_rfl) Tryd.func3 (by kernel_rfl)
    (of_decide_eq_true (by kernel_rfl)) (by unfold Func.isWrapper; first | (rw [if_pos (by decide +kernel)]; kernel_rfl) | (rw [if_neg (by decide +kernel)]; exact ⟨rfl, rfl⟩))
    (fun os started H enc _ F => by rw [OpenClaim.pre_eq_preRow]; exact lifted os started H enc F)

theorem plain (f : FuncId) (fn : Func) (hf : Tryd.pinned.checked.prog.funcNamed "flightdeck/flightdecklaw30.AirspeedTrue" = some f) (hfn : Tryd.pinned.checked.prog.funcs[f]? = some fn) :
    false = Tryd.pinned.checked.prog.looks [] ∧ ∀ (j : Nat) t, fn.params[j]? = some t → Tryd.pinned.checked.prog.wantsStandIn t = false := by
  obtain rfl : f = 3 := Option.some.inj ((show Tryd.prog.funcNamed "flightdeck/flightdecklaw30.AirspeedTrue" = some 3 by kernel_rfl).symm.trans hf) |>.symm
  obtain rfl : fn = Tryd.f3 := (Option.some.inj (Tryd.func3.symm.trans hfn)).symm
  refine ⟨by kernel_rfl, fun j t ht => ?_⟩
  rw [Tryd.params3] at ht
  have hm := Array.mem_of_getElem? ht
  simp only [List.mem_toArray, List.mem_cons, List.not_mem_nil, or_false] at hm
  rcases hm with rfl | rfl | rfl
  · exact (show Tryd.prog.wantsStandIn 2 = false by kernel_rfl)
  · exact (show Tryd.prog.wantsStandIn 2 = false by kernel_rfl)
  · exact (show Tryd.prog.wantsStandIn 23 = false by kernel_rfl)
/-- the law -/
theorem card : Rows.AirspeedTrueCardSaid :=
  Claim7.holds_tied_plain_at .later [] _ _ _ _ said (fun _ h => by cases h) (by kernel_rfl) (fun _ h => by cases h) airspeedTrue_row_tie rfl ⟨rfl, rfl⟩ (by kernel_rfl) rfl plain (by kernel_rfl)
end Go.Proofs.YtnaokohffelklaaDoor.airspeedTrue
