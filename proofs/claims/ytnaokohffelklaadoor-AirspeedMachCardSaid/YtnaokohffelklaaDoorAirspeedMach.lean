/-
  The law AirspeedMach holds for every input: a true airspeed has at least a Mach number exactly if it is at least the true airspeed of that. No condition.
-/
import Derived.Test.YtnaokohffelklaaDoorStructs30
import Derived.Test.YtnaokohffelklaaDoorAwake30
import Derived.Test.YtnaokohffelklaaDoorCrossRef
namespace Go.Proofs.YtnaokohffelklaaDoor.airspeedMach
set_option linter.unusedVariables false
open Go.ChangeShapes Go.WideShapes Go.ChangeAt Go.RowKit Sq

/-- what Mach and OfMach give together -/
theorem mach_fact (t m alt dev : Int) {x e y f : Int} (hx : machF t alt dev = (x, e)) (hy : ofF m alt dev = (y, f)) :
    (e ≠ 0 ∧ x = 0) ∨ (e = 0 ∧ f ≠ 0 ∧ y = 0) ∨ (e = 0 ∧ f = 0 ∧ (m ≤ x ↔ y ≤ t)) := by
  unfold machF at hx
  unfold ofF at hy
  by_cases hc : witB t 4000 = true
  · rw [if_pos hc] at hx
    by_cases hk : chkI alt dev = 0
    · obtain ⟨ha, hd⟩ := chk_ok hk
      have lt := le_mach (m := m) (tas := t) ha hd
      rw [if_pos hk] at hx hy
      obtain ⟨rfl, rfl⟩ := Prod.mk.inj hx
      by_cases ht : witB m 2000 = true
      · rw [if_pos ht] at hy
        obtain ⟨rfl, rfl⟩ := Prod.mk.inj hy
        exact .inr (.inr ⟨rfl, rfl, lt⟩)
      · rw [if_neg ht] at hy
        obtain ⟨rfl, rfl⟩ := Prod.mk.inj hy
        exact .inr (.inl ⟨rfl, by decide, rfl⟩)
    · rw [if_neg hk] at hx
      obtain ⟨rfl, rfl⟩ := Prod.mk.inj hx
      exact .inl ⟨hk, rfl⟩
  · rw [if_neg hc] at hx
    obtain ⟨rfl, rfl⟩ := Prod.mk.inj hx
    exact .inl ⟨by decide, rfl⟩
set_option maxHeartbeats 8000000 in
set_option maxRecDepth 100000 in
theorem walk (t m alt dev : Int) (t_a : -9223372036854775808 ≤ t) (t_b : t ≤ 9223372036854775807) (m_a : -9223372036854775808 ≤ m) (m_b : m ≤ 9223372036854775807) (alt_a : -9223372036854775808 ≤ alt) (alt_b : alt ≤ 9223372036854775807) (dev_a : -9223372036854775808 ≤ dev) (dev_b : dev ≤ 9223372036854775807) (w : World) (hE : Env w) :
    Calls Tryd.prog 6 #[.int .i64 t, .int .i64 m, .agg #[.int .i64 alt, .int .i64 dev]] w fun e w' => e = .returned (.bool true) ∧ Below w.heap.size w w' := by
  have HE := Lib.hid hE
  clear hE
  obtain ⟨⟨x, e⟩, hx⟩ : ∃ p, machF t alt dev = p := ⟨_, rfl⟩
  obtain ⟨⟨y, f⟩, hy⟩ : ∃ p, ofF m alt dev = p := ⟨_, rfl⟩
  have pf := mach_fact t m alt dev hx hy
  have T := fun w => mach_any t alt dev w
  have C := fun w => of_any m alt dev w
  rw [hx] at T
  rw [hy] at C
  have A0 := Lib.hid T
  have A1 := Lib.hid C
  clear hx hy T C
  rcases pf with ⟨h1, h2⟩ | ⟨h1, h2, h3⟩ | ⟨h1, h2, h3⟩
  · have g1 : (e != 0) = true := by simpa using h1
    have g2 : (x == 0) = true := by simpa using h2
    clear h1 h2
    go_enter Tryd.func6, Tryd.ntmps6
    go_wp2_with fail
    have c0_0_0 : (w.alloc (.cells #[.int .i64 alt, .int .i64 dev] 23)).cell? ⟨w.heap.size, 0, none⟩ = some (.int .i64 alt) := by rw [World.cell?_alloc_at _ _ _ _ (by simp)]; rfl
    have c0_0_1 : (w.alloc (.cells #[.int .i64 alt, .int .i64 dev] 23)).cell? ⟨w.heap.size, 1, none⟩ = some (.int .i64 dev) := by rw [World.cell?_alloc_at _ _ _ _ (by simp)]; rfl
    have z0_0 : w.heap.size < (w.alloc (.cells #[.int .i64 alt, .int .i64 dev] 23)).heap.size := by simp; try omega
    have hw0 := Lib.hid ((Below.refl w.heap.size w).alloc (by simp; try omega) (.cells #[.int .i64 alt, .int .i64 dev] 23))
    generalize hW0 : (w.alloc (.cells #[.int .i64 alt, .int .i64 dev] 23)) = w0 at *
    clear hW0
    refine (awake_any _ (HE.out.below hw0.out)).mono ?_
    rintro e w1 ⟨rfl, hb1⟩
    have c1_0_0 := (hb1.cell (p := ⟨w.heap.size, 0, none⟩) z0_0).trans c0_0_0
    have c1_0_1 := (hb1.cell (p := ⟨w.heap.size, 1, none⟩) z0_0).trans c0_0_1
    have z1_0 : w.heap.size < w1.heap.size := Nat.lt_of_lt_of_le z0_0 hb1.size
    have hw1 := Lib.hid (hw0.out.trans (hb1.mono hw0.out.size))
    clear hb1 hw0 c0_0_0 c0_0_1 z0_0
    go_wp2_with fail
    refine (A0.out _).mono ?_
    rintro e w2 ⟨rfl, hb2⟩
    have c2_0_0 := (hb2.cell (p := ⟨w.heap.size, 0, none⟩) z1_0).trans c1_0_0
    have c2_0_1 := (hb2.cell (p := ⟨w.heap.size, 1, none⟩) z1_0).trans c1_0_1
    have z2_0 : w.heap.size < w2.heap.size := Nat.lt_of_lt_of_le z1_0 hb2.size
    have hw2 := Lib.hid (hw1.out.trans (hb2.mono hw1.out.size))
    clear hb2 hw1 c1_0_0 c1_0_1 z1_0
    go_wp2_with fail
    refine (A1.out _).mono ?_
    rintro e w3 ⟨rfl, hb3⟩
    have c3_0_0 := (hb3.cell (p := ⟨w.heap.size, 0, none⟩) z2_0).trans c2_0_0
    have c3_0_1 := (hb3.cell (p := ⟨w.heap.size, 1, none⟩) z2_0).trans c2_0_1
    have z3_0 : w.heap.size < w3.heap.size := Nat.lt_of_lt_of_le z2_0 hb3.size
    have hw3 := Lib.hid (hw2.out.trans (hb3.mono hw2.out.size))
    clear hb3 hw2 c2_0_0 c2_0_1 z2_0
    go_wp2
    all_goals go_ret
    all_goals exact ⟨rfl, hw3.out⟩
  · have g1 : (e != 0) = false := by simpa using h1
    have g2 : (f != 0) = true := by simpa using h2
    have g4 : (y == 0) = true := by simpa using h3
    clear h1 h2 h3
    go_enter Tryd.func6, Tryd.ntmps6
    go_wp2_with fail
    have c0_0_0 : (w.alloc (.cells #[.int .i64 alt, .int .i64 dev] 23)).cell? ⟨w.heap.size, 0, none⟩ = some (.int .i64 alt) := by rw [World.cell?_alloc_at _ _ _ _ (by simp)]; rfl
    have c0_0_1 : (w.alloc (.cells #[.int .i64 alt, .int .i64 dev] 23)).cell? ⟨w.heap.size, 1, none⟩ = some (.int .i64 dev) := by rw [World.cell?_alloc_at _ _ _ _ (by simp)]; rfl
    have z0_0 : w.heap.size < (w.alloc (.cells #[.int .i64 alt, .int .i64 dev] 23)).heap.size := by simp; try omega
    have hw0 := Lib.hid ((Below.refl w.heap.size w).alloc (by simp; try omega) (.cells #[.int .i64 alt, .int .i64 dev] 23))
    generalize hW0 : (w.alloc (.cells #[.int .i64 alt, .int .i64 dev] 23)) = w0 at *
    clear hW0
    refine (awake_any _ (HE.out.below hw0.out)).mono ?_
    rintro e w1 ⟨rfl, hb1⟩
    have c1_0_0 := (hb1.cell (p := ⟨w.heap.size, 0, none⟩) z0_0).trans c0_0_0
    have c1_0_1 := (hb1.cell (p := ⟨w.heap.size, 1, none⟩) z0_0).trans c0_0_1
    have z1_0 : w.heap.size < w1.heap.size := Nat.lt_of_lt_of_le z0_0 hb1.size
    have hw1 := Lib.hid (hw0.out.trans (hb1.mono hw0.out.size))
    clear hb1 hw0 c0_0_0 c0_0_1 z0_0
    go_wp2_with fail
    refine (A0.out _).mono ?_
    rintro e w2 ⟨rfl, hb2⟩
    have c2_0_0 := (hb2.cell (p := ⟨w.heap.size, 0, none⟩) z1_0).trans c1_0_0
    have c2_0_1 := (hb2.cell (p := ⟨w.heap.size, 1, none⟩) z1_0).trans c1_0_1
    have z2_0 : w.heap.size < w2.heap.size := Nat.lt_of_lt_of_le z1_0 hb2.size
    have hw2 := Lib.hid (hw1.out.trans (hb2.mono hw1.out.size))
    clear hb2 hw1 c1_0_0 c1_0_1 z1_0
    go_wp2_with fail
    refine (A1.out _).mono ?_
    rintro e w3 ⟨rfl, hb3⟩
    have c3_0_0 := (hb3.cell (p := ⟨w.heap.size, 0, none⟩) z2_0).trans c2_0_0
    have c3_0_1 := (hb3.cell (p := ⟨w.heap.size, 1, none⟩) z2_0).trans c2_0_1
    have z3_0 : w.heap.size < w3.heap.size := Nat.lt_of_lt_of_le z2_0 hb3.size
    have hw3 := Lib.hid (hw2.out.trans (hb3.mono hw2.out.size))
    clear hb3 hw2 c2_0_0 c2_0_1 z2_0
    go_wp2
    all_goals go_ret
    all_goals exact ⟨rfl, hw3.out⟩
  · have g1 : (e != 0) = false := by simpa using h1
    have g2 : (f != 0) = false := by simpa using h2
    have g4 : decide (m ≤ x) = decide (y ≤ t) := by rw [decide_eq_decide]; exact h3
    clear h1 h2 h3
    go_enter Tryd.func6, Tryd.ntmps6
    go_wp2_with fail
    have c0_0_0 : (w.alloc (.cells #[.int .i64 alt, .int .i64 dev] 23)).cell? ⟨w.heap.size, 0, none⟩ = some (.int .i64 alt) := by rw [World.cell?_alloc_at _ _ _ _ (by simp)]; rfl
    have c0_0_1 : (w.alloc (.cells #[.int .i64 alt, .int .i64 dev] 23)).cell? ⟨w.heap.size, 1, none⟩ = some (.int .i64 dev) := by rw [World.cell?_alloc_at _ _ _ _ (by simp)]; rfl
    have z0_0 : w.heap.size < (w.alloc (.cells #[.int .i64 alt, .int .i64 dev] 23)).heap.size := by simp; try omega
    have hw0 := Lib.hid ((Below.refl w.heap.size w).alloc (by simp; try omega) (.cells #[.int .i64 alt, .int .i64 dev] 23))
    generalize hW0 : (w.alloc (.cells #[.int .i64 alt, .int .i64 dev] 23)) = w0 at *
    clear hW0
    refine (awake_any _ (HE.out.below hw0.out)).mono ?_
    rintro e w1 ⟨rfl, hb1⟩
    have c1_0_0 := (hb1.cell (p := ⟨w.heap.size, 0, none⟩) z0_0).trans c0_0_0
    have c1_0_1 := (hb1.cell (p := ⟨w.heap.size, 1, none⟩) z0_0).trans c0_0_1
    have z1_0 : w.heap.size < w1.heap.size := Nat.lt_of_lt_of_le z0_0 hb1.size
    have hw1 := Lib.hid (hw0.out.trans (hb1.mono hw0.out.size))
    clear hb1 hw0 c0_0_0 c0_0_1 z0_0
    go_wp2_with fail
    refine (A0.out _).mono ?_
    rintro e w2 ⟨rfl, hb2⟩
    have c2_0_0 := (hb2.cell (p := ⟨w.heap.size, 0, none⟩) z1_0).trans c1_0_0
    have c2_0_1 := (hb2.cell (p := ⟨w.heap.size, 1, none⟩) z1_0).trans c1_0_1
    have z2_0 : w.heap.size < w2.heap.size := Nat.lt_of_lt_of_le z1_0 hb2.size
    have hw2 := Lib.hid (hw1.out.trans (hb2.mono hw1.out.size))
    clear hb2 hw1 c1_0_0 c1_0_1 z1_0
    go_wp2_with fail
    refine (A1.out _).mono ?_
    rintro e w3 ⟨rfl, hb3⟩
    have c3_0_0 := (hb3.cell (p := ⟨w.heap.size, 0, none⟩) z2_0).trans c2_0_0
    have c3_0_1 := (hb3.cell (p := ⟨w.heap.size, 1, none⟩) z2_0).trans c2_0_1
    have z3_0 : w.heap.size < w3.heap.size := Nat.lt_of_lt_of_le z2_0 hb3.size
    have hw3 := Lib.hid (hw2.out.trans (hb3.mono hw2.out.size))
    clear hb3 hw2 c2_0_0 c2_0_1 z2_0
    go_wp2
    all_goals go_ret
    all_goals exact ⟨rfl, hw3.out⟩

/-! ### the row's step -/
set_option maxRecDepth 100000 in
theorem contract (H : Type) (enc : TypeId × Value → H) (W : World) (base : Nat) (args : Array Value) (ds gs : List (DataW H)) (before : List MemPlace)
    (hval : ∀ (j : Nat) t v, Tryd.f6.params[j]? = some t → args[j]? = some v → Value.okWide Tryd.prog W .any base t v)
    (hW : DataW.Whole enc Tryd.prog Tryd.f6.params.toList Rows.airspeedMachSpec.vars false W args.toList ds gs before) (hL : laidMetH Tryd.prog Rows.airspeedMachRow.laid W) (hsh : W.ShapedOpen Tryd.prog) :
    Calls Tryd.prog 6 args W fun e W' => ∃ v, e = .returned v ∧ Rows.airspeedMachSpec.post enc Tryd.prog Tryd.f6 false true false false W args v W' := by
  have hW' := hW
  obtain ⟨p, q, hA0, hV, rfl, hfz, hnd⟩ := hW
  have hA : DataW.TrodAll enc Tryd.prog W 0 (fun _ => true) true Tryd.f6.params.toList args.toList ds p := hA0
  rw [Tryd.params6] at hA hval
  obtain ⟨v0, vs0, d0, ds0, p0, q0, hargs, rfl, rfl, h0, r0⟩ := trodAll_cons hA
  obtain ⟨v1, vs1, d1, ds1, p1, q1, rfl, rfl, rfl, h1, r1⟩ := trodAll_cons r0
  obtain ⟨v2, vs2, d2, ds2, p2, q2, rfl, rfl, rfl, h2, r2⟩ := trodAll_cons r1
  obtain ⟨rfl, rfl, rfl⟩ := trodAll_nil r2
  obtain rfl : args = #[v0, v1, v2] := by cases args; simp_all
  obtain ⟨rfl, rfl⟩ := trodVars_none hV
  obtain ⟨a0, rfl, rfl, rfl, w0⟩ := open_int Tryd.underlying2 (hval 0 2 v0 rfl rfl) h0
  obtain ⟨a1, rfl, rfl, rfl, w1⟩ := open_int Tryd.underlying2 (hval 1 2 v1 rfl rfl) h1
  obtain ⟨x2_0, x2_1, rfl, rfl, rfl, w2_0, w2_1⟩ := open_air (hval 2 23 v2 rfl rfl) h2
  clear hA0
  simp only [List.append_nil] at hW'
  refine (walk a0 a1 x2_0 x2_1 (bd64 w0).1 (bd64 w0).2 (bd64 w1).1 (bd64 w1).2 (bd64 w2_0).1 (bd64 w2_0).2 (bd64 w2_1).1 (bd64 w2_1).2 W (env_of hL hsh)).mono fun e W' ⟨he, hb⟩ => ?_
  subst he
  exact ⟨_, rfl, post_of_below (pa := []) (pv := []) hW' (fun _ _ _ => trodAll_cons_mk (shut_bool Tryd.underlying4 _) trodAll_mk0) (fun sp _ => (trodAll_cons_mk (shut_int Tryd.underlying2 w0) (trodAll_cons_mk (shut_int Tryd.underlying2 w1) (trodAll_cons_mk (shut_air w2_0 w2_1) trodAll_mk0)))) (fun _ _ => rfl) rfl
    hb (ok_one (by kernel_rfl) rfl (okWide_bool_mk Tryd.underlying4 _))⟩

theorem reads (os : Os) {H : Type} (enc : TypeId × Value → H) : ∃ places, DataW.whole enc Tryd.prog ((laidWorld os).forCall (fun _ _ => 0) ⟨#[], #[.int .i64 0, .int .i64 0, .agg #[.int .i64 0, .int .i64 0]], []⟩).memory Tryd.f6.params.toList Rows.airspeedMachSpec.vars false (#[.int .i64 0, .int .i64 0, .agg #[.int .i64 0, .int .i64 0]] : Array Value).toList 8 = some ([.lit (.int .i64 0), .lit (.int .i64 0), .agg [.lit (.int .i64 0), .lit (.int .i64 0)]], [], places) :=
  ⟨[], by kernel_rfl⟩

set_option maxRecDepth 100000 in
theorem lifted (os : Os) (started : os.Started) (H : Type) (enc : TypeId × Value → H) (F : Stop.Interp) :
    ReturnsInHanded {} Tryd.checked os 6 .any ((OpenSpec.ofChange Rows.airspeedMachSpec).preRow enc Tryd.prog Tryd.f6 Rows.airspeedMachRow.domain false Rows.airspeedMachRow.laid) (((OpenSpec.ofChange Rows.airspeedMachSpec).at F).post enc Tryd.prog Tryd.f6 false true false false) := by
  obtain ⟨places, hx⟩ := reads os enc
  refine returnsInHanded_of_row (C := Tryd.checked) (s := OpenSpec.ofChange Rows.airspeedMachSpec) own started (by kernel_rfl) Tryd.func6
    (witness_row_at (enc := enc) (C := Tryd.checked) false (laidWorld os) #[.int .i64 0, .int .i64 0, .agg #[.int .i64 0, .int .i64 0]] rfl (by kernel_rfl) (by kernel_rfl) (by kernel_rfl)
      (OpenSpec.preRow_of_cond 8 hx (by kernel_rfl) (fun k hk => by cases hk) (by kernel_rfl) (laid_met_any os _))) ?_
  intro W base args ds gs before hval hW _ _ _ hL hsh _
  exact contract H enc W base args ds gs before hval hW hL hsh

theorem said : Rows.AirspeedMachSaid :=
  OpenClaim.holds_of_cond 6 Tryd.f6 rfl rfl rfl rfl rfl rfl rfl ⟨rfl, rfl, rfl, rfl, rfl⟩ rfl rfl rfl rfl rfl (by kernel_rfl) Tryd.func6 (by kernel_rfl)
    (of_decide_eq_true (by kernel_rfl)) (by unfold Func.isWrapper; first | (rw [if_pos (by decide +kernel)]; kernel_rfl) | (rw [if_neg (by decide +kernel)]; exact ⟨rfl, rfl⟩))
    (fun os started H enc _ F => by rw [OpenClaim.pre_eq_preRow]; exact lifted os started H enc F)

theorem plain (f : FuncId) (fn : Func) (hf : Tryd.pinned.checked.prog.funcNamed "flightdeck/flightdecklaw30.AirspeedMach" = some f) (hfn : Tryd.pinned.checked.prog.funcs[f]? = some fn) :
    false = Tryd.pinned.checked.prog.looks [] ∧ ∀ (j : Nat) t, fn.params[j]? = some t → Tryd.pinned.checked.prog.wantsStandIn t = false := by
  obtain rfl : f = 6 := Option.some.inj ((show Tryd.prog.funcNamed "flightdeck/flightdecklaw30.AirspeedMach" = some 6 by kernel_rfl).symm.trans hf) |>.symm
  obtain rfl : fn = Tryd.f6 := (Option.some.inj (Tryd.func6.symm.trans hfn)).symm
  refine ⟨by kernel_rfl, fun j t ht => ?_⟩
  rw [Tryd.params6] at ht
  have hm := Array.mem_of_getElem? ht
  simp only [List.mem_toArray, List.mem_cons, List.not_mem_nil, or_false] at hm
  rcases hm with rfl | rfl | rfl
  · exact (show Tryd.prog.wantsStandIn 2 = false by kernel_rfl)
  · exact (show Tryd.prog.wantsStandIn 2 = false by kernel_rfl)
  · exact (show Tryd.prog.wantsStandIn 23 = false by kernel_rfl)
/-- the law -/
theorem card : Rows.AirspeedMachCardSaid :=
  Claim7.holds_tied_plain_at .later [] _ _ _ _ said (fun _ h => by cases h) (by kernel_rfl) (fun _ h => by cases h) airspeedMach_row_tie rfl ⟨rfl, rfl⟩ (by kernel_rfl) rfl plain (by kernel_rfl)
end Go.Proofs.YtnaokohffelklaaDoor.airspeedMach
