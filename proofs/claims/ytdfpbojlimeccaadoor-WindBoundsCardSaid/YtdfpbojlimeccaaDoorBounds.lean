/-
  The law WindBounds holds for every input: the ground speed differs from the true airspeed by the component along the course, less at most the size of the component across it, and the heading is turned into the wind. No condition.
-/
import Derived.Test.YtdfpbojlimeccaaDoorFrame
import Derived.Test.YtdfpbojlimeccaaDoorAwake
namespace Go.Proofs.YtdfpbojlimeccaaDoor.windBounds
set_option linter.unusedVariables false
open Go.ChangeShapes Go.WideShapes Go.ChangeAt Go.RowKit Tr Sq

/-! ### the plain law -/
theorem top_ge1 {m n : Int} (hm : 0 ≤ m) (hn : 0 ≤ n) (h : 52 * m ≤ 1073741824 * n) : 1 ≤ topI m n := by
  have t := topI_top hm hn
  rcases Int.lt_or_le (topI m n) 1 with h1 | h1
  · exfalso
    refine t.no 1 (by have := t.lo; omega) (by decide) ?_
    have e1 : sinI 1 = 52 := by decide +kernel
    have e2 : cosI 1 = 1073741824 := by decide +kernel
    show sinI 1 * m ≤ cosI 1 * n
    rw [e1, e2]; exact h
  · exact h1
theorem top_zero {m : Int} (hm : 1 ≤ m) : topI m 0 = 0 := by
  have t := topI_top (m := m) (n := 0) (by omega) (Int.le_refl 0)
  have y : sinI (topI m 0) * m ≤ cosI (topI m 0) * 0 := t.yes
  rcases Int.lt_or_le 0 (topI m 0) with h | h
  · exfalso
    have e1 : sineI 1 = 52 := by decide +kernel
    have := sineI_le (a := 1) (b := topI m 0) (by decide) h t.hi
    rw [sinI_oct t.lo t.hi, Int.mul_zero] at y
    have := Int.mul_le_mul_of_nonneg_right (show 52 ≤ sineI (topI m 0) by omega) (show 0 ≤ m by omega)
    omega
  · have := t.lo; omega
/-- the drift, from across and the root -/
theorem drift {ac r : Int} (h0 : -819200 ≤ ac) (h1 : ac ≤ 819200) (h2 : 1 ≤ r) (h3 : r ≤ 4096000) :
    (ac < 0 ∧ 0 < diffI 0 (atanI (-ac) r) ∧ diffI 0 (atanI (-ac) r) < 32400000) ∨ (ac = 0 ∧ diffI 0 (atanI (-ac) r) = 0) ∨ (0 < ac ∧ diffI 0 (atanI (-ac) r) < 0 ∧ -32400000 < diffI 0 (atanI (-ac) r)) := by
  have hr : absI r = r := absI_pos (by omega)
  have dpos : ∀ q, 0 ≤ q → q ≤ 64800000 → diffI 0 q = q := by
    intro q a b
    have e : normI (normI q - normI 0) = q := by unfold normI; omega
    unfold diffI; rw [e, if_neg (by omega)]
  have dneg : ∀ q, 0 < q → q < 64800000 → diffI 0 (normI (-q)) = -q := by
    intro q a b
    have e : normI (normI (normI (-q)) - normI 0) = 129600000 - q := by unfold normI; omega
    unfold diffI; rw [e, if_pos (by omega)]; omega
  have Q : ∀ a, absI (-ac) = a → 1 ≤ a → a ≤ 819200 → 0 < atanQ (-ac) r ∧ atanQ (-ac) r < 32400000 := by
    intro a ha a1 a2
    rcases Int.lt_or_le r a with h | h
    · have e := atanQ_lt (y := -ac) (x := r) (by rw [ha, hr]; exact h)
      rw [ha, hr] at e
      have t := top_ge1 (m := a) (n := r) (by omega) (by omega) (by omega)
      have b := (top_bd (m := a) (n := r) (by omega) (by omega)).2
      omega
    · have e := atanQ_ge (y := -ac) (x := r) (by rw [ha, hr]; exact h)
      rw [ha, hr] at e
      have t := top_ge1 (m := r) (n := a) (by omega) (by omega) (by omega)
      have b := (top_bd (m := r) (n := a) (by omega) (by omega)).2
      omega
  rcases Int.lt_trichotomy ac 0 with h | h | h
  · left
    obtain ⟨q0, q1⟩ := Q (-ac) (absI_pos (by omega)) (by omega) (by omega)
    have e : atanI (-ac) r = atanQ (-ac) r := by unfold atanI; rw [if_pos (by omega), if_pos (by omega)]
    rw [e, dpos _ (by omega) (by omega)]
    exact ⟨h, q0, q1⟩
  · right; left
    subst h
    have e : atanI (-0) r = topI r 0 := by
      have z : absI (-0) = 0 := by decide
      unfold atanI; rw [if_pos (by omega), if_pos (by omega), ← atanQ_ge (by rw [z, hr]; omega), z, hr]
    rw [e, top_zero h2]
    exact ⟨rfl, dpos 0 (by decide) (by decide)⟩
  · right; right
    obtain ⟨q0, q1⟩ := Q ac (by rw [absI_neg (by omega)]; omega) (by omega) (by omega)
    have e : atanI (-ac) r = normI (-atanQ (-ac) r) := by unfold atanI; rw [if_pos (by omega), if_neg (by omega)]
    rw [e, dneg _ q0 (by omega)]
    exact ⟨h, by omega, by omega⟩

/-- what Ground comes to -/
theorem ground_cases (c t x n : Int) : (groundF c t x n = (0, 0, 1) ∨ groundF c t x n = (0, 0, 10)) ∨
    (vldW x n = true ∧ 1 ≤ t ∧ t ≤ 4000 ∧ ∃ r d : Int, groundF c t x n = (alongI c x n + r, d, 0) ∧ 1 ≤ r ∧ r ≤ t * 1024 ∧ t * 1024 - max (acrossI c x n) (-acrossI c x n) ≤ r ∧ -819200 ≤ alongI c x n ∧ alongI c x n ≤ 819200 ∧ -819200 ≤ acrossI c x n ∧ acrossI c x n ≤ 819200 ∧
      ((acrossI c x n < 0 ∧ 0 < d ∧ d < 32400000) ∨ (acrossI c x n = 0 ∧ d = 0) ∨ (0 < acrossI c x n ∧ d < 0 ∧ -32400000 < d))) := by
  unfold groundF
  by_cases h : vldW x n = true ∧ 1 ≤ t ∧ t ≤ 4000
  · obtain ⟨hv, t1, t2⟩ := h
    rw [if_pos ⟨hv, t1, t2⟩]
    obtain ⟨a0, a1⟩ := along_bd (c := c) hv
    obtain ⟨x0, x1⟩ := across_bd (c := c) hv
    generalize alongI c x n = al at *
    generalize acrossI c x n = ac at *
    by_cases f1 : t * 1024 ≤ ac ∨ t * 1024 ≤ -ac
    · left; right; rw [if_pos f1]
    · rw [if_neg f1]
      by_cases f2 : al + isq (t * 1024 * (t * 1024) - ac * ac) < 1024
      · left; right; rw [if_pos f2]
      · rw [if_neg f2]
        right
        obtain ⟨u0, u1, _, _, _, _⟩ := under_bd t1 t2 (x := ac) (by omega) (by omega)
        obtain ⟨r0, r1⟩ := root_bd u0 u1
        refine ⟨hv, t1, t2, _, _, rfl, r0, ?_, ?_, a0, a1, x0, x1, drift x0 x1 r0 r1⟩
        · have a := (isq_is (n := t * 1024 * (t * 1024) - ac * ac) (by omega) (by omega)).le
          exact le_of_sq (by omega) (by have := sq_nonneg ac; omega)
        · refine (le_isq ?_ (by omega) (by omega)).2 ?_
          · omega
          · obtain ⟨m, hm, e, hmt⟩ : ∃ m : Int, 0 ≤ m ∧ (ac = m ∨ ac = -m) ∧ m ≤ t * 1024 := by
              rcases Int.le_total 0 ac with h | h
              · exact ⟨ac, h, .inl rfl, by omega⟩
              · exact ⟨-ac, by omega, .inr (by omega), by omega⟩
            have e1 : max ac (-ac) = m := by omega
            have e2 : ac * ac = m * m := by rcases e with rfl | rfl; rfl; exact Int.neg_mul_neg ..
            rw [e1, e2]
            generalize t * 1024 = T at *
            have k := Int.mul_nonneg hm (show 0 ≤ T - m by omega)
            have e3 : (T - m) * (T - m) = T * T - 2 * (m * (T - m)) - m * m := by grind
            omega
  · left; left; rw [if_neg h]

/-! ### the walk -/
set_option maxHeartbeats 4000000 in
set_option maxRecDepth 100000 in
theorem walk (c t x n : Int) (c0 : -9223372036854775808 ≤ c) (c1 : c ≤ 9223372036854775807) (t0 : -9223372036854775808 ≤ t) (t1 : t ≤ 9223372036854775807) (x0 : -9223372036854775808 ≤ x) (x1 : x ≤ 9223372036854775807) (n0 : -9223372036854775808 ≤ n) (n1 : n ≤ 9223372036854775807) (w : World) (hE : Env w) :
    Calls Tryd.prog 5 #[.int .i64 c, .int .i64 t, .agg #[.int .i64 x, .int .i64 n]] w fun e w' => e = .returned (.bool true) ∧ Below w.heap.size w w' := by
  obtain h | ⟨hv, t1, t2, r, d, hg, r1, r2, r3, a1, a2, b1, b2, hd⟩ := ground_cases c t x n
  · have hk : ∃ k : Int, groundF c t x n = (0, 0, k) ∧ (k == 0) = false ∧ (k != 0) = true := by
      rcases h with h | h
      · exact ⟨1, h, by decide, by decide⟩
      · exact ⟨10, h, by decide, by decide⟩
    obtain ⟨k, hk, k1, k2⟩ := hk
    have HK := Lib.hid hk
    have HE := Lib.hid hE
    clear hE h hk
    go_enter Tryd.func5, Tryd.ntmps5
    go_wp2_with fail
    refine (awake_any _ (HE.out.below ((Below.refl _ _).alloc (Nat.le_refl _) _))).mono ?_
    rintro e w1 ⟨rfl, hb1⟩
    obtain ⟨hc, hf⟩ := bcell hb1
    have hw1 := Lib.hid (below_box hb1)
    go_wp2_with fail
    refine (ground_any _ _ _ _ _ c0 c1).mono ?_
    rw [HK.out]
    rintro e w2 ⟨rfl, hb2⟩
    have hz : w.heap.size < w1.heap.size := by have := hb1.size; simp at this; omega
    obtain ⟨hc2, hf2⟩ := bcell hb2
    have hw2 := Lib.hid (hw1.out.trans (hb2.mono hw1.out.size))
    go_wp2_with fail
    refine (parts_any _ _ _ _ c0 c1).mono ?_
    rintro e w3 ⟨rfl, hb3⟩
    go_wp2
    go_ret
    exact ⟨rfl, hw2.out.trans (hb3.mono hw2.out.size)⟩
  · have HP := Lib.hid (show partsF c x n = (alongI c x n, acrossI c x n, 0) by unfold partsF; rw [if_pos hv])
    have HK := Lib.hid hg
    have HE := Lib.hid hE
    clear hE hg hv
    generalize alongI c x n = al at *
    generalize acrossI c x n = ac at *
    have g1 : decide (t < 1) = false := by simp; omega
    have g2 : decide (4000 < t) = false := by simp; omega
    have g3 : decide (al + r - t * 1024 - al ≤ 0) = true := by simp; omega
    have g4 : decide (-max ac (-ac) ≤ al + r - t * 1024 - al) = true := by simp; omega
    have g5 : decide (-32400000 < d) = true := by simp; omega
    have g6 : decide (d < 32400000) = true := by simp; omega
    rcases hd with ⟨hd1, hd2, hd3⟩ | ⟨hd1, hd2⟩ | ⟨hd1, hd2, hd3⟩
    all_goals
      go_enter Tryd.func5, Tryd.ntmps5
      go_wp2_with fail
      refine (awake_any _ (HE.out.below ((Below.refl _ _).alloc (Nat.le_refl _) _))).mono ?_
      rintro e w1 ⟨rfl, hb1⟩
      obtain ⟨hc, hf⟩ := bcell hb1
      have hw1 := Lib.hid (below_box hb1)
      go_wp2_with fail
      refine (ground_any _ _ _ _ _ c0 c1).mono ?_
      rw [HK.out]
      rintro e w2 ⟨rfl, hb2⟩
      have hz : w.heap.size < w1.heap.size := by have := hb1.size; simp at this; omega
      obtain ⟨hc2, hf2⟩ := bcell hb2
      have hw2 := Lib.hid (hw1.out.trans (hb2.mono hw1.out.size))
      go_wp2_with fail
      refine (parts_any _ _ _ _ c0 c1).mono ?_
      rw [HP.out]
      rintro e w3 ⟨rfl, hb3⟩
      go_wp2
      go_ret
      exact ⟨rfl, hw2.out.trans (hb3.mono hw2.out.size)⟩

/-! ### the row's step -/
theorem contract (H : Type) (enc : TypeId × Value → H) (W : World) (base : Nat) (args : Array Value) (ds gs : List (DataW H)) (before : List MemPlace)
    (hval : ∀ (j : Nat) t v, Tryd.f5.params[j]? = some t → args[j]? = some v → Value.okWide Tryd.prog W .any base t v)
    (hW : DataW.Whole enc Tryd.prog Tryd.f5.params.toList Rows.windBoundsSpec.vars false W args.toList ds gs before) (hL : laidMetH Tryd.prog Rows.windBoundsRow.laid W) (hsh : W.ShapedOpen Tryd.prog) :
    Calls Tryd.prog 5 args W fun e W' => ∃ v, e = .returned v ∧ Rows.windBoundsSpec.post enc Tryd.prog Tryd.f5 false true false false W args v W' := by
  have hW' := hW
  obtain ⟨p, q, hA0, hV, rfl, hfz, hnd⟩ := hW
  have hA : DataW.TrodAll enc Tryd.prog W 0 (fun _ => true) true Tryd.f5.params.toList args.toList ds p := hA0
  rw [Tryd.params5] at hA hval
  obtain ⟨v0, vs0, d0, ds0, p0, q0, hargs, rfl, rfl, h0, r0⟩ := trodAll_cons hA
  obtain ⟨v1, vs1, d1, ds1, p1, q1, rfl, rfl, rfl, h1, r1⟩ := trodAll_cons r0
  obtain ⟨v2, vs2, d2, ds2, p2, q2, rfl, rfl, rfl, h2, r2⟩ := trodAll_cons r1
  obtain ⟨rfl, rfl, rfl⟩ := trodAll_nil r2
  obtain rfl : args = #[v0, v1, v2] := by cases args; simp_all
  obtain ⟨rfl, rfl⟩ := trodVars_none hV
  obtain ⟨a0, rfl, rfl, rfl, w0⟩ := open_int Tryd.underlying2 (hval 0 2 v0 rfl rfl) h0
  obtain ⟨a1, rfl, rfl, rfl, w1⟩ := open_int Tryd.underlying2 (hval 1 2 v1 rfl rfl) h1
  obtain ⟨x2_0, x2_1, rfl, rfl, rfl, w2_0, w2_1⟩ := open_wind (hval 2 23 v2 rfl rfl) h2
  clear hA0
  simp only [List.append_nil] at hW'
  refine (walk a0 a1 x2_0 x2_1 (bd64 w0).1 (bd64 w0).2 (bd64 w1).1 (bd64 w1).2 (bd64 w2_0).1 (bd64 w2_0).2 (bd64 w2_1).1 (bd64 w2_1).2 W (env_of hL hsh)).mono fun e W' ⟨he, hb⟩ => ?_
  subst he
  exact ⟨_, rfl, post_of_below (pa := []) (pv := []) hW' (fun _ _ _ => trodAll_cons_mk (shut_bool Tryd.underlying4 _) trodAll_mk0) (fun sp _ => (trodAll_cons_mk (shut_int Tryd.underlying2 w0) (trodAll_cons_mk (shut_int Tryd.underlying2 w1) (trodAll_cons_mk (shut_wind w2_0 w2_1) trodAll_mk0)))) (fun _ _ => rfl) rfl
    hb (ok_one (by kernel_rfl) rfl (okWide_bool_mk Tryd.underlying4 _))⟩

theorem reads (os : Os) {H : Type} (enc : TypeId × Value → H) : ∃ places, DataW.whole enc Tryd.prog ((laidWorld os).forCall (fun _ _ => 0) ⟨#[], #[.int .i64 0, .int .i64 0, .agg #[.int .i64 0, .int .i64 0]], []⟩).memory Tryd.f5.params.toList Rows.windBoundsSpec.vars false (#[.int .i64 0, .int .i64 0, .agg #[.int .i64 0, .int .i64 0]] : Array Value).toList 8 = some ([.lit (.int .i64 0), .lit (.int .i64 0), .agg [.lit (.int .i64 0), .lit (.int .i64 0)]], [], places) :=
  ⟨[], by kernel_rfl⟩

set_option maxRecDepth 100000 in
theorem lifted (os : Os) (started : os.Started) (H : Type) (enc : TypeId × Value → H) (F : Stop.Interp) :
    ReturnsInHanded {} Tryd.checked os 5 .any ((OpenSpec.ofChange Rows.windBoundsSpec).preRow enc Tryd.prog Tryd.f5 Rows.windBoundsRow.domain false Rows.windBoundsRow.laid) (((OpenSpec.ofChange Rows.windBoundsSpec).at F).post enc Tryd.prog Tryd.f5 false true false false) := by
  obtain ⟨places, hx⟩ := reads os enc
  refine returnsInHanded_of_row (C := Tryd.checked) (s := OpenSpec.ofChange Rows.windBoundsSpec) own started (by kernel_rfl) Tryd.func5
    (witness_row_at (enc := enc) (C := Tryd.checked) false (laidWorld os) #[.int .i64 0, .int .i64 0, .agg #[.int .i64 0, .int .i64 0]] rfl (by kernel_rfl) (by kernel_rfl) (by kernel_rfl)
      (OpenSpec.preRow_of_cond 8 hx (by kernel_rfl) (fun k hk => by cases hk) (by kernel_rfl) (laid_met_any os _))) ?_
  intro W base args ds gs before hval hW _ _ _ hL hsh _
  exact contract H enc W base args ds gs before hval hW hL hsh

theorem said : Rows.WindBoundsSaid :=
  OpenClaim.holds_of_cond 5 Tryd.f5 rfl rfl rfl rfl rfl rfl rfl ⟨rfl, rfl, rfl, rfl, rfl⟩ rfl rfl rfl rfl rfl (by kernel_rfl) Tryd.func5 (by kernel_rfl)
    (of_decide_eq_true (by kernel_rfl)) (by unfold Func.isWrapper; first | (rw [if_pos (by decide +kernel)]; kernel_rfl) | (rw [if_neg (by decide +kernel)]; exact ⟨rfl, rfl⟩))
    (fun os started H enc _ F => by rw [OpenClaim.pre_eq_preRow]; exact lifted os started H enc F)

theorem plain (f : FuncId) (fn : Func) (hf : Tryd.pinned.checked.prog.funcNamed "flightdeck/flightdecklaw13.WindBounds" = some f) (hfn : Tryd.pinned.checked.prog.funcs[f]? = some fn) :
    false = Tryd.pinned.checked.prog.looks [] ∧ ∀ (j : Nat) t, fn.params[j]? = some t → Tryd.pinned.checked.prog.wantsStandIn t = false := by
  obtain rfl : f = 5 := Option.some.inj ((show Tryd.prog.funcNamed "flightdeck/flightdecklaw13.WindBounds" = some 5 by kernel_rfl).symm.trans hf) |>.symm
  obtain rfl : fn = Tryd.f5 := (Option.some.inj (Tryd.func5.symm.trans hfn)).symm
  refine ⟨by kernel_rfl, fun j t ht => ?_⟩
  rw [Tryd.params5] at ht
  have hm := Array.mem_of_getElem? ht
  simp only [List.mem_toArray, List.mem_cons, List.not_mem_nil, or_false] at hm
  rcases hm with rfl | rfl | rfl
  · exact (show Tryd.prog.wantsStandIn 2 = false by kernel_rfl)
  · exact (show Tryd.prog.wantsStandIn 2 = false by kernel_rfl)
  · exact (show Tryd.prog.wantsStandIn 23 = false by kernel_rfl)
/-- the law -/
theorem card : Rows.WindBoundsCardSaid :=
  Claim7.holds_tied_plain_at .later [] _ _ _ _ said (fun _ h => by cases h) (by kernel_rfl) (fun _ h => by cases h) windBounds_row_tie rfl ⟨rfl, rfl⟩ (by kernel_rfl) rfl plain (by kernel_rfl)
end Go.Proofs.YtdfpbojlimeccaaDoor.windBounds

