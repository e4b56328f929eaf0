/-
  The law ExclusionDetects.
-/
import Derived.Test.YtmlopbolekddnaaStructs44
import Derived.Test.YtmlopbolekddnaaDetPlain
namespace Go.Proofs.Ytmlopbolekddnaa.exclusionDetects
set_option linter.unusedVariables false
open Go.ChangeShapes Go.WideShapes Go.ChangeAt Go.RowKit

set_option maxHeartbeats 100000000 in
set_option maxRecDepth 100000 in
theorem walk (v : Value) (l : List Ms) (x y i : Int) (w : World) (h : LstAt l v w) (_x0 : -9223372036854775808 ≤ x) (_x1 : x ≤ 9223372036854775807) (_y0 : -9223372036854775808 ≤ y) (_y1 : y ≤ 9223372036854775807) (_i0 : -9223372036854775808 ≤ i) (_i1 : i ≤ 9223372036854775807) :
    Calls Try.prog 11 #[v, .agg #[.int .i64 x, .int .i64 y], .int .i64 i] w fun e w' => e = .returned (.bool true) ∧ Below w.heap.size w w' := by
  have PT0 := Lib.hid (pt_new x y w 44)
  have HB0 := Lib.hid ((Below.refl w.heap.size w).alloc (Nat.le_refl _) (.cells #[.int .i64 x, .int .i64 y] 44))
  have HL0 := Lib.hid (h.below ((Below.refl w.heap.size w).alloc (Nat.le_refl _) (.cells #[.int .i64 x, .int .i64 y] 44)))
  go_enter Try.func11, Try.ntmps11
  go_wp2_with fail
  generalize w.alloc (.cells #[.int .i64 x, .int .i64 y] 44) = w0 at *
  generalize hbm : w.heap.size = bm at *
  have HBM := Lib.hid hbm
  clear hbm
  refine (awake_any _).mono ?_
  rintro e w1 ⟨rfl, hb1⟩
  have HB1 := Lib.hid (HB0.out.trans (hb1.mono (by rw [← HBM.out]; exact HB0.out.size)))
  have HL1 := Lib.hid (HL0.out.below hb1)
  have PT1 := Lib.hid (PT0.out.below hb1)
  clear hb1
  go_wp2_with fail
  refine (cut_any _ _ _ HL1.out).mono ?_
  rintro e w2 ⟨⟨p, cap, rfl, hcl⟩, rfl⟩
  have HC1 := Lib.hid hcl
  have CL := Lib.hid (cut_len l)
  clear hcl
  generalize cutL l = L at *
  have DE := Lib.hid fun w h => det_any L i (.slice p L.length cap) w h
  unfold DtP at DE
  have BD := bad_det L i
  have OK := fun (k : Nat) (hk : i = k) (hl : k < L.length) (he : (detF L i).2 = 0) (ha : allB L x y (nth L k).s = true) => (by subst hk; exact det_ok hl he ha : (missI (nth L k) x y ≤ (detF L i).1 ∧ -missI (nth L k) x y ≤ (detF L i).1) ∨ conF L = (false, 0))
  have CHK : (detF L i).2 = 0 → chkL L = 0 := fun h => by unfold detF at h; by_cases hc : chkL L = 0; exact hc; rw [if_neg hc] at h; exact h
  generalize detF L i = r at *
  obtain ⟨d, z⟩ := r
  simp only at BD OK CHK
  go_wp2_with fail
  refine (DE.out _ HC1.out).mono ?_
  rintro e w2 ⟨rfl, hb2⟩
  have HB2 := Lib.hid (HB1.out.trans (hb2.mono (by rw [← HBM.out]; exact HB1.out.size)))
  have HC2 := Lib.hid (HC1.out.below hb2)
  have PT2 := Lib.hid (PT1.out.below hb2)
  clear hb2
  have pt2 := PT2.out
  have y0 := pt2.c0
  have y1 := pt2.c1
  have y2 := pt2.lt
  clear pt2
  go_wp2_with fail
  by_cases hz : z = 0
  · subst hz
    by_cases i0 : i < 0
    · have gi : decide (i < 0) = true := by simpa using i0
      clear OK CHK BD i0
      have W2 := Lib.hid (Below.refl w2.heap.size w2)
      refine wp_region_quiet_below (by kernel_rfl) (by kernel_rfl) ?_
      generalize hact : Act.mk _ _ = act
      repeat (refine wpQuiet_step (fun K hK => ?_); subst hact; go_simp; (first | (generalize hact : Act.mk _ _ = act; refine hK act ?_; clear hK K)))
      refine wpQuiet_nil ?_
      subst hact
      intro w3 hw'
      have hb3 : Below w2.heap.size w2 w3 := by
        obtain ⟨⟨dq, osq⟩, hw''⟩ := hw'
        rw [hw'']; exact below_regrown w2 dq osq
      have HB3 := Lib.hid (HB2.out.trans (hb3.mono (by rw [← HBM.out]; exact HB2.out.size)))
      have BQ3 := Lib.hid hb3; have HC3 := Lib.hid (HC2.out.below hb3)
      have PT3 := Lib.hid (PT2.out.below hb3)
      clear hw' hb3 W2  
      go_wp2
      all_goals go_ret
      all_goals exact ⟨rfl, by rw [HBM.out]; exact HB3.out⟩
    · have gi : decide (i < 0) = false := by simpa using i0
      by_cases i1 : (L.length : Int) ≤ i
      · have gl : decide ((L.length : Int) ≤ i) = true := by simpa using i1
        clear OK CHK BD i0 i1
        have W2 := Lib.hid (Below.refl w2.heap.size w2)
        refine wp_region_quiet_below (by kernel_rfl) (by kernel_rfl) ?_
        generalize hact : Act.mk _ _ = act
        repeat (refine wpQuiet_step (fun K hK => ?_); subst hact; go_simp; (first | (generalize hact : Act.mk _ _ = act; refine hK act ?_; clear hK K)))
        refine wpQuiet_nil ?_
        subst hact
        intro w3 hw'
        have hb3 : Below w2.heap.size w2 w3 := by
          obtain ⟨⟨dq, osq⟩, hw''⟩ := hw'
          rw [hw'']; exact below_regrown w2 dq osq
        have HB3 := Lib.hid (HB2.out.trans (hb3.mono (by rw [← HBM.out]; exact HB2.out.size)))
        have BQ3 := Lib.hid hb3; have HC3 := Lib.hid (HC2.out.below hb3)
        have PT3 := Lib.hid (PT2.out.below hb3)
        clear hw' hb3 W2  
        go_wp2
        all_goals go_ret
        all_goals exact ⟨rfl, by rw [HBM.out]; exact HB3.out⟩
      · have gl : decide ((L.length : Int) ≤ i) = false := by simpa using i1
        have VP := Lib.hid fun W (h : Below w2.heap.size w2 W) => vldP_any x y W
        cases hv : vldP x y with
        | false =>
          rw [hv] at VP
          clear OK CHK BD i0 i1 hv
          have W2 := Lib.hid (Below.refl w2.heap.size w2)
          have g_y0 := fun d os => cell_regrown y0 d os
          have g_y1 := fun d os => cell_regrown y1 d os
          have r_VP := Lib.hid (fun d os => Calls.regrown_of (VP.out (Go.Sort.grow (redrawn w2 d) os) (below_regrown w2 d os)))
          refine wp_region_quiet_below (by kernel_rfl) (by kernel_rfl) ?_
          generalize hact : Act.mk _ _ = act
          repeat (refine wpQuiet_step (fun K hK => ?_); subst hact; go_simp; (first | (generalize hact : Act.mk _ _ = act; refine hK act ?_; clear hK K) | (apply Exists.intro; refine ⟨fun _ => ?_, ?_⟩; (with_reducible exact r_VP.out _ _); generalize hact : Act.mk _ _ = act; refine hK act ?_; clear hK K)))
          refine wpQuiet_nil ?_
          subst hact
          intro w3 hw'
          have hb3 : Below w2.heap.size w2 w3 := by
            obtain ⟨⟨dq, osq⟩, hw''⟩ := hw'
            rw [hw'']; exact below_regrown w2 dq osq
          have HB3 := Lib.hid (HB2.out.trans (hb3.mono (by rw [← HBM.out]; exact HB2.out.size)))
          have BQ3 := Lib.hid hb3; have HC3 := Lib.hid (HC2.out.below hb3)
          have PT3 := Lib.hid (PT2.out.below hb3)
          clear hw' hb3 W2 g_y0 g_y1 r_VP
          go_wp2
          all_goals go_ret
          all_goals exact ⟨rfl, by rw [HBM.out]; exact HB3.out⟩
        | true =>
          rw [hv] at VP
          obtain ⟨k, rfl⟩ : ∃ k : Nat, i = k := ⟨i.toNat, by omega⟩
          have q : k < L.length := by omega
          have q' : decide (k < L.length) = true := by simpa using q
          have OK2 := OK k rfl q rfl
          have hc := CHK rfl
          have hok := (chkL_ok hc).2 _ (nth_mem q)
          clear OK CHK BD i0 i1
          rcases HC2.out with ⟨e, hn⟩ | ⟨bb, oo, cc, e, h2, h3, M⟩
          · rw [hn] at q; exact absurd q (by simp)
          injection e with e1 e2 e3
          subst e1
          subst e3
          clear e2
          have c0 := M.c0 k q
          have c1 := M.c1 k q
          have c2 := M.c2 k q
          have c3 := M.c3 k q
          have c4 := M.c4 k q
          have c5 := M.c5 k q
          have HM := Lib.hid M
          have AL := Lib.hid fun W (h : Below w2.heap.size w2 W) => all_any L x y (nth L k).s _ W (HC2.out.below h)
          cases ha : allB L x y (nth L k).s with
          | false =>
            rw [ha] at AL
            clear OK2 hc hok M hv ha
            have W2 := Lib.hid (Below.refl w2.heap.size w2)
            have g_y0 := fun d os => cell_regrown y0 d os
            have g_y1 := fun d os => cell_regrown y1 d os
            have g_c0 := fun d os => cell_regrown c0 d os
            have r_VP := Lib.hid (fun d os => Calls.regrown_of (VP.out (Go.Sort.grow (redrawn w2 d) os) (below_regrown w2 d os)))
            have r_AL := Lib.hid (fun d os => Calls.regrown_of (AL.out (Go.Sort.grow (redrawn w2 d) os) (below_regrown w2 d os)))
            refine wp_region_quiet_below (by kernel_rfl) (by kernel_rfl) ?_
            generalize hact : Act.mk _ _ = act
            repeat (refine wpQuiet_step (fun K hK => ?_); subst hact; go_simp; (first | (generalize hact : Act.mk _ _ = act; refine hK act ?_; clear hK K) | (apply Exists.intro; refine ⟨fun _ => ?_, ?_⟩; (with_reducible exact r_VP.out _ _); generalize hact : Act.mk _ _ = act; refine hK act ?_; clear hK K) | (apply Exists.intro; refine ⟨fun _ => ?_, ?_⟩; (with_reducible exact r_AL.out _ _); generalize hact : Act.mk _ _ = act; refine hK act ?_; clear hK K)))
            refine wpQuiet_nil ?_
            subst hact
            intro w3 hw'
            have hb3 : Below w2.heap.size w2 w3 := by
              obtain ⟨⟨dq, osq⟩, hw''⟩ := hw'
              rw [hw'']; exact below_regrown w2 dq osq
            have HB3 := Lib.hid (HB2.out.trans (hb3.mono (by rw [← HBM.out]; exact HB2.out.size)))
            have BQ3 := Lib.hid hb3; have HC3 := Lib.hid (HC2.out.below hb3)
            have PT3 := Lib.hid (PT2.out.below hb3)
            clear hw' hb3 W2 g_y0 g_y1 g_c0 r_VP r_AL
            go_wp2
            all_goals go_ret
            all_goals exact ⟨rfl, by rw [HBM.out]; exact HB3.out⟩
          | true =>
            rw [ha] at AL
            have OK3 := OK2 ha
            obtain ⟨f0, f1, f2, f3⟩ := miss_fit hok hv
            have z0 := hok.z0
            have z1 := hok.z1
            clear OK2 hc M ha hv hok
            have CO := Lib.hid fun w h => con_any L (.slice (some ⟨bb, oo, none⟩) L.length cap) w h
            have W2 := Lib.hid (Below.refl w2.heap.size w2)
            have g_y0 := fun d os => cell_regrown y0 d os
            have g_y1 := fun d os => cell_regrown y1 d os
            have g_c0 := fun d os => cell_regrown c0 d os
            have r_VP := Lib.hid (fun d os => Calls.regrown_of (VP.out (Go.Sort.grow (redrawn w2 d) os) (below_regrown w2 d os)))
            have r_AL := Lib.hid (fun d os => Calls.regrown_of (AL.out (Go.Sort.grow (redrawn w2 d) os) (below_regrown w2 d os)))
            refine wp_region_quiet_below (by kernel_rfl) (by kernel_rfl) ?_
            generalize hact : Act.mk _ _ = act
            repeat (refine wpQuiet_step (fun K hK => ?_); subst hact; go_simp; (first | (generalize hact : Act.mk _ _ = act; refine hK act ?_; clear hK K) | (apply Exists.intro; refine ⟨fun _ => ?_, ?_⟩; (with_reducible exact r_VP.out _ _); generalize hact : Act.mk _ _ = act; refine hK act ?_; clear hK K) | (apply Exists.intro; refine ⟨fun _ => ?_, ?_⟩; (with_reducible exact r_AL.out _ _); generalize hact : Act.mk _ _ = act; refine hK act ?_; clear hK K)))
            refine wpQuiet_nil ?_
            subst hact
            intro w3 hw'
            have hb3 : Below w2.heap.size w2 w3 := by
              obtain ⟨⟨dq, osq⟩, hw''⟩ := hw'
              rw [hw'']; exact below_regrown w2 dq osq
            have HB3 := Lib.hid (HB2.out.trans (hb3.mono (by rw [← HBM.out]; exact HB2.out.size)))
            have BQ3 := Lib.hid hb3; have HC3 := Lib.hid (HC2.out.below hb3)
            have PT3 := Lib.hid (PT2.out.below hb3)
            clear hw' hb3 W2 g_y0 g_y1 g_c0 r_VP r_AL
            clear y0 y1 y2 c0 c1 c2 c3 c4 c5
            have pt3 := PT3.out
            have y0 := pt3.c0
            have y1 := pt3.c1
            have y2 := pt3.lt
            clear pt3
            have M3 := HM.out.below (show Below w2.heap.size w2 w3 from BQ3.out)
            have c0 := M3.c0 k q
            have c1 := M3.c1 k q
            have c2 := M3.c2 k q
            have c3 := M3.c3 k q
            have c4 := M3.c4 k q
            have c5 := M3.c5 k q
            clear M3
            have EM : missI (nth L k) x y = (nth L k).a * x + (nth L k).b * y - (nth L k).z := rfl
            rw [EM] at OK3
            generalize nth L k = m at *
            have s0 : IntKind.i64.wrap (m.a * x) = m.a * x := IntWalk.i64_in _ (by omega)
            have s1 : IntKind.i64.wrap (m.b * y) = m.b * y := IntWalk.i64_in _ (by omega)
            have s2 : IntKind.i64.wrap (m.a * x + m.b * y) = m.a * x + m.b * y := IntWalk.i64_in _ (by omega)
            have s3 : IntKind.i64.wrap (m.a * x + m.b * y - m.z) = m.a * x + m.b * y - m.z := IntWalk.i64_in _ (by omega)
            have s4 : IntKind.i64.wrap (-(m.a * x + m.b * y - m.z)) = -(m.a * x + m.b * y - m.z) := IntWalk.i64_in _ (by omega)
            have HBA := Lib.hid (HB3.out.alloc (by rw [← HBM.out]; exact HB3.out.size) (.cells #[.int .i64 m.s, .int .i64 m.a, .int .i64 m.b, .int .i64 m.z, .int .i64 m.d, .int .i64 m.w] 50))
            have HCA := Lib.hid (HC3.out.below ((Below.refl _ _).alloc (Nat.le_refl _) (.cells #[.int .i64 m.s, .int .i64 m.a, .int .i64 m.b, .int .i64 m.z, .int .i64 m.d, .int .i64 m.w] 50)))
            have K : (decide (m.a * x + m.b * y - m.z ≤ d) = true ∧ decide (-(m.a * x + m.b * y - m.z) ≤ d) = true) ∨ (decide (m.a * x + m.b * y - m.z ≤ d) = false ∧ conF L = (false, 0)) ∨ (decide (m.a * x + m.b * y - m.z ≤ d) = true ∧ decide (-(m.a * x + m.b * y - m.z) ≤ d) = false ∧ conF L = (false, 0)) := by
              by_cases t0 : m.a * x + m.b * y - m.z ≤ d
              · by_cases t1 : -(m.a * x + m.b * y - m.z) ≤ d
                · exact .inl ⟨by simpa using t0, by simpa using t1⟩
                · exact .inr (.inr ⟨by simpa using t0, by simpa using t1, OK3.resolve_left fun h => t1 h.2⟩)
              · exact .inr (.inl ⟨by simpa using t0, OK3.resolve_left fun h => t0 h.1⟩)
            clear OK3 EM
            rcases K with ⟨t0, t1⟩ | ⟨t0, t1⟩ | ⟨t0, t1, t2⟩
            · go_wp2
              go_ret
              exact ⟨rfl, by rw [HBM.out]; exact HBA.out⟩
            · rw [t1] at CO
              clear t1
              go_wp2_with fail
              refine (CO.out _ HCA.out).mono ?_
              rintro e9 w9 ⟨rfl, hb9⟩
              have HB9 := Lib.hid (HBA.out.trans (hb9.mono (by rw [← HBM.out]; exact HBA.out.size)))
              clear hb9
              go_wp2
              go_ret
              exact ⟨rfl, by rw [HBM.out]; exact HB9.out⟩
            · rw [t2] at CO
              clear t2
              go_wp2_with fail
              refine (CO.out _ HCA.out).mono ?_
              rintro e9 w9 ⟨rfl, hb9⟩
              have HB9 := Lib.hid (HBA.out.trans (hb9.mono (by rw [← HBM.out]; exact HBA.out.size)))
              clear hb9
              go_wp2
              go_ret
              exact ⟨rfl, by rw [HBM.out]; exact HB9.out⟩
  · have gz : (z != 0) = true := by simpa using hz
    obtain rfl := BD.resolve_left hz
    have gz2 : (z == 0) = false := by simpa using hz
    clear hz OK CHK BD
    have W2 := Lib.hid (Below.refl w2.heap.size w2)
    refine wp_region_quiet_below (by kernel_rfl) (by kernel_rfl) ?_
    generalize hact : Act.mk _ _ = act
    repeat (refine wpQuiet_step (fun K hK => ?_); subst hact; go_simp; (first | (generalize hact : Act.mk _ _ = act; refine hK act ?_; clear hK K)))
    refine wpQuiet_nil ?_
    subst hact
    intro w3 hw'
    have hb3 : Below w2.heap.size w2 w3 := by
      obtain ⟨⟨dq, osq⟩, hw''⟩ := hw'
      rw [hw'']; exact below_regrown w2 dq osq
    have HB3 := Lib.hid (HB2.out.trans (hb3.mono (by rw [← HBM.out]; exact HB2.out.size)))
    have BQ3 := Lib.hid hb3; have HC3 := Lib.hid (HC2.out.below hb3)
    have PT3 := Lib.hid (PT2.out.below hb3)
    clear hw' hb3 W2  
    go_wp2
    all_goals go_ret
    all_goals exact ⟨rfl, by rw [HBM.out]; exact HB3.out⟩

/-! ### the row's step -/
set_option maxRecDepth 100000 in
theorem contract (H : Type) (enc : TypeId × Value → H) (W : World) (base : Nat) (args : Array Value) (ds gs : List (DataW H)) (before : List MemPlace)
    (hval : ∀ (j : Nat) t v, Try.f11.params[j]? = some t → args[j]? = some v → Value.okWide Try.prog W .any base t v)
    (hW : DataW.Whole enc Try.prog Try.f11.params.toList Rows.exclusionDetectsSpec.vars false W args.toList ds gs before) :
    Calls Try.prog 11 args W fun e W' => ∃ v, e = .returned v ∧ Rows.exclusionDetectsSpec.post enc Try.prog Try.f11 false true false false W args v W' := by
  have hW' := hW
  obtain ⟨p, q, hA0, hV, rfl, hfz, hnd⟩ := hW
  have hA : DataW.TrodAll enc Try.prog W 0 (fun _ => true) true Try.f11.params.toList args.toList ds p := hA0
  rw [Try.params11] at hA hval
  obtain ⟨v0, vs0, d0, ds0, p0, q0, hargs, rfl, rfl, h0, r0⟩ := trodAll_cons hA
  obtain ⟨v1, vs1, d1, ds1, p1, q1, rfl, rfl, rfl, h1, r1⟩ := trodAll_cons r0
  obtain ⟨v2, vs2, d2, ds2, p2, q2, rfl, rfl, rfl, h2, r2⟩ := trodAll_cons r1
  obtain ⟨rfl, rfl, rfl⟩ := trodAll_nil r2
  obtain rfl : args = #[v0, v1, v2] := by cases args; simp_all
  obtain ⟨rfl, rfl⟩ := trodVars_none hV
  have h0k := h0
  obtain ⟨l0, g0⟩ := open_list (hval 0 22 v0 rfl rfl) h0
  obtain ⟨x1_0, x1_1, rfl, rfl, rfl, w1_0, w1_1⟩ := open_point (hval 1 44 v1 rfl rfl) h1
  obtain ⟨a2, rfl, rfl, rfl, w2⟩ := open_int Try.underlying3 (hval 2 3 v2 rfl rfl) h2
  clear hA0
  simp only [List.append_nil] at hW'
  refine (walk v0 l0 x1_0 x1_1 a2 W g0 (bd64 w1_0).1 (bd64 w1_0).2 (bd64 w1_1).1 (bd64 w1_1).2 (bd64 w2).1 (bd64 w2).2).mono fun e W' ⟨he, hb⟩ => ?_
  subst he
  have hlt : ∀ x ∈ p0, x.block < W.heap.size := fun x hx => hW'.lt x (by simpa using hx)
  exact ⟨_, rfl, post_of_below (pa := p0) (pv := []) hW' (fun _ _ _ => trodAll_cons_mk (shut_bool Try.underlying4 _) trodAll_mk0)
    (fun sp hsp0 => by
      have hsp : ∀ x ∈ p0, sp x.block = true := fun x hx => hsp0 x (by simpa using hx)
      have := (trodAll_cons_mk (WideElems.Trod_stays laidOut (by kernel_rfl) (of_decide_eq_true (by kernel_rfl)) h0k (fun x hx => hb.same (hlt x hx)) (fun x hx => hsp x hx)) (trodAll_cons_mk (shut_point w1_0 w1_1) (trodAll_cons_mk (shut_int Try.underlying3 w2) trodAll_mk0)))
      simp only [List.append_nil] at this
      exact this) (fun _ _ => rfl) (by simp)
    hb (ok_one (by kernel_rfl) rfl (okWide_bool_mk Try.underlying4 _))⟩

set_option maxRecDepth 100000 in
theorem lifted (os : Os) (started : os.Started) (H : Type) (enc : TypeId × Value → H) :
    ReturnsInHanded {} Try.checked os 11 .any (Rows.exclusionDetectsSpec.pre6 enc Try.prog Try.f11 Rows.exclusionDetectsRow.domain false) (Rows.exclusionDetectsSpec.post enc Try.prog Try.f11 false true false false) := by
  refine returnsInHanded_of_change (C := Try.checked) own started (by kernel_rfl) Try.func11
    (ChangeSpec.witness6 (enc := enc) (C := Try.checked) false ⟨#[], #[.slice none 0 0, .agg #[.int .i64 0, .int .i64 0], .int .i64 0], []⟩ 8 (by kernel_rfl) (by kernel_rfl) (by kernel_rfl) (by kernel_rfl)) ?_
  intro W base args ds gs before hval hW _ _
  exact contract H enc W base args ds gs before hval hW
/-- the law -/
theorem said : Rows.ExclusionDetectsSaid :=
  OpenClaim.holds_of_wide 11 Try.f11 rfl rfl rfl rfl rfl rfl rfl ⟨rfl, rfl, rfl, rfl, rfl⟩ rfl rfl rfl rfl rfl (by kernel_rfl) Try.func11 (by kernel_rfl)
    (of_decide_eq_true (by kernel_rfl)) (by unfold Func.isWrapper; first | (rw [if_pos (by decide +kernel)]; kernel_rfl) | (rw [if_neg (by decide +kernel)]; exact ⟨rfl, rfl⟩))
    (fun os started H enc _ => lifted os started H enc)
end Go.Proofs.Ytmlopbolekddnaa.exclusionDetects
