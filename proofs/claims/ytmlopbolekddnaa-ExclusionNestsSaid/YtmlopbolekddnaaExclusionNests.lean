/-
  The law ExclusionNests.
-/
import Derived.Test.YtmlopbolekddnaaStructs44
import Derived.Test.YtmlopbolekddnaaNestPlain
import Derived.Deep.RegionHeld3
namespace Go.Proofs.Ytmlopbolekddnaa.exclusionNests
set_option linter.unusedVariables false
open Go.ChangeShapes Go.WideShapes Go.ChangeAt Go.RowKit

set_option maxHeartbeats 100000000 in
set_option maxRecDepth 100000 in
theorem walk (v : Value) (l : List Ms) (k x y : Int) (w : World) (h : LstAt l v w) (_k0 : -9223372036854775808 ≤ k) (_k1 : k ≤ 9223372036854775807) (_x0 : -9223372036854775808 ≤ x) (_x1 : x ≤ 9223372036854775807) (_y0 : -9223372036854775808 ≤ y) (_y1 : y ≤ 9223372036854775807) :
    Calls Try.prog 8 #[v, .int .i64 k, .agg #[.int .i64 x, .int .i64 y]] w fun e w' => e = .returned (.bool true) ∧ Below w.heap.size w w' := by
  have PT0 := Lib.hid (pt_new x y w 40)
  have HB0 := Lib.hid ((Below.refl w.heap.size w).alloc (Nat.le_refl _) (.cells #[.int .i64 x, .int .i64 y] 40))
  have HL0 := Lib.hid (h.below ((Below.refl w.heap.size w).alloc (Nat.le_refl _) (.cells #[.int .i64 x, .int .i64 y] 40)))
  go_enter Try.func8, Try.ntmps8
  go_wp2_with fail
  generalize w.alloc (.cells #[.int .i64 x, .int .i64 y] 40) = w0 at *
  generalize hbm : w.heap.size = bm at *
  have HBM := Lib.hid hbm
  clear hbm
  refine (awake_any _).mono ?_
  rintro e w1 ⟨rfl, hb1⟩
  have HB1 := Lib.hid (HB0.out.trans (hb1.mono (by rw [← HBM.out]; exact HB0.out.size)))
  have HL1 := Lib.hid (HL0.out.below hb1)
  have PT1 := Lib.hid (PT0.out.below hb1)
  clear hb1
  go_wp2_with fail
  refine (cut_any _ _ _ HL1.out).mono ?_
  rintro e w2 ⟨⟨p, cap, rfl, hcl⟩, rfl⟩
  have HC1 := Lib.hid hcl
  have CL := Lib.hid (cut_len l)
  clear hcl
  generalize cutL l = L at *
  have key : ∃ j : Nat, j ≤ L.length ∧ ((decide (k < 0) = true ∧ j = L.length) ∨ (decide (k < 0) = false ∧ decide ((L.length : Int) < k) = true ∧ j = L.length) ∨ (decide (k < 0) = false ∧ decide ((L.length : Int) < k) = false ∧ k = j)) := by
    by_cases q0 : k < 0
    · exact ⟨L.length, Nat.le_refl _, .inl ⟨by simpa using q0, rfl⟩⟩
    · by_cases q1 : (L.length : Int) < k
      · exact ⟨L.length, Nat.le_refl _, .inr (.inl ⟨by simpa using q0, by simpa using q1, rfl⟩)⟩
      · exact ⟨k.toNat, by omega, .inr (.inr ⟨by simpa using q0, by simpa using q1, by omega⟩)⟩
  obtain ⟨j, hj, key⟩ := key
  have NO := Lib.hid (nest_ok L j x y)
  have TK := Lib.hid (show (L.take j).length = j by rw [List.length_take]; omega)
  have sh : (∃ b o, p = some ⟨b, o, none⟩ ∧ j ≤ cap) ∨ (p = none ∧ cap = 0 ∧ j = 0 ∧ L = []) := by
    rcases HC1.out with ⟨e, rfl⟩ | ⟨b, o, c, e, h2, h3, h4⟩
    · cases e; exact .inr ⟨rfl, rfl, by simpa using hj, rfl⟩
    · injection e with e1 e2 e3
      subst e1 e3
      exact .inl ⟨b, o, rfl, by omega⟩
  have TL := Lib.hid fun w (h : LstAt L (.slice p L.length cap) w) => show LstAt (L.take j) (.slice p j cap) w from by
    rcases h with ⟨e, rfl⟩ | ⟨b, o, c, e, h2, h3, h4⟩
    · cases e
      exact .inl ⟨by rw [show j = 0 from by simpa using hj], by simp⟩
    · injection e with e1 e2 e3
      subst e1 e3
      exact .inr ⟨b, o, _, by rw [TK.out], by rw [TK.out]; omega, h3, h4.take j⟩
  have HN := Lib.hid (show L = [] → (conF (L.take j)).2 ≠ 0 from by rintro rfl; rw [List.take_nil]; decide)
  have CK := Lib.hid fun w h => con_any (L.take j) (.slice p j cap) w h
  have CL2 := Lib.hid fun w h => con_any L (.slice p L.length cap) w h
  have RK := fun w h => range_any (L.take j) x y (.slice p j cap) w h
  have RL := fun w h => range_any L x y (.slice p L.length cap) w h
  unfold RetI at RK RL
  generalize conF (L.take j) = r1 at *
  obtain ⟨a, e⟩ := r1
  generalize conF L = r2 at *
  obtain ⟨b, f⟩ := r2
  generalize rngF (L.take j) x y = r3 at *
  obtain ⟨⟨u0, u1⟩, g⟩ := r3
  generalize rngF L x y = r4 at *
  obtain ⟨⟨v0, v1⟩, z⟩ := r4
  simp only at NO HN
  have HRK := Lib.hid RK
  have HRL := Lib.hid RL
  clear RK RL
  have pt1 := PT1.out
  have y0 := pt1.c0
  have y1 := pt1.c1
  have y2 := pt1.lt
  clear pt1
  rcases sh with ⟨ba, oa, rfl, sh⟩ | ⟨rfl, rfl, rfl, rfl⟩
  · rcases key with ⟨k1, rfl⟩ | ⟨k1, k2, rfl⟩ | ⟨k1, k2, rfl⟩
    all_goals
      go_wp2_with fail
      refine (CK.out _ (TL.out _ HC1.out)).mono ?_
      rintro e2 w2 ⟨rfl, hb2⟩
      have HB2 := Lib.hid (HB1.out.trans (hb2.mono (by rw [← HBM.out]; exact HB1.out.size)))
      have HC2 := Lib.hid (HC1.out.below hb2)
      have PT2 := Lib.hid (PT1.out.below hb2)
      clear hb2 y0 y1 y2
      have pt2 := PT2.out
      have y0 := pt2.c0
      have y1 := pt2.c1
      have y2 := pt2.lt
      clear pt2
      go_wp2_with fail
      refine (CL2.out _ HC2.out).mono ?_
      rintro e3 w3 ⟨rfl, hb3⟩
      have HB3 := Lib.hid (HB2.out.trans (hb3.mono (by rw [← HBM.out]; exact HB2.out.size)))
      have HC3 := Lib.hid (HC2.out.below hb3)
      have PT3 := Lib.hid (PT2.out.below hb3)
      clear hb3 y0 y1 y2
      have pt3 := PT3.out
      have y0 := pt3.c0
      have y1 := pt3.c1
      have y2 := pt3.lt
      clear pt3
      have RB := Lib.hid fun W (h : Below w3.heap.size w3 W) => (HRK.out W ((TL.out _ HC3.out).below h)).mono fun e w' ⟨h1, h2⟩ => show _ ∧ Below w3.heap.size w3 w' ∧ Below W.heap.size W w' from ⟨h1, h.trans (h2.mono h.size), h2⟩
      have BD := Lib.hid (show Below w3.heap.size w3 w3.drew from ⟨rfl, rfl, rfl, Nat.le_refl _, fun _ _ => rfl⟩)
      have hne : w3.heap.size ≠ bm := by omega
      have NEQ := Lib.hid fun (W : World) (u v : Value) (i : Nat) => show ((W.setCell ⟨w3.heap.size, 0, none⟩ u).setCell ⟨w3.heap.size, 1, none⟩ v).cell? ⟨bm, i, none⟩ = W.cell? ⟨bm, i, none⟩ from (World.cell?_setCell_far _ _ _ _ hne).trans (World.cell?_setCell_far _ _ _ _ hne)
      clear hne
      rcases NO.out with ⟨n1, n2⟩ | ⟨rfl, n1, n2⟩ | ⟨rfl, n1, rfl, rfl⟩ | ⟨rfl, n1, rfl, rfl⟩ | ⟨rfl, rfl, rfl, rfl, n1⟩ | ⟨rfl, rfl, rfl, rfl, rfl, rfl, n1, n2, n3, n4⟩ | ⟨rfl, rfl, rfl, n1⟩ | ⟨rfl, rfl, rfl, rfl, rfl⟩
    all_goals
      go_wp2_with fail
      go_region_held3 (fun w' => w'.cell? ⟨bm, 0, none⟩ = some (.int .i64 x) ∧ w'.cell? ⟨bm, 1, none⟩ = some (.int .i64 y)) ((first | (refine ⟨?_, ?_⟩ <;> first | assumption | (rw [NEQ.out]; assumption)) | go_keep))
        (first
          | (go_at_call 17; refine (RB.out _ (by first | exact BD.out | exact BD.out.alloc (Nat.le_refl _) _)).mono ?_; rintro e9 w9 ⟨rfl, hb9, hc9⟩; have pp := PT3.out.below hb9; have q0 := pp.c0; have q1 := pp.c1; have q2 := pp.lt; have HB9 := Lib.hid hb9; try (have O9 : Out2 w3.heap.size 0 0 w9 := (out2_new w3.drew 30).below hc9; have o0 := O9.c0; have o1 := O9.c1; have o2 := O9.f0; have o3 := O9.f1; have o4 := O9.lt; clear O9); clear pp hb9 hc9))
      all_goals
        first
          | (have X := Lib.hid (show PtAt u0 u1 w3.heap.size ((w9.setCell ⟨w3.heap.size, 0, none⟩ (.int .i64 u0)).setCell ⟨w3.heap.size, 1, none⟩ (.int .i64 u1)) from by have O := Out2.set ⟨o4, o0, o1, o2, o3⟩ u0 u1; exact ⟨O.lt, O.c0, O.c1⟩); have B10 := Lib.hid (below_set2 HB9.out (Nat.le_refl _) (.int .i64 u0) (.int .i64 u1)); clear o0 o1 o2 o3 o4; generalize (w9.setCell ⟨w3.heap.size, 0, none⟩ (.int .i64 u0)).setCell ⟨w3.heap.size, 1, none⟩ (.int .i64 u1) = W10 at *)
          | (have X := Lib.hid (pt_new u0 u1 w9 30); have B10 := Lib.hid (HB9.out.alloc HB9.out.size (.cells #[.int .i64 u0, .int .i64 u1] 30)); generalize w9.alloc (.cells #[.int .i64 u0, .int .i64 u1] 30) = W10 at *)
      all_goals
        have HC10 := Lib.hid (HC3.out.below B10.out)
        have PT10 := Lib.hid (PT3.out.below B10.out)
        clear q0 q1 q2 y0 y1 y2
        have pt10 := PT10.out
        have y0 := pt10.c0
        have y1 := pt10.c1
        have y2 := pt10.lt
        clear pt10
        go_wp2_with fail
        refine (HRL.out _ HC10.out).mono ?_
        rintro e11 w11 ⟨rfl, hb11⟩
        have X11 := X.out.below hb11
        have B11 := Lib.hid (B10.out.trans (hb11.mono B10.out.size))
        have x0 := X11.c0
        have x1 := X11.c1
        have x2 := X11.lt
        clear X11 hb11 y0 y1 y2
        have BF := Lib.hid (HB3.out.trans (B11.out.mono (by rw [← HBM.out]; exact HB3.out.size)))
        have BG := Lib.hid (BF.out.alloc (by rw [← HBM.out]; exact BF.out.size) (.cells #[.int .i64 v0, .int .i64 v1] 30))
        go_wp2_with (go_at_call 24; refine (within_ok u0 u1 v0 v1 _ n1 n2 n3 n4).mono ?_; rintro e12 w12 ⟨rfl, hb12⟩)
        go_ret
        first
          | exact ⟨rfl, by rw [HBM.out]; exact BG.out⟩
          | exact ⟨rfl, by rw [HBM.out]; exact BG.out.trans (hb12.mono (by rw [← HBM.out]; exact BG.out.size))⟩
  · rcases key with ⟨k1, -⟩ | ⟨k1, k2, -⟩ | ⟨k1, k2, rfl⟩
    all_goals
      try (have k3 : decide ((0 : Int) < k) = true := by simpa using k2)
      obtain ⟨n1, n2⟩ := nest_one NO.out (HN.out rfl)
      go_wp2_with fail
      refine (CK.out _ (TL.out _ HC1.out)).mono ?_
      rintro e2 w2 ⟨rfl, hb2⟩
      have HB2 := Lib.hid (HB1.out.trans (hb2.mono (by rw [← HBM.out]; exact HB1.out.size)))
      have HC2 := Lib.hid (HC1.out.below hb2)
      have PT2 := Lib.hid (PT1.out.below hb2)
      clear hb2 y0 y1 y2
      have pt2 := PT2.out
      have y0 := pt2.c0
      have y1 := pt2.c1
      have y2 := pt2.lt
      clear pt2
      go_wp2_with fail
      refine (CL2.out _ HC2.out).mono ?_
      rintro e3 w3 ⟨rfl, hb3⟩
      have HB3 := Lib.hid (HB2.out.trans (hb3.mono (by rw [← HBM.out]; exact HB2.out.size)))
      have HC3 := Lib.hid (HC2.out.below hb3)
      have PT3 := Lib.hid (PT2.out.below hb3)
      clear hb3 y0 y1 y2
      have pt3 := PT3.out
      have y0 := pt3.c0
      have y1 := pt3.c1
      have y2 := pt3.lt
      clear pt3
      have RB := Lib.hid fun W (h : Below w3.heap.size w3 W) => (HRK.out W ((TL.out _ HC3.out).below h)).mono fun e w' ⟨h1, h2⟩ => show _ ∧ Below w3.heap.size w3 w' ∧ Below W.heap.size W w' from ⟨h1, h.trans (h2.mono h.size), h2⟩
      have BD := Lib.hid (show Below w3.heap.size w3 w3.drew from ⟨rfl, rfl, rfl, Nat.le_refl _, fun _ _ => rfl⟩)
      have hne : w3.heap.size ≠ bm := by omega
      have NEQ := Lib.hid fun (W : World) (u v : Value) (i : Nat) => show ((W.setCell ⟨w3.heap.size, 0, none⟩ u).setCell ⟨w3.heap.size, 1, none⟩ v).cell? ⟨bm, i, none⟩ = W.cell? ⟨bm, i, none⟩ from (World.cell?_setCell_far _ _ _ _ hne).trans (World.cell?_setCell_far _ _ _ _ hne)
      clear hne
      go_wp2_with fail
      go_region_held3 (fun w' => w'.cell? ⟨bm, 0, none⟩ = some (.int .i64 x) ∧ w'.cell? ⟨bm, 1, none⟩ = some (.int .i64 y)) ((first | (refine ⟨?_, ?_⟩ <;> first | assumption | (rw [NEQ.out]; assumption)) | go_keep))
        (first
          | (go_at_call 17; refine (RB.out _ (by first | exact BD.out | exact BD.out.alloc (Nat.le_refl _) _)).mono ?_; rintro e9 w9 ⟨rfl, hb9, hc9⟩; have pp := PT3.out.below hb9; have q0 := pp.c0; have q1 := pp.c1; have q2 := pp.lt; have HB9 := Lib.hid hb9; try (have O9 : Out2 w3.heap.size 0 0 w9 := (out2_new w3.drew 30).below hc9; have o0 := O9.c0; have o1 := O9.c1; have o2 := O9.f0; have o3 := O9.f1; have o4 := O9.lt; clear O9); clear pp hb9 hc9))
      all_goals
        first
          | (have X := Lib.hid (show PtAt u0 u1 w3.heap.size ((w9.setCell ⟨w3.heap.size, 0, none⟩ (.int .i64 u0)).setCell ⟨w3.heap.size, 1, none⟩ (.int .i64 u1)) from by have O := Out2.set ⟨o4, o0, o1, o2, o3⟩ u0 u1; exact ⟨O.lt, O.c0, O.c1⟩); have B10 := Lib.hid (below_set2 HB9.out (Nat.le_refl _) (.int .i64 u0) (.int .i64 u1)); clear o0 o1 o2 o3 o4; generalize (w9.setCell ⟨w3.heap.size, 0, none⟩ (.int .i64 u0)).setCell ⟨w3.heap.size, 1, none⟩ (.int .i64 u1) = W10 at *)
          | (have X := Lib.hid (pt_new u0 u1 w9 30); have B10 := Lib.hid (HB9.out.alloc HB9.out.size (.cells #[.int .i64 u0, .int .i64 u1] 30)); generalize w9.alloc (.cells #[.int .i64 u0, .int .i64 u1] 30) = W10 at *)
      all_goals
        have HC10 := Lib.hid (HC3.out.below B10.out)
        have PT10 := Lib.hid (PT3.out.below B10.out)
        clear q0 q1 q2 y0 y1 y2
        have pt10 := PT10.out
        have y0 := pt10.c0
        have y1 := pt10.c1
        have y2 := pt10.lt
        clear pt10
        go_wp2_with fail
        refine (HRL.out _ HC10.out).mono ?_
        rintro e11 w11 ⟨rfl, hb11⟩
        have X11 := X.out.below hb11
        have B11 := Lib.hid (B10.out.trans (hb11.mono B10.out.size))
        have x0 := X11.c0
        have x1 := X11.c1
        have x2 := X11.lt
        clear X11 hb11 y0 y1 y2
        have BF := Lib.hid (HB3.out.trans (B11.out.mono (by rw [← HBM.out]; exact HB3.out.size)))
        have BG := Lib.hid (BF.out.alloc (by rw [← HBM.out]; exact BF.out.size) (.cells #[.int .i64 v0, .int .i64 v1] 30))
        go_wp2_with (go_at_call 24; refine (within_ok u0 u1 v0 v1 _ n1 n2 n3 n4).mono ?_; rintro e12 w12 ⟨rfl, hb12⟩)
        go_ret
        first
          | exact ⟨rfl, by rw [HBM.out]; exact BG.out⟩
          | exact ⟨rfl, by rw [HBM.out]; exact BG.out.trans (hb12.mono (by rw [← HBM.out]; exact BG.out.size))⟩

/-! ### the row's step -/
set_option maxRecDepth 100000 in
theorem contract (H : Type) (enc : TypeId × Value → H) (W : World) (base : Nat) (args : Array Value) (ds gs : List (DataW H)) (before : List MemPlace)
    (hval : ∀ (j : Nat) t v, Try.f8.params[j]? = some t → args[j]? = some v → Value.okWide Try.prog W .any base t v)
    (hW : DataW.Whole enc Try.prog Try.f8.params.toList Rows.exclusionNestsSpec.vars false W args.toList ds gs before) :
    Calls Try.prog 8 args W fun e W' => ∃ v, e = .returned v ∧ Rows.exclusionNestsSpec.post enc Try.prog Try.f8 false true false false W args v W' := by
  have hW' := hW
  obtain ⟨p, q, hA0, hV, rfl, hfz, hnd⟩ := hW
  have hA : DataW.TrodAll enc Try.prog W 0 (fun _ => true) true Try.f8.params.toList args.toList ds p := hA0
  rw [Try.params8] at hA hval
  obtain ⟨v0, vs0, d0, ds0, p0, q0, hargs, rfl, rfl, h0, r0⟩ := trodAll_cons hA
  obtain ⟨v1, vs1, d1, ds1, p1, q1, rfl, rfl, rfl, h1, r1⟩ := trodAll_cons r0
  obtain ⟨v2, vs2, d2, ds2, p2, q2, rfl, rfl, rfl, h2, r2⟩ := trodAll_cons r1
  obtain ⟨rfl, rfl, rfl⟩ := trodAll_nil r2
  obtain rfl : args = #[v0, v1, v2] := by cases args; simp_all
  obtain ⟨rfl, rfl⟩ := trodVars_none hV
  have h0k := h0
  obtain ⟨l0, g0⟩ := open_list (hval 0 22 v0 rfl rfl) h0
  obtain ⟨a1, rfl, rfl, rfl, w1⟩ := open_int Try.underlying3 (hval 1 3 v1 rfl rfl) h1
  obtain ⟨x2_0, x2_1, rfl, rfl, rfl, w2_0, w2_1⟩ := open_ints2 (hval 2 40 v2 rfl rfl) h2
  clear hA0
  simp only [List.append_nil] at hW'
  refine (walk v0 l0 a1 x2_0 x2_1 W g0 (bd64 w1).1 (bd64 w1).2 (bd64 w2_0).1 (bd64 w2_0).2 (bd64 w2_1).1 (bd64 w2_1).2).mono fun e W' ⟨he, hb⟩ => ?_
  subst he
  have hlt : ∀ x ∈ p0, x.block < W.heap.size := fun x hx => hW'.lt x (by simpa using hx)
  exact ⟨_, rfl, post_of_below (pa := p0) (pv := []) hW' (fun _ _ _ => trodAll_cons_mk (shut_bool Try.underlying4 _) trodAll_mk0)
    (fun sp hsp0 => by
      have hsp : ∀ x ∈ p0, sp x.block = true := fun x hx => hsp0 x (by simpa using hx)
      have := (trodAll_cons_mk (WideElems.Trod_stays laidOut (by kernel_rfl) (of_decide_eq_true (by kernel_rfl)) h0k (fun x hx => hb.same (hlt x hx)) (fun x hx => hsp x hx)) (trodAll_cons_mk (shut_int Try.underlying3 w1) (trodAll_cons_mk (shut_ints2 w2_0 w2_1) trodAll_mk0)))
      simp only [List.append_nil] at this
      exact this) (fun _ _ => rfl) (by simp)
    hb (ok_one (by kernel_rfl) rfl (okWide_bool_mk Try.underlying4 _))⟩

set_option maxRecDepth 100000 in
theorem lifted (os : Os) (started : os.Started) (H : Type) (enc : TypeId × Value → H) :
    ReturnsInHanded {} Try.checked os 8 .any (Rows.exclusionNestsSpec.pre6 enc Try.prog Try.f8 Rows.exclusionNestsRow.domain false) (Rows.exclusionNestsSpec.post enc Try.prog Try.f8 false true false false) := by
  refine returnsInHanded_of_change (C := Try.checked) own started (by kernel_rfl) Try.func8
    (ChangeSpec.witness6 (enc := enc) (C := Try.checked) false ⟨#[], #[.slice none 0 0, .int .i64 0, .agg #[.int .i64 0, .int .i64 0]], []⟩ 8 (by kernel_rfl) (by kernel_rfl) (by kernel_rfl) (by kernel_rfl)) ?_
  intro W base args ds gs before hval hW _ _
  exact contract H enc W base args ds gs before hval hW
/-- the law -/
theorem said : Rows.ExclusionNestsSaid :=
  OpenClaim.holds_of_wide 8 Try.f8 rfl rfl rfl rfl rfl rfl rfl ⟨rfl, rfl, rfl, rfl, rfl⟩ rfl rfl rfl rfl rfl (by kernel_rfl) Try.func8 (by kernel_rfl)
    (of_decide_eq_true (by kernel_rfl)) (by unfold Func.isWrapper; first | (rw [if_pos (by decide +kernel)]; kernel_rfl) | (rw [if_neg (by decide +kernel)]; exact ⟨rfl, rfl⟩))
    (fun os started H enc _ => lifted os started H enc)
end Go.Proofs.Ytmlopbolekddnaa.exclusionNests
