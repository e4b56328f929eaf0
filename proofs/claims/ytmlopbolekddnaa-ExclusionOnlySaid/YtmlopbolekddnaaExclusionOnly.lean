/-
  The law ExclusionOnly.
-/
import Derived.Test.YtmlopbolekddnaaStructs44
import Derived.Test.YtmlopbolekddnaaHonestPlain
namespace Go.Proofs.Ytmlopbolekddnaa.exclusionOnly
set_option linter.unusedVariables false
open Go.ChangeShapes Go.WideShapes Go.ChangeAt Go.RowKit

set_option maxHeartbeats 8000000 in
set_option maxRecDepth 100000 in
theorem walk (v : Value) (l : List Ms) (x y but : Int) (w : World) (h : LstAt l v w) (_x0 : -9223372036854775808 ≤ x) (_x1 : x ≤ 9223372036854775807) (_y0 : -9223372036854775808 ≤ y) (_y1 : y ≤ 9223372036854775807) (_b0 : -9223372036854775808 ≤ but) (_b1 : but ≤ 9223372036854775807) :
    Calls Try.prog 10 #[v, .agg #[.int .i64 x, .int .i64 y], .int .i64 but] w fun e w' => e = .returned (.bool true) ∧ Below w.heap.size w w' := by
  have PT0 := Lib.hid (pt_new x y w 44)
  have HB0 := Lib.hid ((Below.refl w.heap.size w).alloc (Nat.le_refl _) (.cells #[.int .i64 x, .int .i64 y] 44))
  have HL0 := Lib.hid (h.below ((Below.refl w.heap.size w).alloc (Nat.le_refl _) (.cells #[.int .i64 x, .int .i64 y] 44)))
  go_enter Try.func10, Try.ntmps10
  go_wp2_with fail
  generalize w.alloc (.cells #[.int .i64 x, .int .i64 y] 44) = w0 at *
  generalize hbm : w.heap.size = bm at *
  have HBM := Lib.hid hbm
  clear hbm
  refine (awake_any _).mono ?_
  rintro e w1 ⟨rfl, hb1⟩
  have HB1 := Lib.hid (HB0.out.trans (hb1.mono (by rw [← HBM.out]; exact HB0.out.size)))
  have HL1 := Lib.hid (HL0.out.below hb1)
  have PT1 := Lib.hid (PT0.out.below hb1)
  clear hb1
  go_wp2_with fail
  refine (cut_any _ _ _ HL1.out).mono ?_
  rintro e w2 ⟨⟨p, cap, rfl, hcl⟩, rfl⟩
  have HC1 := Lib.hid hcl
  have CL := Lib.hid (cut_len l)
  clear hcl
  generalize cutL l = L at *
  have FL := Lib.hid fun w h => flt_any L (.slice p L.length cap) w h
  unfold FlP at FL
  have CH := fun w h => check_any L (.slice p L.length cap) w h
  have AL := fun w h => all_any L x y but (.slice p L.length cap) w h
  have VP := fun w => vldP_any x y w
  have BF := bad_flt L
  have GF := fun hc ha => only_flt (l := L) (x := x) (y := y) (but := but) hc ha
  generalize fltF L = r at *
  obtain ⟨k, f⟩ := r
  simp only at BF GF
  go_wp2_with fail
  refine (FL.out _ HC1.out).mono ?_
  rintro e w2 ⟨rfl, hb2⟩
  have HB2 := Lib.hid (HB1.out.trans (hb2.mono (by rw [← HBM.out]; exact HB1.out.size)))
  have HC2 := Lib.hid (HC1.out.below hb2)
  have PT2 := Lib.hid (PT1.out.below hb2)
  clear hb2
  have pt2 := PT2.out
  have y0 := pt2.c0
  have y1 := pt2.c1
  have y2 := pt2.lt
  clear pt2
  cases hv : vldP x y with
  | false =>
    have K2 : (f == 0) = true ∨ ((f == 0) = false ∧ (k == 0) = true) := by rcases BF with rfl | rfl; exact .inl rfl; cases f == 0; exact .inr ⟨rfl, rfl⟩; exact .inl rfl
    rw [hv] at VP
    have HVP := Lib.hid VP
    clear VP hv BF GF AL CH
    go_wp2_with fail
    refine (HVP.out _).mono ?_
    rintro e w3 ⟨rfl, hb3⟩
    have HB3 := Lib.hid (HB2.out.trans (hb3.mono (by rw [← HBM.out]; exact HB2.out.size)))
    have HC3 := Lib.hid (HC2.out.below hb3)
    have PT3 := Lib.hid (PT2.out.below hb3)
    clear hb3
    rcases K2 with u2 | ⟨u2, u3⟩
    all_goals
      go_wp2
      all_goals go_ret
      all_goals exact ⟨rfl, by rw [HBM.out]; exact HB3.out⟩
  | true =>
    rw [hv] at VP
    have HVP := Lib.hid VP
    clear VP hv
    go_wp2_with fail
    refine (HVP.out _).mono ?_
    rintro e w3 ⟨rfl, hb3⟩
    have HB3 := Lib.hid (HB2.out.trans (hb3.mono (by rw [← HBM.out]; exact HB2.out.size)))
    have HC3 := Lib.hid (HC2.out.below hb3)
    have PT3 := Lib.hid (PT2.out.below hb3)
    clear hb3
    clear y0 y1 y2
    have pt3 := PT3.out
    have y0 := pt3.c0
    have y1 := pt3.c1
    have y2 := pt3.lt
    clear pt3
    cases ha : allB L x y but with
    | false =>
      have K2 : (f == 0) = true ∨ ((f == 0) = false ∧ (k == 0) = true) := by rcases BF with rfl | rfl; exact .inl rfl; cases f == 0; exact .inr ⟨rfl, rfl⟩; exact .inl rfl
      rw [ha] at AL
      have HAL := Lib.hid AL
      clear AL ha BF GF CH
      go_wp2_with fail
      refine (HAL.out _ HC3.out).mono ?_
      rintro e w4 ⟨rfl, hb4⟩
      have HB4 := Lib.hid (HB3.out.trans (hb4.mono (by rw [← HBM.out]; exact HB3.out.size)))
      have HC4 := Lib.hid (HC3.out.below hb4)
      have PT4 := Lib.hid (PT3.out.below hb4)
      clear hb4
      rcases K2 with u2 | ⟨u2, u3⟩
      all_goals
        go_wp2
        all_goals go_ret
        all_goals exact ⟨rfl, by rw [HBM.out]; exact HB4.out⟩
    | true =>
      have GG := fun hc => GF hc ha
      rw [ha] at AL
      have HAL := Lib.hid AL
      clear AL ha GF
      go_wp2_with fail
      refine (HAL.out _ HC3.out).mono ?_
      rintro e w4 ⟨rfl, hb4⟩
      have HB4 := Lib.hid (HB3.out.trans (hb4.mono (by rw [← HBM.out]; exact HB3.out.size)))
      have HC4 := Lib.hid (HC3.out.below hb4)
      have PT4 := Lib.hid (PT3.out.below hb4)
      clear hb4
      by_cases hc : chkL L = 0
      · obtain ⟨n1, n2, n3⟩ := GG hc
        rw [hc] at CH
        have HCH := Lib.hid CH
        have N2 : (k == 0) = true ∨ ((k == 0) = false ∧ (k == but) = true) := by rcases n2 with rfl | rfl; exact .inl rfl; cases k == 0; exact .inr ⟨rfl, by simp⟩; exact .inl rfl
        clear CH hc GG BF n1 n2
        go_wp2_with fail
        refine (HCH.out _ HC4.out).mono ?_
        rintro e w5 ⟨rfl, hb5⟩
        have HB5 := Lib.hid (HB4.out.trans (hb5.mono (by rw [← HBM.out]; exact HB4.out.size)))
        have HC5 := Lib.hid (HC4.out.below hb5)
        have PT5 := Lib.hid (PT4.out.below hb5)
        clear hb5
        rcases n3 with rfl | rfl | rfl <;> rcases N2 with u2 | ⟨u2, u3⟩
        all_goals
          go_wp2
          all_goals go_ret
          all_goals exact ⟨rfl, by rw [HBM.out]; exact HB5.out⟩
      · have gc : (chkL L != 0) = true := by simpa using hc
        have K2 : (f == 0) = true ∨ ((f == 0) = false ∧ (k == 0) = true) := by rcases BF with rfl | rfl; exact .inl rfl; cases f == 0; exact .inr ⟨rfl, rfl⟩; exact .inl rfl
        have HCH := Lib.hid CH
        clear CH BF GG hc
        generalize chkL L = c at *
        go_wp2_with fail
        refine (HCH.out _ HC4.out).mono ?_
        rintro e w5 ⟨rfl, hb5⟩
        have HB5 := Lib.hid (HB4.out.trans (hb5.mono (by rw [← HBM.out]; exact HB4.out.size)))
        have HC5 := Lib.hid (HC4.out.below hb5)
        have PT5 := Lib.hid (PT4.out.below hb5)
        clear hb5
        rcases K2 with u2 | ⟨u2, u3⟩
        all_goals
          go_wp2
          all_goals go_ret
          all_goals exact ⟨rfl, by rw [HBM.out]; exact HB5.out⟩

/-! ### the row's step -/
set_option maxRecDepth 100000 in
theorem contract (H : Type) (enc : TypeId × Value → H) (W : World) (base : Nat) (args : Array Value) (ds gs : List (DataW H)) (before : List MemPlace)
    (hval : ∀ (j : Nat) t v, Try.f10.params[j]? = some t → args[j]? = some v → Value.okWide Try.prog W .any base t v)
    (hW : DataW.Whole enc Try.prog Try.f10.params.toList Rows.exclusionOnlySpec.vars false W args.toList ds gs before) :
    Calls Try.prog 10 args W fun e W' => ∃ v, e = .returned v ∧ Rows.exclusionOnlySpec.post enc Try.prog Try.f10 false true false false W args v W' := by
  have hW' := hW
  obtain ⟨p, q, hA0, hV, rfl, hfz, hnd⟩ := hW
  have hA : DataW.TrodAll enc Try.prog W 0 (fun _ => true) true Try.f10.params.toList args.toList ds p := hA0
  rw [Try.params10] at hA hval
  obtain ⟨v0, vs0, d0, ds0, p0, q0, hargs, rfl, rfl, h0, r0⟩ := trodAll_cons hA
  obtain ⟨v1, vs1, d1, ds1, p1, q1, rfl, rfl, rfl, h1, r1⟩ := trodAll_cons r0
  obtain ⟨v2, vs2, d2, ds2, p2, q2, rfl, rfl, rfl, h2, r2⟩ := trodAll_cons r1
  obtain ⟨rfl, rfl, rfl⟩ := trodAll_nil r2
  obtain rfl : args = #[v0, v1, v2] := by cases args; simp_all
  obtain ⟨rfl, rfl⟩ := trodVars_none hV
  have h0k := h0
  obtain ⟨l0, g0⟩ := open_list (hval 0 22 v0 rfl rfl) h0
  obtain ⟨x1_0, x1_1, rfl, rfl, rfl, w1_0, w1_1⟩ := open_point (hval 1 44 v1 rfl rfl) h1
  obtain ⟨a2, rfl, rfl, rfl, w2⟩ := open_int Try.underlying3 (hval 2 3 v2 rfl rfl) h2
  clear hA0
  simp only [List.append_nil] at hW'
  refine (walk v0 l0 x1_0 x1_1 a2 W g0 (bd64 w1_0).1 (bd64 w1_0).2 (bd64 w1_1).1 (bd64 w1_1).2 (bd64 w2).1 (bd64 w2).2).mono fun e W' ⟨he, hb⟩ => ?_
  subst he
  have hlt : ∀ x ∈ p0, x.block < W.heap.size := fun x hx => hW'.lt x (by simpa using hx)
  exact ⟨_, rfl, post_of_below (pa := p0) (pv := []) hW' (fun _ _ _ => trodAll_cons_mk (shut_bool Try.underlying4 _) trodAll_mk0)
    (fun sp hsp0 => by
      have hsp : ∀ x ∈ p0, sp x.block = true := fun x hx => hsp0 x (by simpa using hx)
      have := (trodAll_cons_mk (WideElems.Trod_stays laidOut (by kernel_rfl) (of_decide_eq_true (by kernel_rfl)) h0k (fun x hx => hb.same (hlt x hx)) (fun x hx => hsp x hx)) (trodAll_cons_mk (shut_point w1_0 w1_1) (trodAll_cons_mk (shut_int Try.underlying3 w2) trodAll_mk0)))
      simp only [List.append_nil] at this
      exact this) (fun _ _ => rfl) (by simp)
    hb (ok_one (by kernel_rfl) rfl (okWide_bool_mk Try.underlying4 _))⟩

set_option maxRecDepth 100000 in
theorem lifted (os : Os) (started : os.Started) (H : Type) (enc : TypeId × Value → H) :
    ReturnsInHanded {} Try.checked os 10 .any (Rows.exclusionOnlySpec.pre6 enc Try.prog Try.f10 Rows.exclusionOnlyRow.domain false) (Rows.exclusionOnlySpec.post enc Try.prog Try.f10 false true false false) := by
  refine returnsInHanded_of_change (C := Try.checked) own started (by kernel_rfl) Try.func10
    (ChangeSpec.witness6 (enc := enc) (C := Try.checked) false ⟨#[], #[.slice none 0 0, .agg #[.int .i64 0, .int .i64 0], .int .i64 0], []⟩ 8 (by kernel_rfl) (by kernel_rfl) (by kernel_rfl) (by kernel_rfl)) ?_
  intro W base args ds gs before hval hW _ _
  exact contract H enc W base args ds gs before hval hW
/-- the law -/
theorem said : Rows.ExclusionOnlySaid :=
  OpenClaim.holds_of_wide 10 Try.f10 rfl rfl rfl rfl rfl rfl rfl ⟨rfl, rfl, rfl, rfl, rfl⟩ rfl rfl rfl rfl rfl (by kernel_rfl) Try.func10 (by kernel_rfl)
    (of_decide_eq_true (by kernel_rfl)) (by unfold Func.isWrapper; first | (rw [if_pos (by decide +kernel)]; kernel_rfl) | (rw [if_neg (by decide +kernel)]; exact ⟨rfl, rfl⟩))
    (fun os started H enc _ => lifted os started H enc)
end Go.Proofs.Ytmlopbolekddnaa.exclusionOnly
