/-
  The law ExclusionWithout.
-/
import Derived.Test.YtmlopbolekddnaaStructs44
import Derived.Test.YtmlopbolekddnaaLawCut
namespace Go.Proofs.Ytmlopbolekddnaa.exclusionWithout
set_option linter.unusedVariables false
open Go.ChangeShapes Go.WideShapes Go.ChangeAt Go.RowKit

theorem plain (l : List Ms) : ((fltF l).2 ≠ 0 → (fltF l).1 = 0) ∧ ((fltF l).2 = 0 → conF l = (decide ((fltF l).1 = 0), 0) ∧ ((fltF l).1 ≠ 0 → conF (woL l (fltF l).1) = (true, 0))) := by
  unfold fltF
  by_cases hc : chkL l = 0
  · rw [if_pos hc]
    by_cases hf : fullB l = true
    · rw [if_pos hf]
      by_cases ha : (srcL l).all (fuS l) = true
      · rw [if_pos ha]
        have hcon : conF l = (decide (0 < (corL l).length), 0) := by unfold conF; rw [if_pos hc, if_pos hf]
        unfold verd
        by_cases h0 : 0 < (corL l).length
        · rw [if_pos h0]
          refine ⟨fun h => rfl, fun _ => ⟨?_, fun h => absurd rfl h⟩⟩
          rw [hcon]
          simp [h0]
        · rw [if_neg h0]
          by_cases h1 : ((srcL l).filter (okS l)).length = 0
          · rw [if_pos h1]; exact ⟨fun _ => rfl, fun h => by simp at h⟩
          · rw [if_neg h1]
            by_cases h2 : 1 < ((srcL l).filter (okS l)).length
            · rw [if_pos h2]; exact ⟨fun _ => rfl, fun h => by simp at h⟩
            · rw [if_neg h2]
              refine ⟨fun h => absurd rfl h, fun _ => ?_⟩
              have hm : ((srcL l).filter (okS l)).getD 0 0 ∈ (srcL l).filter (okS l) := by
                rw [List.getD_eq_getElem?_getD, List.getElem?_eq_getElem (by omega)]
                exact List.getElem_mem _
              simp only
              generalize ((srcL l).filter (okS l)).getD 0 0 = k at *
              obtain ⟨hs, hk⟩ := List.mem_filter.1 hm
              have hfu := List.all_eq_true.1 ha k hs
              obtain ⟨m, hml, rfl⟩ := mem_srcL.1 hs
              have hok := (chkL_ok hc).2 m hml
              have hk0 := hok.s0
              have hne : ¬ m.s = 0 := by omega
              refine ⟨?_, fun _ => ?_⟩
              · rw [hcon]
                simp [h0, hne]
              · have hcw : chkL (woL l m.s) = 0 := chkL_of (Nat.le_trans (woL_len _ _) (chkL_ok hc).1) fun x hx => (chkL_ok hc).2 x (List.mem_filter.1 hx).1
                unfold conF
                rw [if_pos hcw, if_pos (show fullB (woL l m.s) = true from hfu)]
                have : decide (0 < (corL (woL l m.s)).length) = true := hk
                rw [this]
      · rw [if_neg ha]; exact ⟨fun _ => rfl, fun h => by simp at h⟩
    · rw [if_neg hf]; exact ⟨fun _ => rfl, fun h => by simp at h⟩
  · rw [if_neg hc]; exact ⟨fun _ => rfl, fun h => absurd h hc⟩
set_option maxHeartbeats 4000000 in
set_option maxRecDepth 100000 in
theorem walk (v : Value) (l : List Ms) (w : World) (h : LstAt l v w) :
    Calls Try.prog 7 #[v] w fun e w' => e = .returned (.bool true) ∧ Below w.heap.size w w' := by
  have HB0 := Lib.hid (Below.refl w.heap.size w)
  have HL0 := Lib.hid h
  go_enter Try.func7, Try.ntmps7
  go_wp2_with fail
  refine (awake_any _).mono ?_
  rintro e w1 ⟨rfl, hb1⟩
  have HB1 := Lib.hid (HB0.out.trans (hb1.mono HB0.out.size))
  have HL1 := Lib.hid (HL0.out.below hb1)
  clear hb1
  go_wp2_with fail
  refine (cut_any _ _ _ HL1.out).mono ?_
  rintro e w2 ⟨⟨p, cap, rfl, hcl⟩, rfl⟩
  have HC1 := Lib.hid hcl
  have PL := Lib.hid (plain (cutL l))
  have CL := Lib.hid (cut_len l)
  clear hcl
  generalize cutL l = L at *
  have FL := Lib.hid fun w h => flt_any L (.slice p L.length cap) w h
  have CO := Lib.hid fun w h => con_any L (.slice p L.length cap) w h
  have WO := Lib.hid fun s w h => wo_any L s (.slice p L.length cap) w h CL.out
  unfold FlP at FL
  generalize fltF L = r at *
  obtain ⟨k, z⟩ := r
  go_wp2_with fail
  refine (FL.out _ HC1.out).mono ?_
  rintro e w2 ⟨rfl, hb2⟩
  have HB2 := Lib.hid (HB1.out.trans (hb2.mono HB1.out.size))
  have HC2 := Lib.hid (HC1.out.below hb2)
  clear hb2
  by_cases hz : z = 0
  · have K := (PL.out).2 hz
    have gz : (z != 0) = false := by simpa using hz
    obtain ⟨K1, K2⟩ := K
    rw [K1] at CO
    have KK := Lib.hid K2
    clear K1 K2 hz
    go_wp2_with fail
    refine (CO.out _ HC2.out).mono ?_
    rintro e w3 ⟨rfl, hb3⟩
    have HB3 := Lib.hid (HB2.out.trans (hb3.mono HB2.out.size))
    have HC3 := Lib.hid (HC2.out.below hb3)
    clear hb3
    go_wp2_with fail
    refine (WO.out _ _ HC3.out).mono ?_
    rintro e w4 ⟨⟨u4, rfl, hom⟩, hb4⟩
    have HB4 := Lib.hid (HB3.out.trans (hb4.mono HB3.out.size))
    have C4 := Lib.hid (con_any (woL L k) u4 w4 hom.lst)
    clear hb4 hom
    go_wp2_with fail
    by_cases hk : k = 0
    · have gk : (k == 0) = true := by simpa using hk
      have gk2 : decide (k = 0) = true := by simpa using hk
      generalize conF (woL L k) = q at *
      obtain ⟨x, y⟩ := q
      refine C4.out.mono ?_
      rintro e w5 ⟨rfl, hb5⟩
      have HB5 := Lib.hid (HB4.out.trans (hb5.mono HB4.out.size))
      clear hb5
      have gy : (y == 0) = true ∨ (y == 0) = false := by cases y == 0 <;> simp
      rcases gy with gy | gy
      all_goals cases x
      all_goals
        go_wp2
        go_ret
        exact ⟨rfl, HB5.out⟩
    · have gk : (k == 0) = false := by simpa using hk
      have gk2 : decide (k = 0) = false := by simpa using hk
      have C5 := C4.out
      rw [KK.out hk] at C5
      have HC5 := Lib.hid C5
      clear C5 hk
      refine HC5.out.mono ?_
      rintro e w5 ⟨rfl, hb5⟩
      have HB5 := Lib.hid (HB4.out.trans (hb5.mono HB4.out.size))
      clear hb5
      go_wp2
      go_ret
      exact ⟨rfl, HB5.out⟩
  · have gz : (z != 0) = true := by simpa using hz
    have K : k = 0 := (PL.out).1 hz
    subst K
    clear hz
    go_wp2
    go_ret
    exact ⟨rfl, HB2.out⟩

/-! ### the row's step -/
set_option maxRecDepth 100000 in
theorem contract (H : Type) (enc : TypeId × Value → H) (W : World) (base : Nat) (args : Array Value) (ds gs : List (DataW H)) (before : List MemPlace)
    (hval : ∀ (j : Nat) t v, Try.f7.params[j]? = some t → args[j]? = some v → Value.okWide Try.prog W .any base t v)
    (hW : DataW.Whole enc Try.prog Try.f7.params.toList Rows.exclusionWithoutSpec.vars false W args.toList ds gs before) :
    Calls Try.prog 7 args W fun e W' => ∃ v, e = .returned v ∧ Rows.exclusionWithoutSpec.post enc Try.prog Try.f7 false true false false W args v W' := by
  have hW' := hW
  obtain ⟨p, q, hA0, hV, rfl, hfz, hnd⟩ := hW
  have hA : DataW.TrodAll enc Try.prog W 0 (fun _ => true) true Try.f7.params.toList args.toList ds p := hA0
  rw [Try.params7] at hA hval
  obtain ⟨v0, vs0, d0, ds0, p0, q0, hargs, rfl, rfl, h0, r0⟩ := trodAll_cons hA
  obtain ⟨rfl, rfl, rfl⟩ := trodAll_nil r0
  obtain rfl : args = #[v0] := by cases args; simp_all
  obtain ⟨rfl, rfl⟩ := trodVars_none hV
  have h0k := h0
  obtain ⟨l0, g0⟩ := open_list (hval 0 22 v0 rfl rfl) h0
  clear hA0
  simp only [List.append_nil] at hW'
  refine (walk v0 l0 W g0).mono fun e W' ⟨he, hb⟩ => ?_
  subst he
  have hlt : ∀ x ∈ p0, x.block < W.heap.size := fun x hx => hW'.lt x (by simpa using hx)
  exact ⟨_, rfl, post_of_below (pa := p0) (pv := []) hW' (fun _ _ _ => trodAll_cons_mk (shut_bool Try.underlying4 _) trodAll_mk0)
    (fun sp hsp0 => by
      have hsp : ∀ x ∈ p0, sp x.block = true := fun x hx => hsp0 x (by simpa using hx)
      have := (trodAll_cons_mk (WideElems.Trod_stays laidOut (by kernel_rfl) (of_decide_eq_true (by kernel_rfl)) h0k (fun x hx => hb.same (hlt x hx)) (fun x hx => hsp x hx)) trodAll_mk0)
      simp only [List.append_nil] at this
      exact this) (fun _ _ => rfl) (by simp)
    hb (ok_one (by kernel_rfl) rfl (okWide_bool_mk Try.underlying4 _))⟩

set_option maxRecDepth 100000 in
theorem lifted (os : Os) (started : os.Started) (H : Type) (enc : TypeId × Value → H) :
    ReturnsInHanded {} Try.checked os 7 .any (Rows.exclusionWithoutSpec.pre6 enc Try.prog Try.f7 Rows.exclusionWithoutRow.domain false) (Rows.exclusionWithoutSpec.post enc Try.prog Try.f7 false true false false) := by
  refine returnsInHanded_of_change (C := Try.checked) own started (by kernel_rfl) Try.func7
    (ChangeSpec.witness6 (enc := enc) (C := Try.checked) false ⟨#[], #[.slice none 0 0], []⟩ 8 (by kernel_rfl) (by kernel_rfl) (by kernel_rfl) (by kernel_rfl)) ?_
  intro W base args ds gs before hval hW _ _
  exact contract H enc W base args ds gs before hval hW
/-- the law -/
theorem said : Rows.ExclusionWithoutSaid :=
  OpenClaim.holds_of_wide 7 Try.f7 rfl rfl rfl rfl rfl rfl rfl ⟨rfl, rfl, rfl, rfl, rfl⟩ rfl rfl rfl rfl rfl (by kernel_rfl) Try.func7 (by kernel_rfl)
    (of_decide_eq_true (by kernel_rfl)) (by unfold Func.isWrapper; first | (rw [if_pos (by decide +kernel)]; kernel_rfl) | (rw [if_neg (by decide +kernel)]; exact ⟨rfl, rfl⟩))
    (fun os started H enc _ => lifted os started H enc)
end Go.Proofs.Ytmlopbolekddnaa.exclusionWithout
