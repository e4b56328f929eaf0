/-
  The law ExclusionFaults.
-/
import Derived.Test.YtmlopbolekddnaaStructs44
import Derived.Test.YtmlopbolekddnaaLawCut
import Derived.Test.YtmlopbolekddnaaRef44H
namespace Go.Proofs.Ytmlopbolekddnaa.exclusionFaults
set_option linter.unusedVariables false
open Go.ChangeShapes Go.WideShapes Go.ChangeAt Go.RowKit

set_option maxHeartbeats 4000000 in
set_option maxRecDepth 100000 in
theorem walk (v : Value) (l : List Ms) (w : World) (h : LstAt l v w) :
    Calls Try.prog 5 #[v] w fun e w' => e = .returned (.bool true) ∧ Below w.heap.size w w' := by
  have HB := Lib.hid (Below.refl w.heap.size w)
  have HC := Lib.hid h
  go_enter Try.func5, Try.ntmps5
  clear h
  go_wp2_with fail
  refine (awake_any _).mono ?_
  rintro e1 w1 ⟨rfl, hb1⟩
  replace HB := Lib.hid (HB.out.trans (hb1.mono HB.out.size))
  replace HC := Lib.hid (HC.out.below hb1)
  clear hb1
  go_wp2_with fail
  refine (cut_any _ _ _ HC.out).mono ?_
  rintro e w2 ⟨⟨p, cap, rfl, hcl⟩, rfl⟩
  have HC := Lib.hid hcl
  clear hcl
  generalize cutL l = L at *
  have RG := fun w h => flt_any L (.slice p L.length cap) w h
  have RR := fun w h => fltref_any L (.slice p L.length cap) w h
  unfold FlP at RG RR
  generalize fltF L = r at *
  obtain ⟨d, z⟩ := r
  have HRG := Lib.hid RG
  have HRR := Lib.hid RR
  clear RG RR
  go_wp2_with fail
  refine (HRG.out _ HC.out).mono ?_
  rintro e2 w2 ⟨rfl, hb2⟩
  replace HB := Lib.hid (HB.out.trans (hb2.mono HB.out.size))
  replace HC := Lib.hid (HC.out.below hb2)
  clear hb2
  go_wp2_with fail
  refine (HRR.out _ HC.out).mono ?_
  rintro e3 w3 ⟨rfl, hb3⟩
  replace HB := Lib.hid (HB.out.trans (hb3.mono HB.out.size))
  replace HC := Lib.hid (HC.out.below hb3)
  clear hb3
  go_wp2
  go_ret
  exact ⟨rfl, HB.out⟩

/-! ### the row's step -/
set_option maxRecDepth 100000 in
theorem contract (H : Type) (enc : TypeId × Value → H) (W : World) (base : Nat) (args : Array Value) (ds gs : List (DataW H)) (before : List MemPlace)
    (hval : ∀ (j : Nat) t v, Try.f5.params[j]? = some t → args[j]? = some v → Value.okWide Try.prog W .any base t v)
    (hW : DataW.Whole enc Try.prog Try.f5.params.toList Rows.exclusionFaultsSpec.vars false W args.toList ds gs before) :
    Calls Try.prog 5 args W fun e W' => ∃ v, e = .returned v ∧ Rows.exclusionFaultsSpec.post enc Try.prog Try.f5 false true false false W args v W' := by
  have hW' := hW
  obtain ⟨p, q, hA0, hV, rfl, hfz, hnd⟩ := hW
  have hA : DataW.TrodAll enc Try.prog W 0 (fun _ => true) true Try.f5.params.toList args.toList ds p := hA0
  rw [Try.params5] at hA hval
  obtain ⟨v0, vs0, d0, ds0, p0, q0, hargs, rfl, rfl, h0, r0⟩ := trodAll_cons hA
  obtain ⟨rfl, rfl, rfl⟩ := trodAll_nil r0
  obtain rfl : args = #[v0] := by cases args; simp_all
  obtain ⟨rfl, rfl⟩ := trodVars_none hV
  have h0k := h0
  obtain ⟨l0, g0⟩ := open_list (hval 0 22 v0 rfl rfl) h0
  clear hA0
  simp only [List.append_nil] at hW'
  refine (walk v0 l0 W g0).mono fun e W' ⟨he, hb⟩ => ?_
  subst he
  have hlt : ∀ x ∈ p0, x.block < W.heap.size := fun x hx => hW'.lt x (by simpa using hx)
  exact ⟨_, rfl, post_of_below (pa := p0) (pv := []) hW' (fun _ _ _ => trodAll_cons_mk (shut_bool Try.underlying4 _) trodAll_mk0)
    (fun sp hsp0 => by
      have hsp : ∀ x ∈ p0, sp x.block = true := fun x hx => hsp0 x (by simpa using hx)
      have := (trodAll_cons_mk (WideElems.Trod_stays laidOut (by kernel_rfl) (of_decide_eq_true (by kernel_rfl)) h0k (fun x hx => hb.same (hlt x hx)) (fun x hx => hsp x hx)) trodAll_mk0)
      simp only [List.append_nil] at this
      exact this) (fun _ _ => rfl) (by simp)
    hb (ok_one (by kernel_rfl) rfl (okWide_bool_mk Try.underlying4 _))⟩

set_option maxRecDepth 100000 in
theorem lifted (os : Os) (started : os.Started) (H : Type) (enc : TypeId × Value → H) :
    ReturnsInHanded {} Try.checked os 5 .any (Rows.exclusionFaultsSpec.pre6 enc Try.prog Try.f5 Rows.exclusionFaultsRow.domain false) (Rows.exclusionFaultsSpec.post enc Try.prog Try.f5 false true false false) := by
  refine returnsInHanded_of_change (C := Try.checked) own started (by kernel_rfl) Try.func5
    (ChangeSpec.witness6 (enc := enc) (C := Try.checked) false ⟨#[], #[.slice none 0 0], []⟩ 8 (by kernel_rfl) (by kernel_rfl) (by kernel_rfl) (by kernel_rfl)) ?_
  intro W base args ds gs before hval hW _ _
  exact contract H enc W base args ds gs before hval hW
/-- the law -/
theorem said : Rows.ExclusionFaultsSaid :=
  OpenClaim.holds_of_wide 5 Try.f5 rfl rfl rfl rfl rfl rfl rfl ⟨rfl, rfl, rfl, rfl, rfl⟩ rfl rfl rfl rfl rfl (by kernel_rfl) Try.func5 (by kernel_rfl)
    (of_decide_eq_true (by kernel_rfl)) (by unfold Func.isWrapper; first | (rw [if_pos (by decide +kernel)]; kernel_rfl) | (rw [if_neg (by decide +kernel)]; exact ⟨rfl, rfl⟩))
    (fun os started H enc _ => lifted os started H enc)
end Go.Proofs.Ytmlopbolekddnaa.exclusionFaults
