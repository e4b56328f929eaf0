/-
  The law IntegritySources.
-/
import Derived.Test.YtplgdlooglnpmaaStructs43
import Derived.Test.YtplgdlooglnpmaaAwake43
import Derived.Test.YtplgdlooglnpmaaEqI43
import Derived.Test.YtplgdlooglnpmaaEqMs43
import Derived.Test.YtplgdlooglnpmaaWoRef43
import Derived.Test.YtplgdlooglnpmaaSrcRef43
namespace Go.Proofs.Ytplgdlooglnpmaa.integritySources
set_option linter.unusedVariables false
open Go.ChangeShapes Go.WideShapes Go.ChangeAt Go.RowKit

theorem srcref_nil (w : World) :
    Calls Try.prog 20 #[.slice none 0 0] w fun e w' => (∃ u, e = .returned u ∧ OI w.heap.size w' u (srcL [])) ∧ Below w.heap.size w w' := by
  go_enter Try.func20, Try.ntmps20
  go_wp2
  go_loop [3, 11] (fun u v => u = .slice (some ⟨w.heap.size, 0, none⟩) 0 0 ∧ v = .int .i64 0) (fun _ _ => 0)
  case atStart => exact ⟨rfl, rfl⟩
  case round =>
    obtain ⟨rfl, rfl⟩ := hrel
    go_wp2
    go_ret
    have e : srcL [] = [] := by unfold srcL srtL; rw [List.map_nil, List.mergeSort_nil]; rfl
    exact ⟨⟨_, rfl, by rw [e]; exact World.ownsRow_lit w #[] 0 (Nat.le_refl _) (by decide) rfl⟩, (Below.refl _ _).alloc (Nat.le_refl _) _⟩
theorem srcref_any (l : List Ms) (v : Value) (w : World) (h : LstAt l v w) (hl : l.length ≤ 1000) :
    Calls Try.prog 20 #[v] w fun e w' => (∃ u, e = .returned u ∧ OI w.heap.size w' u (srcL l)) ∧ Below w.heap.size w w' := by
  rcases h with ⟨rfl, rfl⟩ | ⟨b, o, cap, rfl, h2, h3, h4⟩
  · exact srcref_nil w
  · exact srcref_some l b o cap w h4 h2 h3 hl
theorem oi_slice {B : Nat} {w : World} {v : Value} {l : List Int} (h : OI B w v l) : ∃ x y z, v = .slice x y z := by
  rcases oi_cases h with ⟨rfl, _⟩ | ⟨g, cap, rfl, _⟩
  · exact ⟨_, _, _, rfl⟩
  · exact ⟨_, _, _, rfl⟩
set_option maxHeartbeats 40000000 in
set_option maxRecDepth 100000 in
theorem walk (v : Value) (l : List Ms) (s : Int) (w : World) (h : LstAt l v w) (_f0 : -9223372036854775808 ≤ s) (_f1 : s ≤ 9223372036854775807) :
    Calls Try.prog 8 #[v, .int .i64 s] w fun e w' => e = .returned (.bool true) ∧ Below w.heap.size w w' := by
  clear _f0 _f1
  have H0 := Lib.hid h
  have HB := Lib.hid (Below.refl w.heap.size w)
  go_enter Try.func8, Try.ntmps8
  clear h
  go_wp2_with fail
  refine (awake_any _).mono ?_
  rintro e1 w1 ⟨rfl, hb1⟩
  replace HB := Lib.hid (HB.out.trans (hb1.mono HB.out.size))
  clear hb1
  go_wp2_with fail
  refine (cut_any _ _ _ (H0.out.below HB.out)).mono ?_
  rintro e2 w2 ⟨⟨ps, caps, rfl, hcl⟩, rfl⟩
  have HC := Lib.hid hcl
  have CL := Lib.hid (cut_len l)
  clear hcl H0
  generalize cutL l = L at *
  go_wp2_with fail
  refine (src_any L _ _ HC.out CL.out).mono ?_
  rintro e3 w3 ⟨⟨u1, rfl, o1⟩, hb3⟩
  have O1 := Lib.hid o1
  clear o1
  replace HB := Lib.hid (HB.out.trans (hb3.mono HB.out.size))
  replace HC := Lib.hid (HC.out.below hb3)
  clear hb3
  go_wp2_with fail
  refine (srcref_any L _ _ HC.out (Nat.le_trans CL.out (by omega))).mono ?_
  rintro e4 w4 ⟨⟨u2, rfl, o2⟩, hb4⟩
  have O2 := Lib.hid o2
  replace O1 := Lib.hid (O1.out.below hb4)
  clear o2
  replace HB := Lib.hid (HB.out.trans (hb4.mono HB.out.size))
  replace HC := Lib.hid (HC.out.below hb4)
  clear hb4
  obtain ⟨x1, y1, z1, hu1⟩ := oi_slice O1.out
  obtain ⟨x2, y2, z2, hu2⟩ := oi_slice O2.out
  subst hu1
  subst hu2
  go_wp2_with fail
  refine (eqi_same _ _ _ _ _ _ O1.out O2.out).mono ?_
  rintro e5 w5 ⟨rfl, hb5⟩
  replace HB := Lib.hid (HB.out.trans (hb5.mono HB.out.size))
  replace HC := Lib.hid (HC.out.below hb5)
  clear hb5
  go_wp2_with fail
  refine (wo_any L s _ _ HC.out CL.out).mono ?_
  rintro e6 w6 ⟨⟨u6, rfl, o6⟩, hb6⟩
  have O6 := Lib.hid (OM.lst o6)
  clear o6
  replace HB := Lib.hid (HB.out.trans (hb6.mono HB.out.size))
  replace HC := Lib.hid (HC.out.below hb6)
  clear hb6
  go_wp2_with fail
  refine (woref_any L s _ _ HC.out CL.out).mono ?_
  rintro e7 w7 ⟨⟨u7, rfl, o7⟩, hb7⟩
  have O7 := Lib.hid (OM.lst o7)
  replace O6 := Lib.hid (O6.out.below hb7)
  clear o7
  replace HB := Lib.hid (HB.out.trans (hb7.mono HB.out.size))
  replace HC := Lib.hid (HC.out.below hb7)
  clear hb7
  obtain ⟨x6, c6, hu6⟩ := lst_form O6.out
  obtain ⟨x7, c7, hu7⟩ := lst_form O7.out
  subst hu6
  subst hu7
  go_wp2_with fail
  refine (eqm_same _ _ _ _ _ _ O6.out O7.out).mono ?_
  rintro e8 w8 ⟨rfl, hb8⟩
  replace HB := Lib.hid (HB.out.trans (hb8.mono HB.out.size))
  replace HC := Lib.hid (HC.out.below hb8)
  clear hb8
  go_wp2
  go_ret
  exact ⟨rfl, HB.out⟩

/-! ### the row's step -/
set_option maxRecDepth 100000 in
theorem contract (H : Type) (enc : TypeId × Value → H) (W : World) (base : Nat) (args : Array Value) (ds gs : List (DataW H)) (before : List MemPlace)
    (hval : ∀ (j : Nat) t v, Try.f8.params[j]? = some t → args[j]? = some v → Value.okWide Try.prog W .any base t v)
    (hW : DataW.Whole enc Try.prog Try.f8.params.toList Rows.integritySourcesSpec.vars false W args.toList ds gs before) :
    Calls Try.prog 8 args W fun e W' => ∃ v, e = .returned v ∧ Rows.integritySourcesSpec.post enc Try.prog Try.f8 false true false false W args v W' := by
  have hW' := hW
  obtain ⟨p, q, hA0, hV, rfl, hfz, hnd⟩ := hW
  have hA : DataW.TrodAll enc Try.prog W 0 (fun _ => true) true Try.f8.params.toList args.toList ds p := hA0
  rw [Try.params8] at hA hval
  obtain ⟨v0, vs0, d0, ds0, p0, q0, hargs, rfl, rfl, h0, r0⟩ := trodAll_cons hA
  obtain ⟨v1, vs1, d1, ds1, p1, q1, rfl, rfl, rfl, h1, r1⟩ := trodAll_cons r0
  obtain ⟨rfl, rfl, rfl⟩ := trodAll_nil r1
  obtain rfl : args = #[v0, v1] := by cases args; simp_all
  obtain ⟨rfl, rfl⟩ := trodVars_none hV
  have h0k := h0
  obtain ⟨l0, g0⟩ := open_list (hval 0 22 v0 rfl rfl) h0
  obtain ⟨a1, rfl, rfl, rfl, w1⟩ := open_int Try.underlying3 (hval 1 3 v1 rfl rfl) h1
  clear hA0
  simp only [List.append_nil] at hW'
  refine (walk v0 l0 a1 W g0 (bd64 w1).1 (bd64 w1).2).mono fun e W' ⟨he, hb⟩ => ?_
  subst he
  have hlt : ∀ x ∈ p0, x.block < W.heap.size := fun x hx => hW'.lt x (by simpa using hx)
  exact ⟨_, rfl, post_of_below (pa := p0) (pv := []) hW' (fun _ _ _ => trodAll_cons_mk (shut_bool Try.underlying4 _) trodAll_mk0)
    (fun sp hsp0 => by
      have hsp : ∀ x ∈ p0, sp x.block = true := fun x hx => hsp0 x (by simpa using hx)
      have := (trodAll_cons_mk (WideElems.Trod_stays laidOut (by kernel_rfl) (of_decide_eq_true (by kernel_rfl)) h0k (fun x hx => hb.same (hlt x hx)) (fun x hx => hsp x hx)) (trodAll_cons_mk (shut_int Try.underlying3 w1) trodAll_mk0))
      simp only [List.append_nil] at this
      exact this) (fun _ _ => rfl) (by simp)
    hb (ok_one (by kernel_rfl) rfl (okWide_bool_mk Try.underlying4 _))⟩

set_option maxRecDepth 100000 in
theorem lifted (os : Os) (started : os.Started) (H : Type) (enc : TypeId × Value → H) :
    ReturnsInHanded {} Try.checked os 8 .any (Rows.integritySourcesSpec.pre6 enc Try.prog Try.f8 Rows.integritySourcesRow.domain false) (Rows.integritySourcesSpec.post enc Try.prog Try.f8 false true false false) := by
  refine returnsInHanded_of_change (C := Try.checked) own started (by kernel_rfl) Try.func8
    (ChangeSpec.witness6 (enc := enc) (C := Try.checked) false ⟨#[], #[.slice none 0 0, .int .i64 0], []⟩ 8 (by kernel_rfl) (by kernel_rfl) (by kernel_rfl) (by kernel_rfl)) ?_
  intro W base args ds gs before hval hW _ _
  exact contract H enc W base args ds gs before hval hW
/-- the law -/
theorem said : Rows.IntegritySourcesSaid :=
  OpenClaim.holds_of_wide 8 Try.f8 rfl rfl rfl rfl rfl rfl rfl ⟨rfl, rfl, rfl, rfl, rfl⟩ rfl rfl rfl rfl rfl (by kernel_rfl) Try.func8 (by kernel_rfl)
    (of_decide_eq_true (by kernel_rfl)) (by unfold Func.isWrapper; first | (rw [if_pos (by decide +kernel)]; kernel_rfl) | (rw [if_neg (by decide +kernel)]; exact ⟨rfl, rfl⟩))
    (fun os started H enc _ => lifted os started H enc)
end Go.Proofs.Ytplgdlooglnpmaa.integritySources
