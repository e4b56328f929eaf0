/-
  The law IntegrityNoises.
-/
import Derived.Test.YtplgdlooglnpmaaGreatLN43x10
namespace Go.Proofs.YtplgdlooglnpmaaGreat.integrityNoises
set_option linter.unusedVariables false
open Go.ChangeShapes Go.WideShapes Go.ChangeAt Go.RowKit

set_option maxHeartbeats 40000000 in
set_option maxRecDepth 100000 in
theorem walk (v : Value) (l : List Ms) (w : World) (h : LstAt l v w) :
    Calls Tryz.prog 4 #[v] w fun e w' => e = .returned (.bool true) ∧ Below w.heap.size w w' := by
  have H0 := Lib.hid h
  have HB := Lib.hid (Below.refl w.heap.size w)
  go_enter Tryz.func4, Tryz.ntmps4
  clear h
  go_wp2_with fail
  refine (awake_any _).mono ?_
  rintro e1 w1 ⟨rfl, hb1⟩
  replace HB := Lib.hid (HB.out.trans (hb1.mono HB.out.size))
  clear hb1
  go_wp2_with fail
  refine (cut_any _ _ _ (H0.out.below HB.out)).mono ?_
  rintro e2 w2 ⟨⟨ps, caps, rfl, hcl⟩, rfl⟩
  have HC := Lib.hid hcl
  clear hcl H0
  generalize cutL l = L at *
  have S1 := Lib.hid fun w h => noi_any L (.slice ps L.length caps) w h
  have S2 := Lib.hid fun w h => rNoise_any L (.slice ps L.length caps) w h
  obtain ⟨R, hR⟩ : ∃ z, noiF L = z := ⟨_, rfl⟩
  rw [hR] at S1 S2
  clear hR
  obtain ⟨⟨rx, ry⟩, re⟩ := R
  simp only at S1 S2
  have S3 := Lib.hid fun w h => acc_any L (.slice ps L.length caps) w h
  have S4 := Lib.hid fun w h => racc_any L (.slice ps L.length caps) w h
  obtain ⟨R, hR⟩ : ∃ z, accF L = z := ⟨_, rfl⟩
  rw [hR] at S3 S4
  clear hR
  obtain ⟨⟨cx, cy, bx, by'⟩, z⟩ := R
  unfold boxV at S3 S4
  simp only at S3 S4
  go_wp2_with fail
  refine (S1.out _ HC.out).mono ?_
  rintro e3 w3 ⟨rfl, hb3⟩
  replace HB := Lib.hid (HB.out.trans (hb3.mono HB.out.size))
  replace HC := Lib.hid (HC.out.below hb3)
  clear hb3
  go_wp2_with fail
  refine (S2.out _ HC.out).mono ?_
  rintro e4 w4 ⟨rfl, hb4⟩
  replace HB := Lib.hid (HB.out.trans (hb4.mono HB.out.size))
  replace HC := Lib.hid (HC.out.below hb4)
  clear hb4
  go_wp2_with fail
  refine (S3.out _ HC.out).mono ?_
  rintro e5 w5 ⟨rfl, hb5⟩
  replace HB := Lib.hid (HB.out.trans (hb5.mono HB.out.size))
  replace HC := Lib.hid (HC.out.below hb5)
  clear hb5
  go_wp2_with fail
  have KB := Lib.hid (Blk.of (vs := #[.int .i64 cx, .int .i64 cy, .int .i64 bx, .int .i64 (by')]) (t := 28) (w := w5) (b := w5.heap.size) rfl)
  have hb6 : Below w5.heap.size w5 (w5.alloc (.cells #[.int .i64 cx, .int .i64 cy, .int .i64 bx, .int .i64 (by')] 28)) := (Below.refl _ _).alloc (Nat.le_refl _) _
  have hnB := HB.out.size
  replace HB := Lib.hid (HB.out.trans (hb6.mono HB.out.size))
  replace HC := Lib.hid (HC.out.below hb6)
  clear hb6
  generalize w5.alloc (.cells #[.int .i64 cx, .int .i64 cy, .int .i64 bx, .int .i64 (by')] 28) = w6 at *
  generalize w5.heap.size = bB at *
  refine (S4.out _ HC.out).mono ?_
  rintro e7 w7 ⟨rfl, hb7⟩
  replace HB := Lib.hid (HB.out.trans (hb7.mono HB.out.size))
  replace KB := Lib.hid (KB.out.below hb7)
  replace HC := Lib.hid (HC.out.below hb7)
  clear hb7
  have yB := KB.out
  have yB_0 := yB.c 0 _ rfl
  have yB_1 := yB.c 1 _ rfl
  have yB_2 := yB.c 2 _ rfl
  have yB_3 := yB.c 3 _ rfl
  have yB_z := yB.lt
  clear yB
  go_wp2
  go_ret
  exact ⟨rfl, HB.out.alloc HB.out.size _⟩

/-! ### the row's step -/
set_option maxRecDepth 100000 in
theorem contract (H : Type) (enc : TypeId × Value → H) (W : World) (base : Nat) (args : Array Value) (ds gs : List (DataW H)) (before : List MemPlace)
    (hval : ∀ (j : Nat) t v, Tryz.f4.params[j]? = some t → args[j]? = some v → Value.okWide Tryz.prog W .any base t v)
    (hW : DataW.Whole enc Tryz.prog Tryz.f4.params.toList Rows.integrityNoisesSpec.vars false W args.toList ds gs before) :
    Calls Tryz.prog 4 args W fun e W' => ∃ v, e = .returned v ∧ Rows.integrityNoisesSpec.post enc Tryz.prog Tryz.f4 false true false false W args v W' := by
  have hW' := hW
  obtain ⟨p, q, hA0, hV, rfl, hfz, hnd⟩ := hW
  have hA : DataW.TrodAll enc Tryz.prog W 0 (fun _ => true) true Tryz.f4.params.toList args.toList ds p := hA0
  rw [Tryz.params4] at hA hval
  obtain ⟨v0, vs0, d0, ds0, p0, q0, hargs, rfl, rfl, h0, r0⟩ := trodAll_cons hA
  obtain ⟨rfl, rfl, rfl⟩ := trodAll_nil r0
  obtain rfl : args = #[v0] := by cases args; simp_all
  obtain ⟨rfl, rfl⟩ := trodVars_none hV
  have h0k := h0
  obtain ⟨l0, g0⟩ := open_list (hval 0 22 v0 rfl rfl) h0
  clear hA0
  simp only [List.append_nil] at hW'
  refine (walk v0 l0 W g0).mono fun e W' ⟨he, hb⟩ => ?_
  subst he
  have hlt : ∀ x ∈ p0, x.block < W.heap.size := fun x hx => hW'.lt x (by simpa using hx)
  exact ⟨_, rfl, post_of_below (pa := p0) (pv := []) hW' (fun _ _ _ => trodAll_cons_mk (shut_bool Tryz.underlying4 _) trodAll_mk0)
    (fun sp hsp0 => by
      have hsp : ∀ x ∈ p0, sp x.block = true := fun x hx => hsp0 x (by simpa using hx)
      have := (trodAll_cons_mk (WideElems.Trod_stays laidOut (by kernel_rfl) (of_decide_eq_true (by kernel_rfl)) h0k (fun x hx => hb.same (hlt x hx)) (fun x hx => hsp x hx)) trodAll_mk0)
      simp only [List.append_nil] at this
      exact this) (fun _ _ => rfl) (by simp)
    hb (ok_one (by kernel_rfl) rfl (okWide_bool_mk Tryz.underlying4 _))⟩

set_option maxRecDepth 100000 in
theorem lifted (os : Os) (started : os.Started) (H : Type) (enc : TypeId × Value → H) :
    ReturnsInHanded {} Tryz.checked os 4 .any (Rows.integrityNoisesSpec.pre6 enc Tryz.prog Tryz.f4 Rows.integrityNoisesRow.domain false) (Rows.integrityNoisesSpec.post enc Tryz.prog Tryz.f4 false true false false) := by
  refine returnsInHanded_of_change (C := Tryz.checked) own started (by kernel_rfl) Tryz.func4
    (ChangeSpec.witness6 (enc := enc) (C := Tryz.checked) false ⟨#[], #[.slice none 0 0], []⟩ 8 (by kernel_rfl) (by kernel_rfl) (by kernel_rfl) (by kernel_rfl)) ?_
  intro W base args ds gs before hval hW _ _
  exact contract H enc W base args ds gs before hval hW
/-- the law -/
theorem said : Rows.IntegrityNoisesSaid :=
  OpenClaim.holds_of_wide 4 Tryz.f4 rfl rfl rfl rfl rfl rfl rfl ⟨rfl, rfl, rfl, rfl, rfl⟩ rfl rfl rfl rfl rfl (by kernel_rfl) Tryz.func4 (by kernel_rfl)
    (of_decide_eq_true (by kernel_rfl)) (by unfold Func.isWrapper; first | (rw [if_pos (by decide +kernel)]; kernel_rfl) | (rw [if_neg (by decide +kernel)]; exact ⟨rfl, rfl⟩))
    (fun os started H enc _ => lifted os started H enc)
end Go.Proofs.YtplgdlooglnpmaaGreat.integrityNoises
