/-
  The walks of the reference of layer 29: ratio, temperature, speed of sound.
-/
import Derived.Test.YtnaokohffelklaaDoorAirRef
namespace Go.Proofs.YtnaokohffelklaaDoor
set_option linter.unusedVariables false
open Go.RowKit Sq

theorem rratio_any (alt dev : Int) (w : World) :
    Calls Tryd.prog 32 #[.int .i64 alt, .int .i64 dev] w fun e w' => e = .returned (.tuple #[.int .i64 (ratF alt dev).1, .int .i64 (ratF alt dev).2]) ∧ Below w.heap.size w w' := by
  by_cases h : chkI alt dev = 0
  · obtain ⟨ha, hd⟩ := chk_ok h
    have d0 := hd.lo
    have d1 := hd.hi
    have v := rat_bd ha.lo ha.hi
    have m := mul_bd v.1 v.2 (show 53630 ≤ 57630 + dev by omega) (show 57630 + dev ≤ 61630 by omega) (by decide) (by decide)
    have E := Lib.hid (show (ratF alt dev) = (valI ratT alt * (57630 + dev) / 57630, 0) by unfold ratF ratioI; simp [h])
    have VV := Lib.hid (fun w => rvalue_rat alt w ha)
    have HC := Lib.hid h
    clear h ha hd
    generalize valI ratT alt = x at *
    obtain ⟨v0, v1⟩ := v
    obtain ⟨m0, m1⟩ := m
    go_enter Tryd.func32, Tryd.ntmps32
    go_wp2_with (go_at_call 50; refine (ready_any _ _ _).mono ?_; rw [HC.out]; rintro e w1 ⟨rfl, rfl⟩)
    go_wp2_with (go_at_call 51; refine (VV.out _).mono ?_; rintro e w2 ⟨rfl, hb⟩)
    go_ret2
    exact ⟨by rw [E.out]; rfl, hb⟩
  · have g : (chkI alt dev != 0) = true := by simpa using h
    have E := Lib.hid (show (ratF alt dev) = (0, chkI alt dev) by unfold ratF; simp [h])
    clear h
    generalize hc : chkI alt dev = c at *
    have HC := Lib.hid hc
    clear hc
    go_enter Tryd.func32, Tryd.ntmps32
    go_wp2_with (go_at_call 50; refine (ready_any _ _ _).mono ?_; rw [HC.out]; rintro e w1 ⟨rfl, rfl⟩)
    go_ret2
    exact ⟨by rw [E.out]; rfl, Below.refl _ _⟩
theorem rtemp_any (alt dev : Int) (w : World) :
    Calls Tryd.prog 54 #[.int .i64 alt, .int .i64 dev] w fun e w' => e = .returned (.tuple #[.int .i64 (tmpF alt dev).1, .int .i64 (tmpF alt dev).2]) ∧ Below w.heap.size w w' := by
  by_cases h : chkI alt dev = 0
  · obtain ⟨ha, hd⟩ := chk_ok h
    have d0 := hd.lo
    have d1 := hd.hi
    have v := tmp_bd ha.lo ha.hi
    have E := Lib.hid (show (tmpF alt dev) = (valI tmpT alt + dev, 0) by unfold tmpF tempI; simp [h])
    have VV := Lib.hid (fun w => rvalue_tmp alt w ha)
    have HC := Lib.hid h
    clear h ha hd
    generalize valI tmpT alt = x at *
    obtain ⟨v0, v1⟩ := v
    go_enter Tryd.func54, Tryd.ntmps54
    go_wp2_with (go_at_call 50; refine (ready_any _ _ _).mono ?_; rw [HC.out]; rintro e w1 ⟨rfl, rfl⟩)
    go_wp2_with (go_at_call 51; refine (VV.out _).mono ?_; rintro e w2 ⟨rfl, hb⟩)
    go_ret2
    exact ⟨by rw [E.out]; rfl, hb⟩
  · have g : (chkI alt dev != 0) = true := by simpa using h
    have E := Lib.hid (show (tmpF alt dev) = (0, chkI alt dev) by unfold tmpF; simp [h])
    clear h
    generalize hc : chkI alt dev = c at *
    have HC := Lib.hid hc
    clear hc
    go_enter Tryd.func54, Tryd.ntmps54
    go_wp2_with (go_at_call 50; refine (ready_any _ _ _).mono ?_; rw [HC.out]; rintro e w1 ⟨rfl, rfl⟩)
    go_ret2
    exact ⟨by rw [E.out]; rfl, Below.refl _ _⟩
theorem rsound_any (alt dev : Int) (w : World) :
    Calls Tryd.prog 34 #[.int .i64 alt, .int .i64 dev] w fun e w' => e = .returned (.tuple #[.int .i64 (sndF alt dev).1, .int .i64 (sndF alt dev).2]) ∧ Below w.heap.size w w' := by
  by_cases h : chkI alt dev = 0
  · obtain ⟨ha, hd⟩ := chk_ok h
    have v := temp_bd ha hd
    have E := Lib.hid (show sndF alt dev = (isq (388734 * tempI alt dev / 100), 0) by unfold sndF soundI; simp [h])
    have ET := Lib.hid (show tmpF alt dev = (tempI alt dev, 0) by unfold tmpF; simp [h])
    clear h ha hd
    generalize tempI alt dev = x at *
    obtain ⟨v0, v1⟩ := v
    go_enter Tryd.func34, Tryd.ntmps34
    go_wp2_with (first
      | (go_at_call 54; refine (rtemp_any _ _ _).mono ?_; rw [ET.out]; rintro e w1 ⟨rfl, hb⟩)
      | (go_at_call 55; refine (sqrt_ref _ _ (by omega) (by omega)).mono ?_; rintro e w2 ⟨rfl, rfl⟩))
    go_ret2
    exact ⟨by rw [E.out]; rfl, hb⟩
  · have g : (chkI alt dev != 0) = true := by simpa using h
    have E := Lib.hid (show sndF alt dev = (0, chkI alt dev) by unfold sndF; simp [h])
    have ET := Lib.hid (show tmpF alt dev = (0, chkI alt dev) by unfold tmpF; simp [h])
    clear h
    generalize chkI alt dev = c at *
    go_enter Tryd.func34, Tryd.ntmps34
    go_wp2_with (go_at_call 54; refine (rtemp_any _ _ _).mono ?_; rw [ET.out]; rintro e w1 ⟨rfl, hb⟩)
    go_ret2
    exact ⟨by rw [E.out]; rfl, hb⟩
end Go.Proofs.YtnaokohffelklaaDoor
