/-
  The walk of law30's awake: the chapter's examples hold.
-/
import Derived.Test.YtnaokohffelklaaDoorAirCross
import Derived.Test.YtnaokohffelklaaDoorParse30
namespace Go.Proofs.YtnaokohffelklaaDoor
set_option linter.unusedVariables false
open Go.RowKit Sq

theorem ex1 : tasF 250 1000000 0 = (290, 0) := by decide +kernel
theorem ex2 : casF 290 1000000 0 = (250, 0) := by decide +kernel
theorem ex3 : casF 291 1000000 0 = (251, 0) := by decide +kernel
theorem ex4 : machF 661 0 0 = (999, 0) := by decide +kernel
theorem ex5 : ofF 1000 0 0 = (662, 0) := by decide +kernel
theorem ex6 : schF 300 780 0 0 = (300, 0) := by decide +kernel
theorem ex7 : crsF 300 0 0 = (-200000, 0) := by
  have h : IsCross 300 0 0 (-200000) := ⟨by decide, by decide, fun _ => by
    have b := tas_bd (cas := 300) (alt := -200000) (dev := 0) (by decide) (by decide) ⟨by decide, by decide⟩ ⟨by decide, by decide⟩
    exact (mach_bd b.1 (by omega) ⟨by decide, by decide⟩ ⟨by decide, by decide⟩).1, fun alt a b => by omega⟩
  have e := (cross_is (cas := 300) (mach := 0) (dev := 0) (by decide) ⟨by decide, by decide⟩).uniq h
  unfold crsF
  rw [e]
  decide
theorem ex8 : crsF 0 1 0 = (0, 2) := by
  have h : IsCross 0 1 0 6000001 := ⟨by decide, by decide, fun q => absurd q (by decide), fun alt a b => by
    have e : tasI 0 alt 0 = 0 := by unfold tasI; rw [Int.zero_mul]; rfl
    unfold machAtI machI
    rw [e]
    show 0 / soundI alt 0 < 1
    rw [Int.zero_ediv]
    decide⟩
  have e := (cross_is (cas := 0) (mach := 1) (dev := 0) (by decide) ⟨by decide, by decide⟩).uniq h
  unfold crsF
  rw [e]
  decide
theorem ex9 : mtF 1250 = ([77, 49, 46, 50, 53, 48], 0) := by
  have h : machT 1250 = [77, 49, 46, 50, 53, 48] := by
    unfold machT wholeT
    rw [if_pos (by decide), show ((1250 : Int) / 1000).toNat = 1 by decide, show (1000 + (1250 : Int) % 1000).toNat = 1000 + 250 by decide, dec_four (by decide), Lib.decDigits_one (by decide)]
    decide
  unfold mtF
  rw [h]
  decide
theorem ex10 : parseA [77, 48, 46, 55, 56, 48] = (0, false, 4) := by decide +kernel
theorem ex11 : parseA [50, 53, 48, 75, 84] = (250, false, 0) := by decide +kernel
set_option maxHeartbeats 4000000 in
set_option maxRecDepth 100000 in
theorem awake_any (w : World) (hE : Env w) : Calls Tryd.prog 10 #[] w fun e w' => e = .returned (.bool true) ∧ Below w.heap.size w w' := by
  have HE := Lib.hid hE
  clear hE
  have c1 := fun w => tas_any 250 1000000 0 w
  have c2 := fun w => cas_any 290 1000000 0 w
  have c3 := fun w => cas_any 291 1000000 0 w
  have c4 := fun w => mach_any 661 0 0 w
  have c5 := fun w => of_any 1000 0 0 w
  have c6 := fun w => sched_any 300 780 0 0 w
  have c7 := fun w => cross_any 300 0 0 w
  have c8 := fun w => cross_any 0 1 0 w
  have c9 := fun w hE => machText_any 1250 w hE
  have c10 := fun w hE => parse_any ⟨#[77, 48, 46, 55, 56, 48]⟩ w hE (by decide)
  have c11 := fun w hE => parse_any ⟨#[50, 53, 48, 75, 84]⟩ w hE (by decide)
  rw [ex1] at c1
  rw [ex2] at c2
  rw [ex3] at c3
  rw [ex4] at c4
  rw [ex5] at c5
  rw [ex6] at c6
  rw [ex7] at c7
  rw [ex8] at c8
  rw [ex9] at c9
  have e10 : (⟨#[77, 48, 46, 55, 56, 48]⟩ : ByteArray).data.toList = [77, 48, 46, 55, 56, 48] := rfl
  have e11 : (⟨#[50, 53, 48, 75, 84]⟩ : ByteArray).data.toList = [50, 53, 48, 75, 84] := rfl
  rw [e10, ex10] at c10
  rw [e11, ex11] at c11
  unfold RetS at c9
  unfold RetV at c10 c11
  have C1 := Lib.hid c1
  have C2 := Lib.hid c2
  have C3 := Lib.hid c3
  have C4 := Lib.hid c4
  have C5 := Lib.hid c5
  have C6 := Lib.hid c6
  have C7 := Lib.hid c7
  have C8 := Lib.hid c8
  have C9 := Lib.hid c9
  have C10 := Lib.hid c10
  have C11 := Lib.hid c11
  clear c1 c2 c3 c4 c5 c6 c7 c8 c9 c10 c11 e10 e11
  go_enter Tryd.func10, Tryd.ntmps10
  go_wp2_with fail
  refine (C1.out _).mono ?_
  rintro e w1 ⟨rfl, b1⟩
  go_wp2_with fail
  refine (C2.out _).mono ?_
  rintro e w2 ⟨rfl, b2⟩
  go_wp2_with fail
  refine (C3.out _).mono ?_
  rintro e w3 ⟨rfl, b3⟩
  go_wp2_with fail
  refine (C4.out _).mono ?_
  rintro e w4 ⟨rfl, b4⟩
  go_wp2_with fail
  refine (C5.out _).mono ?_
  rintro e w5 ⟨rfl, b5⟩
  go_wp2_with fail
  refine (C6.out _).mono ?_
  rintro e w6 ⟨rfl, b6⟩
  go_wp2_with fail
  refine (C7.out _).mono ?_
  rintro e w7 ⟨rfl, b7⟩
  go_wp2_with fail
  refine (C8.out _).mono ?_
  rintro e w8 ⟨rfl, b8⟩
  have hb := Lib.hid (b1.trans ((b2.trans ((b3.trans ((b4.trans ((b5.trans ((b6.trans ((b7.trans (b8.mono b7.size)).mono b6.size)).mono b5.size)).mono b4.size)).mono b3.size)).mono b2.size)).mono b1.size))
  clear b1 b2 b3 b4 b5 b6 b7 b8
  go_wp2_with fail
  refine (C9.out _ (HE.out.below hb.out)).mono ?_
  rintro e w9 ⟨rfl, b9⟩
  have hb9 := Lib.hid (hb.out.trans (b9.mono hb.out.size))
  go_wp2_with fail
  refine (C10.out _ (HE.out.below hb9.out)).mono ?_
  rintro e w10 ⟨rfl, b10⟩
  have hb10 := Lib.hid (hb9.out.trans (b10.mono hb9.out.size))
  go_wp2_with fail
  refine (C11.out _ (HE.out.below hb10.out)).mono ?_
  rintro e w11 ⟨rfl, b11⟩
  go_wp2
  go_ret
  exact ⟨rfl, hb10.out.trans (b11.mono hb10.out.size)⟩
end Go.Proofs.YtnaokohffelklaaDoor
