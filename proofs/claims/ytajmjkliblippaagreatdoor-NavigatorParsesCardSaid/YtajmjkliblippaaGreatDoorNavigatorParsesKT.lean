/-
  The walk of the law NavigatorParses.
-/
import Derived.Test.YtajmjkliblippaaGreatDoorAwake46T
import Derived.Test.YtajmjkliblippaaGreatDoorRParse46T
import Derived.Test.YtajmjkliblippaaGreatDoorParseW46T
import Derived.Deep.DeepCutAuto
namespace Go.Proofs.YtajmjkliblippaaGreatDoor.navigatorParses
set_option linter.unusedVariables false
open Go.ChangeShapes Go.WideShapes Go.ChangeAt Go.RowKit Tx Ty

set_option maxHeartbeats 40000000 in
set_option maxRecDepth 100000 in
theorem walk (s : ByteArray) (w : World) (hE : Env w) :
    Calls Tryz.prog 10 #[.string s] w fun e w' => e = .returned (.bool true) ∧ Below w.heap.size w w' := by
  have HE := Lib.hid hE
  obtain ⟨z, HZ0, hzs⟩ : ∃ z : ByteArray, ((120 < s.size → s.extract 0 120 = z) ∧ (s.size ≤ 120 → s = z)) ∧ z.size ≤ 1000 := by
    by_cases hl : 120 < s.size
    · exact ⟨s.extract 0 120, ⟨fun _ => rfl, fun h => absurd hl (by omega)⟩, by rw [ByteArray.size_extract]; omega⟩
    · exact ⟨s, ⟨fun h => absurd h hl, fun _ => rfl⟩, by omega⟩
  have HZ := Lib.hid HZ0
  clear HZ0
  have PA0 := fun w h => parseS_any z w h hzs
  have RA0 := fun w => rparseS_any z w hzs
  have TT0 := fun b t m (h : parseS z.data.toList = ((b, t, m), 0)) => text_parseS h
  unfold RetS at PA0 RA0
  obtain ⟨pr, hpr⟩ : ∃ p, parseS z.data.toList = p := ⟨_, rfl⟩
  rw [hpr] at PA0 RA0
  obtain ⟨⟨⟨bx, by', b1, b2⟩, b3, b4⟩, e⟩ := pr
  have TT := Lib.hid (fun (h : e = 0) => show (⟨(textS ⟨bx, by', b1, b2⟩ b3 b4).toArray⟩ : ByteArray) = z by rw [TT0 _ _ _ (by rw [hpr, h])])
  simp only at PA0 RA0
  have PA := Lib.hid PA0
  have RA := Lib.hid RA0
  clear PA0 RA0 TT0 hpr hE hzs
  have HB := Lib.hid (Below.refl w.heap.size w)
  go_enter Tryz.func10, Tryz.ntmps10
  go_wp2_with fail
  refine (awake_any _ (HE.out.below HB.out)).mono ?_
  rintro e1 w1 ⟨rfl, hb1⟩
  replace HB := hT HB hb1
  clear hb1
  go_upto_region 3 with (fail)
  go_upto_if 11 with (fail)
  go_cut [0] (fun s0 wx => wx = w1 ∧ s0 = .string z)
  case first =>
    go_wp2_with fail
    all_goals first | (go_meet; refine ⟨rfl, ?_⟩; first | (rw [HZ.out.1 (by omega)]; done) | (rw [HZ.out.2 (by omega)]; done)) | (exfalso; omega)
  case rest =>
    obtain ⟨hwc, rfl⟩ := hcut
    subst hwc
    go_wp2_with fail
    refine (PA.out _ (HE.out.below HB.out)).mono ?_
    rintro e2 w2 ⟨rfl, hb2⟩
    replace HB := hT HB hb2
    clear hb2
    go_upto_region 6 with (fail)
    obtain ⟨KA, hb3⟩ := alB w2 #[.int .i64 bx, .int .i64 (by'), .int .i64 b1, .int .i64 b2, .int .i64 b3, .int .i64 b4] 27
    have hnA := HB.out.size
    replace HB := hT HB hb3
    clear hb3
    generalize w2.alloc (.cells #[.int .i64 bx, .int .i64 (by'), .int .i64 b1, .int .i64 b2, .int .i64 b3, .int .i64 b4] 27) = w3 at *
    generalize w2.heap.size = bA at *
    go_wp2_with fail
    refine (RA.out _).mono ?_
    rintro e4 w4 ⟨rfl, hb4⟩
    replace HB := hT HB hb4
    replace KA := hK KA hb4
    clear hb4
    go_upto_region 7 with (fail)
    obtain ⟨KB, hb5⟩ := alB w4 #[.int .i64 bx, .int .i64 (by'), .int .i64 b1, .int .i64 b2, .int .i64 b3, .int .i64 b4] 27
    have hnB := HB.out.size
    have nzB_A := KA.out.lt
    replace HB := hT HB hb5
    replace KA := hK KA hb5
    clear hb5
    generalize w4.alloc (.cells #[.int .i64 bx, .int .i64 (by'), .int .i64 b1, .int .i64 b2, .int .i64 b3, .int .i64 b4] 27) = w5 at *
    generalize w4.heap.size = bB at *
    have neB_A : bB ≠ bA := by omega
    clear nzB_A
    by_cases h : e = 0
    · subst h
      have htx := TT.out (by first | rfl | trivial)
      have TX := Lib.hid fun w h => textS_any ⟨bx, by', b1, b2⟩ b3 b4 w h
      rw [htx] at TX
      clear htx TT
      obtain ⟨yA_0, yA_1, yA_2, yA_3, yA_4, yA_5, yA_z⟩ := blk6 KA
      obtain ⟨yB_0, yB_1, yB_2, yB_3, yB_4, yB_5, yB_z⟩ := blk6 KB
      go_wp2_with fail
      refine (TX.out _ (HE.out.below HB.out)).mono ?_
      rintro e6 w6 ⟨rfl, hb6⟩
      replace HB := hT HB hb6
      replace KA := hK KA hb6
      replace KB := hK KB hb6
      clear yA_0 yA_1 yA_2 yA_3 yA_4 yA_5 yA_z yB_0 yB_1 yB_2 yB_3 yB_4 yB_5 yB_z
      clear hb6
      go_wp2
      go_ret
      exact ⟨rfl, HB.out⟩
    · have ge : (e != 0) = true := by simpa using h
      clear h TT
      obtain ⟨yA_0, yA_1, yA_2, yA_3, yA_4, yA_5, yA_z⟩ := blk6 KA
      obtain ⟨yB_0, yB_1, yB_2, yB_3, yB_4, yB_5, yB_z⟩ := blk6 KB
      go_wp2
      go_ret
      exact ⟨rfl, HB.out⟩
end Go.Proofs.YtajmjkliblippaaGreatDoor.navigatorParses
