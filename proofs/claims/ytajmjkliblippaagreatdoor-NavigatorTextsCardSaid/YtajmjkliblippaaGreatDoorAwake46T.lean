/-
  The chapter's examples, and the walk of awake.
-/
import Derived.Test.YtajmjkliblippaaGreatDoorM83
import Derived.Test.YtajmjkliblippaaGreatDoorStart46T
import Derived.Test.YtajmjkliblippaaGreatDoorText46T
namespace Go.Proofs.YtajmjkliblippaaGreatDoor
set_option linter.unusedVariables false
open Go.RowKit

def awR : List Rp := [⟨1, 1, 600, 0, 0, 20, 1, 12⟩, ⟨2, 1, 605, 0, 0, 20, 1, 12⟩, ⟨3, 1, 602, 6, 0, 20, 1, 12⟩]
def awM : List Ms := [⟨1, 256, 0, 153600, 5120, 1⟩, ⟨1, 0, 256, 0, 5120, 1⟩, ⟨2, 256, 0, 154880, 5120, 1⟩, ⟨2, 0, 256, 0, 5120, 1⟩, ⟨3, 256, 0, 154112, 5120, 1⟩, ⟨3, 0, 256, 1536, 5120, 1⟩]
theorem aw_rows : rowsT 12 600 0 110 110 awR = awM := by kernel_rfl
theorem aw_src : srcL awM = [1, 2, 3] := by
  refine asc_uniq _ _ (srcL_lt _) (by decide) fun x => ?_
  rw [mem_srcL]
  unfold awM
  simp only [List.mem_cons, List.not_mem_nil, or_false]
  constructor
  · rintro ⟨m, rfl | rfl | rfl | rfl | rfl | rfl, rfl⟩ <;> simp
  · rintro (rfl | rfl | rfl)
    · exact ⟨_, .inl rfl, rfl⟩
    · exact ⟨_, .inr (.inr (.inl rfl)), rfl⟩
    · exact ⟨_, .inr (.inr (.inr (.inr (.inl rfl)))), rfl⟩
theorem aw_flt : S44.fltF awM = (0, 0) := by
  unfold S44.fltF
  rw [aw_src]
  decide +kernel
theorem aw_wo : woL awM 0 = awM := by rfl
theorem aw_lev : levF awM = (⟨602, 2, 22, 22⟩, 0) := by
  unfold levF
  rw [aw_src]
  rfl
theorem aw_fix : fixF awM ⟨600, 0, 110, 110⟩ = ((⟨602, 2, 22, 22⟩, 0), true) := by
  unfold fixF fixL
  rw [aw_flt, if_pos rfl, aw_wo, aw_lev, if_pos rfl]
  rfl
theorem aw_one : stpC ⟨0, 0, 100, 100⟩ 10 0 12 300 0 5 [] = ⟨⟨600, 0, 110, 110⟩, 1, 0⟩ := by kernel_rfl
theorem aw_two : stpC ⟨0, 0, 100, 100⟩ 10 0 12 300 0 5 awR = ⟨⟨602, 2, 22, 22⟩, 0, 0⟩ := by
  unfold stpC
  rw [show movB ⟨0, 0, 100, 100⟩ 300 0 5 (12 - 10) = ⟨600, 0, 110, 110⟩ from rfl]
  simp only
  rw [aw_rows]
  unfold cycF
  rw [aw_fix, if_pos rfl]
theorem aw_e1 : stpE2 ⟨0, 0, 100, 100⟩ 10 0 12 300 0 5 50 0 = 0 := by decide +kernel
theorem aw_e2 : stpE2 ⟨0, 0, 100, 100⟩ 10 0 12 300 0 5 50 3 = 0 := by decide +kernel
theorem aw_txt : textS ⟨0, 0, 100, 100⟩ 10 0 = [48, 32, 48, 32, 49, 48, 48, 32, 49, 48, 48, 32, 49, 48, 32, 48] := by decide +kernel
theorem aw_rg {b : Nat} {w : World} (h : Hid (Blk [.int .i64 1, .int .u8 1, .int .i64 600, .int .i64 0, .int .i64 0, .int .i64 20, .int .i64 1, .int .i64 12, .int .i64 2, .int .u8 1, .int .i64 605, .int .i64 0, .int .i64 0, .int .i64 20, .int .i64 1, .int .i64 12, .int .i64 3, .int .u8 1, .int .i64 602, .int .i64 6, .int .i64 0, .int .i64 20, .int .i64 1, .int .i64 12] b w)) : RlG awR (.slice (some ⟨b, 0, none⟩) 3 3) w := by
  have h := h.out
  refine ⟨some ⟨b, 0, none⟩, 3, rfl, ⟨by decide, by decide⟩, fun k hk => ⟨b, 0, rfl, ⟨h.lt, ?_, ?_, ?_, ?_, ?_, ?_, ?_, ?_⟩⟩⟩
  all_goals
    intro i hi
    have hi3 : i < 3 := hi
    rcases (show i = 0 ∨ i = 1 ∨ i = 2 by omega) with rfl | rfl | rfl
  · exact h.c 0 _ rfl
  · exact h.c 8 _ rfl
  · exact h.c 16 _ rfl
  · exact h.c 1 _ rfl
  · exact h.c 9 _ rfl
  · exact h.c 17 _ rfl
  · exact h.c 2 _ rfl
  · exact h.c 10 _ rfl
  · exact h.c 18 _ rfl
  · exact h.c 3 _ rfl
  · exact h.c 11 _ rfl
  · exact h.c 19 _ rfl
  · exact h.c 4 _ rfl
  · exact h.c 12 _ rfl
  · exact h.c 20 _ rfl
  · exact h.c 5 _ rfl
  · exact h.c 13 _ rfl
  · exact h.c 21 _ rfl
  · exact h.c 6 _ rfl
  · exact h.c 14 _ rfl
  · exact h.c 22 _ rfl
  · exact h.c 7 _ rfl
  · exact h.c 15 _ rfl
  · exact h.c 23 _ rfl
set_option maxHeartbeats 40000000 in
set_option maxRecDepth 100000 in
theorem awake_any (w : World) (hE : Env w) : Calls Tryz.prog 11 #[] w fun e w' => e = .returned (.bool true) ∧ Below w.heap.size w w' := by
  have HE := Lib.hid hE
  have ST := Lib.hid fun w => start_good ⟨0, 0, 100, 100⟩ 10 w (by decide +kernel)
  have R1 := Lib.hid fun w => report_any 1 600 0 w
  have R2 := Lib.hid fun w => report_any 2 605 0 w
  have R3 := Lib.hid fun w => report_any 3 602 6 w
  have P1 := fun w => step_okR ⟨0, 0, 100, 100⟩ 10 0 12 300 0 5 50 [] (.slice none 0 0) w (rg_nil w) (fun i hi => absurd hi (by simp)) aw_e1
  have P2 := fun v w h => step_okR ⟨0, 0, 100, 100⟩ 10 0 12 300 0 5 50 awR v w h (fun i hi => by
    have hi3 : i < 3 := hi
    rcases (show i = 0 ∨ i = 1 ∨ i = 2 by omega) with rfl | rfl | rfl <;> decide) aw_e2
  have TX := fun w h => textS_any ⟨0, 0, 100, 100⟩ 10 0 w h
  rw [aw_one] at P1
  rw [aw_two] at P2
  rw [aw_txt] at TX
  simp only [show useB 110 110 50 = false from rfl, show useB 22 22 50 = true from rfl] at P1 P2
  have P1 := Lib.hid P1
  have P2 := Lib.hid P2
  have TX := Lib.hid TX
  clear hE
  have HB := Lib.hid (Below.refl w.heap.size w)
  go_enter Tryz.func11, Tryz.ntmps11
  go_wp2_with fail
  refine (ST.out _).mono ?_
  rintro e1 w1 ⟨rfl, hb1⟩
  replace HB := hT HB hb1
  clear hb1
  go_upto_region 2 with (fail)
  obtain ⟨KS, hb2⟩ := alB w1 #[.int .i64 0, .int .i64 0, .int .i64 100, .int .i64 100, .int .i64 10, .int .i64 0] 27
  have hnS := HB.out.size
  replace HB := hT HB hb2
  clear hb2
  generalize w1.alloc (.cells #[.int .i64 0, .int .i64 0, .int .i64 100, .int .i64 100, .int .i64 10, .int .i64 0] 27) = w2 at *
  generalize w1.heap.size = bS at *
  go_upto_region 3 with (fail)
  obtain ⟨KI, hb3⟩ := alB w2 #[.int .i64 12, .slice none 0 0, .int .i64 300, .int .i64 0, .int .i64 5, .int .i64 50] 38
  have hnI := HB.out.size
  have nzI_S := KS.out.lt
  replace HB := hT HB hb3
  replace KS := hK KS hb3
  clear hb3
  generalize w2.alloc (.cells #[.int .i64 12, .slice none 0 0, .int .i64 300, .int .i64 0, .int .i64 5, .int .i64 50] 38) = w3 at *
  generalize w2.heap.size = bI at *
  have neI_S : bI ≠ bS := by omega
  clear nzI_S
  obtain ⟨yS_0, yS_1, yS_2, yS_3, yS_4, yS_5, yS_z⟩ := blk6 KS
  obtain ⟨yI_0, yI_1, yI_2, yI_3, yI_4, yI_5, yI_z⟩ := blk6 KI
  go_wp2_with fail
  refine (P1.out _).mono ?_
  rintro e4 w4 ⟨rfl, hb4⟩
  replace HB := hT HB hb4
  replace KS := hK KS hb4
  replace KI := hK KI hb4
  clear yS_0 yS_1 yS_2 yS_3 yS_4 yS_5 yS_z yI_0 yI_1 yI_2 yI_3 yI_4 yI_5 yI_z
  clear hb4
  go_upto_region 4 with (fail)
  have KA := Lib.hid ((Blk.of (vs := #[.int .i64 600, .int .i64 0, .int .i64 110, .int .i64 110, .int .i64 12, .int .i64 1]) (t := 27) (w := w4) (b := w4.heap.size) rfl).alloc (.cells #[.int .i64 600, .int .i64 0, .int .i64 110, .int .i64 110, .bool false, .int .i64 0] 41))
  have KX := Lib.hid (Blk.of (vs := #[.int .i64 600, .int .i64 0, .int .i64 110, .int .i64 110, .bool false, .int .i64 0]) (t := 41) (w := w4.alloc (.cells #[.int .i64 600, .int .i64 0, .int .i64 110, .int .i64 110, .int .i64 12, .int .i64 1] 27)) (b := w4.heap.size + 1) (by simp))
  have hb5 : Below w4.heap.size w4 ((w4.alloc (.cells #[.int .i64 600, .int .i64 0, .int .i64 110, .int .i64 110, .int .i64 12, .int .i64 1] 27)).alloc (.cells #[.int .i64 600, .int .i64 0, .int .i64 110, .int .i64 110, .bool false, .int .i64 0] 41)) := ((Below.refl _ _).alloc (Nat.le_refl _) _).alloc (by simp) _
  have hnA := HB.out.size
  have nzA_S := KS.out.lt
  have nzA_I := KI.out.lt
  replace HB := hT HB hb5
  replace KS := hK KS hb5
  replace KI := hK KI hb5
  clear hb5
  generalize (w4.alloc (.cells #[.int .i64 600, .int .i64 0, .int .i64 110, .int .i64 110, .int .i64 12, .int .i64 1] 27)).alloc (.cells #[.int .i64 600, .int .i64 0, .int .i64 110, .int .i64 110, .bool false, .int .i64 0] 41) = w5 at *
  generalize w4.heap.size = bA at *
  have neA_S : bA ≠ bS := by omega
  have neX_S : bA + 1 ≠ bS := by omega
  have neA_I : bA ≠ bI := by omega
  have neX_I : bA + 1 ≠ bI := by omega
  clear nzA_S nzA_I
  go_wp2_with fail
  refine (R1.out _).mono ?_
  rintro e6 w6 ⟨rfl, hb6⟩
  replace HB := hT HB hb6
  replace KS := hK KS hb6
  replace KI := hK KI hb6
  replace KA := hK KA hb6
  replace KX := hK KX hb6
  clear hb6
  go_wp2_with fail
  refine (R2.out _).mono ?_
  rintro e7 w7 ⟨rfl, hb7⟩
  replace HB := hT HB hb7
  replace KS := hK KS hb7
  replace KI := hK KI hb7
  replace KA := hK KA hb7
  replace KX := hK KX hb7
  clear hb7
  go_wp2_with fail
  refine (R3.out _).mono ?_
  rintro e8 w8 ⟨rfl, hb8⟩
  replace HB := hT HB hb8
  replace KS := hK KS hb8
  replace KI := hK KI hb8
  replace KA := hK KA hb8
  replace KX := hK KX hb8
  clear hb8
  obtain ⟨yI_0, yI_1, yI_2, yI_3, yI_4, yI_5, yI_z, yI_f0, yI_f1, yI_f2, yI_f3, yI_f4, yI_f5⟩ := blf6 KI
  go_upto_region 5 with (fail)
  have hs := st1 w8 bI 1 (.slice (some ⟨w8.heap.size, 0, none⟩) 3 3)
  replace KS := oB hs KS (by omega)
  replace KI := Lib.hid (blk_set KI.out (j := 1) (by simp) (.slice (some ⟨w8.heap.size, 0, none⟩) 3 3))
  replace KA := oB hs KA (by omega)
  replace KX := oB hs KX (by omega)
  replace HB := oH hs HB (by omega)
  clear hs
  clear yI_0 yI_1 yI_2 yI_3 yI_4 yI_5 yI_z yI_f0 yI_f1 yI_f2 yI_f3 yI_f4 yI_f5
  simp only [List.set] at KI
  have hz9 : ((w8.setCell ⟨bI, 1, none⟩ (.slice (some ⟨w8.heap.size, 0, none⟩) 3 3))).heap.size = w8.heap.size := by simp [World.setCell]
  generalize w8.setCell ⟨bI, 1, none⟩ (.slice (some ⟨w8.heap.size, 0, none⟩) 3 3) = w9 at *
  rw [← hz9] at KI ⊢
  clear hz9
  obtain ⟨KR, hb10⟩ := alB w9 #[.int .i64 1, .int .u8 1, .int .i64 600, .int .i64 0, .int .i64 0, .int .i64 20, .int .i64 1, .int .i64 12, .int .i64 2, .int .u8 1, .int .i64 605, .int .i64 0, .int .i64 0, .int .i64 20, .int .i64 1, .int .i64 12, .int .i64 3, .int .u8 1, .int .i64 602, .int .i64 6, .int .i64 0, .int .i64 20, .int .i64 1, .int .i64 12] 49
  have hnR := HB.out.size
  have nzR_S := KS.out.lt
  have nzR_I := KI.out.lt
  have nzR_A := KA.out.lt
  have nzR_X := KX.out.lt
  replace HB := hT HB hb10
  replace KS := hK KS hb10
  replace KI := hK KI hb10
  replace KA := hK KA hb10
  replace KX := hK KX hb10
  clear hb10
  generalize w9.alloc (.cells #[.int .i64 1, .int .u8 1, .int .i64 600, .int .i64 0, .int .i64 0, .int .i64 20, .int .i64 1, .int .i64 12, .int .i64 2, .int .u8 1, .int .i64 605, .int .i64 0, .int .i64 0, .int .i64 20, .int .i64 1, .int .i64 12, .int .i64 3, .int .u8 1, .int .i64 602, .int .i64 6, .int .i64 0, .int .i64 20, .int .i64 1, .int .i64 12] 49) = w10 at *
  generalize w9.heap.size = bR at *
  have neR_S : bR ≠ bS := by omega
  have neR_I : bR ≠ bI := by omega
  have neR_A : bR ≠ bA := by omega
  have neR_X : bR ≠ (bA + 1) := by omega
  clear nzR_S nzR_I nzR_A nzR_X
  have RL := Lib.hid (aw_rg KR)
  obtain ⟨yS_0, yS_1, yS_2, yS_3, yS_4, yS_5, yS_z⟩ := blk6 KS
  obtain ⟨yI_0, yI_1, yI_2, yI_3, yI_4, yI_5, yI_z⟩ := blk6 KI
  go_wp2_with fail
  refine (P2.out _ _ RL.out).mono ?_
  rintro e11 w11 ⟨rfl, hb11⟩
  replace HB := hT HB hb11
  replace KS := hK KS hb11
  replace KI := hK KI hb11
  replace KA := hK KA hb11
  replace KX := hK KX hb11
  replace KR := hK KR hb11
  replace RL := Lib.hid (RL.out.below hb11)
  clear yS_0 yS_1 yS_2 yS_3 yS_4 yS_5 yS_z yI_0 yI_1 yI_2 yI_3 yI_4 yI_5 yI_z
  clear hb11
  go_upto_region 6 with (fail)
  have KN := Lib.hid ((Blk.of (vs := #[.int .i64 602, .int .i64 2, .int .i64 22, .int .i64 22, .int .i64 12, .int .i64 0]) (t := 27) (w := w11) (b := w11.heap.size) rfl).alloc (.cells #[.int .i64 602, .int .i64 2, .int .i64 22, .int .i64 22, .bool true, .int .i64 0] 41))
  have KY := Lib.hid (Blk.of (vs := #[.int .i64 602, .int .i64 2, .int .i64 22, .int .i64 22, .bool true, .int .i64 0]) (t := 41) (w := w11.alloc (.cells #[.int .i64 602, .int .i64 2, .int .i64 22, .int .i64 22, .int .i64 12, .int .i64 0] 27)) (b := w11.heap.size + 1) (by simp))
  have hb12 : Below w11.heap.size w11 ((w11.alloc (.cells #[.int .i64 602, .int .i64 2, .int .i64 22, .int .i64 22, .int .i64 12, .int .i64 0] 27)).alloc (.cells #[.int .i64 602, .int .i64 2, .int .i64 22, .int .i64 22, .bool true, .int .i64 0] 41)) := ((Below.refl _ _).alloc (Nat.le_refl _) _).alloc (by simp) _
  have hnN := HB.out.size
  have nzN_S := KS.out.lt
  have nzN_I := KI.out.lt
  have nzN_A := KA.out.lt
  have nzN_X := KX.out.lt
  have nzN_R := KR.out.lt
  replace HB := hT HB hb12
  replace KS := hK KS hb12
  replace KI := hK KI hb12
  replace KA := hK KA hb12
  replace KX := hK KX hb12
  replace KR := hK KR hb12
  replace RL := Lib.hid (RL.out.below hb12)
  clear hb12
  generalize (w11.alloc (.cells #[.int .i64 602, .int .i64 2, .int .i64 22, .int .i64 22, .int .i64 12, .int .i64 0] 27)).alloc (.cells #[.int .i64 602, .int .i64 2, .int .i64 22, .int .i64 22, .bool true, .int .i64 0] 41) = w12 at *
  generalize w11.heap.size = bN at *
  have neN_S : bN ≠ bS := by omega
  have neY_S : bN + 1 ≠ bS := by omega
  have neN_I : bN ≠ bI := by omega
  have neY_I : bN + 1 ≠ bI := by omega
  have neN_A : bN ≠ bA := by omega
  have neY_A : bN + 1 ≠ bA := by omega
  have neN_X : bN ≠ (bA + 1) := by omega
  have neY_X : bN + 1 ≠ (bA + 1) := by omega
  have neN_R : bN ≠ bR := by omega
  have neY_R : bN + 1 ≠ bR := by omega
  clear nzN_S nzN_I nzN_A nzN_X nzN_R
  obtain ⟨yS_0, yS_1, yS_2, yS_3, yS_4, yS_5, yS_z⟩ := blk6 KS
  obtain ⟨yA_0, yA_1, yA_2, yA_3, yA_4, yA_5, yA_z⟩ := blk6 KA
  obtain ⟨yX_0, yX_1, yX_2, yX_3, yX_4, yX_5, yX_z⟩ := blk6 KX
  obtain ⟨yN_0, yN_1, yN_2, yN_3, yN_4, yN_5, yN_z⟩ := blk6 KN
  obtain ⟨yY_0, yY_1, yY_2, yY_3, yY_4, yY_5, yY_z⟩ := blk6 KY
  go_wp2_with fail
  refine (TX.out _ (HE.out.below HB.out)).mono ?_
  rintro e13 w13 ⟨rfl, hb13⟩
  replace HB := hT HB hb13
  replace KS := hK KS hb13
  replace KI := hK KI hb13
  replace KA := hK KA hb13
  replace KX := hK KX hb13
  replace KR := hK KR hb13
  replace KN := hK KN hb13
  replace KY := hK KY hb13
  replace RL := Lib.hid (RL.out.below hb13)
  clear yS_0 yS_1 yS_2 yS_3 yS_4 yS_5 yS_z yA_0 yA_1 yA_2 yA_3 yA_4 yA_5 yA_z yX_0 yX_1 yX_2 yX_3 yX_4 yX_5 yX_z yN_0 yN_1 yN_2 yN_3 yN_4 yN_5 yN_z yY_0 yY_1 yY_2 yY_3 yY_4 yY_5 yY_z
  clear hb13
  go_wp2
  go_ret
  exact ⟨rfl, HB.out⟩
end Go.Proofs.YtajmjkliblippaaGreatDoor
