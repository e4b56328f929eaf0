/-
  Of the text SnRowsBrg: what is wanted here.
-/
import Derived.Test.YtidelghgjibndaaGreatN7SnRowsBase
namespace Go.Proofs.YtidelghgjibndaaGreat.S41
set_option linter.unusedVariables false
open Go.RowKit Tr Sq
set_option maxHeartbeats 4000000 in
set_option maxRecDepth 100000 in
theorem rows_brg (s x y v b wt t cx cy bx b2 K D A B F : Int) (w : World) (hk : checkI s 3 x y v b wt t = 0) (hv : boxV cx cy bx b2 = true) (eK : radI cx cy bx b2 = K) (eD : distI x y cx cy = D)
    (hx : -2000000 ≤ x ∧ x ≤ 2000000) (hy : -2000000 ≤ y ∧ y ≤ 2000000) (hvv : 0 ≤ v ∧ v ≤ 129599999) (hbb : 0 ≤ b ∧ b ≤ 3600000)
    (K0 : 0 ≤ K) (K1 : K ≤ 2828428) (D0 : 0 ≤ D) (D1 : D ≤ 5656854) (eA : brgA v = A) (eB : brgB v = B) (eF : brgF b (D + 1 + K) = F) (hA : -256 ≤ A ∧ A ≤ 256) (hB : -256 ≤ B ∧ B ≤ 256) (hF : 0 ≤ F ∧ F ≤ 4294967296) (pA : -512000000 ≤ A * x ∧ A * x ≤ 512000000) (pB : -512000000 ≤ B * y ∧ B * y ≤ 512000000)
    (hcv : -1073741824 ≤ cosI v ∧ cosI v ≤ 1073741824) (hsv : -1073741824 ≤ sinI v ∧ sinI v ≤ 1073741824) (hsb : 0 ≤ sinI b ∧ sinI b ≤ 1073741824) (hG : 0 ≤ 256 * (D + 1 + K) * (sinI b + 2) ∧ 256 * (D + 1 + K) * (sinI b + 2) < 9223372036854775808) :
    Calls Tryz.prog 24 #[.agg #[.int .i64 s, .int .u8 3, .int .i64 x, .int .i64 y, .int .i64 v, .int .i64 b, .int .i64 wt, .int .i64 t], .agg #[.int .i64 cx, .int .i64 cy, .int .i64 bx, .int .i64 b2]] w fun e w' => ∃ u, e = .returned (.tuple #[u, .int .i64 0]) ∧ RowsIs w [⟨s, A, B, A * x + B * y, D + 1 + K + F, wt⟩] u w' ∧ Below w.heap.size w w' := by
  obtain ⟨x0, x1⟩ := hx
  obtain ⟨y0, y1⟩ := hy
  obtain ⟨v0, v1⟩ := hvv
  obtain ⟨b0, b1⟩ := hbb
  obtain ⟨A0, A1⟩ := hA
  obtain ⟨B0, B1⟩ := hB
  obtain ⟨F0, F1⟩ := hF
  obtain ⟨pA0, pA1⟩ := pA
  obtain ⟨pB0, pB1⟩ := pB
  obtain ⟨cv0, cv1⟩ := hcv
  obtain ⟨sv0, sv1⟩ := hsv
  obtain ⟨sb0, sb1⟩ := hsb
  obtain ⟨G0, G1⟩ := hG
  have C1 := fun w => check_any s 3 x y v b wt t w (by decide) (by decide)
  have V1 := fun w => boxv_any cx cy bx b2 w
  have R1 := fun w => radius_any cx cy bx b2 w
  have D1' := fun w => dist_any x y cx cy w
  rw [hk] at C1
  rw [hv] at V1
  rw [eK] at R1
  rw [eD] at D1'
  have C1 := Lib.hid C1
  have V1 := Lib.hid V1
  have R1 := Lib.hid R1
  have DD := Lib.hid D1'
  clear hk hv eK eD
  unfold brgA at eA
  unfold brgB at eB
  unfold brgF at eF
  have NV := fun w => cos_any v w (by omega) (by omega)
  have SV := fun w => sin_any v w (by omega) (by omega)
  have SB := fun w => sin_any b w (by omega) (by omega)
  generalize cosI v = cv at *
  generalize sinI v = sv at *
  generalize sinI b = sb at *
  have CA := fun w => round_any (256 * cv) 1073741824 w (by omega) (by omega) (by omega) (by omega)
  have CB := fun w => round_any (-256 * sv) 1073741824 w (by omega) (by omega) (by omega) (by omega)
  have CF := fun w => muldivup_any (256 * (D + 1 + K)) (sb + 2) 1073741824 w (by omega) (by omega) (by omega) (by omega) (by omega) (by omega) (by omega) (by omega)
  rw [eA] at CA
  rw [eB] at CB
  rw [eF] at CF
  have CA := Lib.hid CA
  have CB := Lib.hid CB
  have CF := Lib.hid CF
  have NV := Lib.hid NV
  have SV := Lib.hid SV
  have SB := Lib.hid SB
  clear eA eB eF G0 G1
  go_enter Tryz.func24, Tryz.ntmps24
  go_wp2_with fail
  refine (C1.out _).mono ?_
  rintro e w1 ⟨rfl, hb⟩
  obtain ⟨hc, hf⟩ := bcell hb
  have hz0 : w.heap.size < w1.heap.size := by have := hb.size; simp at this; omega
  have hz1 : w.heap.size + 1 < w1.heap.size := by have := hb.size; simp at this; omega
  have hA : Below w.heap.size w w1 := (((Below.refl _ _).alloc (Nat.le_refl _) _).alloc (by simp) _).trans (hb.mono (by simp; omega))
  go_wp2_with fail
  refine (V1.out _).mono ?_
  rintro e w2 ⟨rfl, hb2⟩
  obtain ⟨hc2, hf2⟩ := bcell hb2
  have hz2 : w.heap.size < w2.heap.size := Nat.lt_of_lt_of_le hz0 hb2.size
  have hz3 : w.heap.size + 1 < w2.heap.size := Nat.lt_of_lt_of_le hz1 hb2.size
  have hB := Lib.hid (hA.trans (hb2.mono hA.size))
  go_upto_region 7 with fail
  have hR : RepIs (w2.alloc (.cells #[.int .i64 s, .int .i64 0, .int .i64 0, .int .i64 0, .int .i64 0, .int .i64 wt] 59)) w.heap.size s 3 x y v b wt t := by unfold RepIs; refine ⟨?_, ?_, ?_, ?_, ?_, ?_, ?_, ?_⟩ <;> go_simp
  have hX : BoxIs (w2.alloc (.cells #[.int .i64 s, .int .i64 0, .int .i64 0, .int .i64 0, .int .i64 0, .int .i64 wt] 59)) (w.heap.size + 1) cx cy bx b2 := by unfold BoxIs; refine ⟨?_, ?_, ?_, ?_⟩ <;> go_simp
  have hS : Six (w2.alloc (.cells #[.int .i64 s, .int .i64 0, .int .i64 0, .int .i64 0, .int .i64 0, .int .i64 wt] 59)) w2.heap.size ⟨s, 0, 0, 0, 0, wt⟩ := by unfold Six; refine ⟨⟨?_, ?_, ?_, ?_, ?_, ?_⟩, ?_, ?_, ?_, ?_, ?_, ?_⟩ <;> go_simp
  have hz4 : w2.heap.size < (w2.alloc (.cells #[.int .i64 s, .int .i64 0, .int .i64 0, .int .i64 0, .int .i64 0, .int .i64 wt] 59)).heap.size := by simp
  have hB3 := Lib.hid (hB.out.alloc hB.out.size (.cells #[.int .i64 s, .int .i64 0, .int .i64 0, .int .i64 0, .int .i64 0, .int .i64 wt] 59))
  have hw2 := hB.out.size
  clear hb hc hf hz0 hz1 hA hb2 hc2 hf2 hB
  generalize hW3 : w2.alloc (.cells #[.int .i64 s, .int .i64 0, .int .i64 0, .int .i64 0, .int .i64 0, .int .i64 wt] 59) = w3 at *
  clear hW3
  generalize hg : w2.heap.size = g at *
  clear hg w2
  have hz5 : w.heap.size < w3.heap.size := by omega
  have hz6 : w.heap.size + 1 < w3.heap.size := by omega
  have HR := Lib.hid hR
  have HS := Lib.hid hS
  clear hR hS
  obtain ⟨p0, p1, p2, p3⟩ := hX
  go_cut [8, 9] (Mid w3 K cx cy)
  case first =>
    go_region_with (go_simp; go_at_call 46; (refine (R1.out _).mono ?_); rintro e w4 ⟨rfl, hb4⟩; have d0 := (hb4.cell (p := ⟨w.heap.size + 1, 0, none⟩) (by simp; omega)).trans (show _ = some (Value.int .i64 cx) by go_simp); have d1 := (hb4.cell (p := ⟨w.heap.size + 1, 1, none⟩) (by simp; omega)).trans (show _ = some (Value.int .i64 cy) by go_simp); have hz7 : w3.heap.size ≤ w4.heap.size := (by have := hb4.size; simp at this; omega); have hz8 : w.heap.size + 1 < w4.heap.size := (by omega); first | (have z := Pair2.keep (pair_new w3 0 0 _) hb4 (lt_new w3 _); obtain ⟨z0, z1, z2, z3⟩ := z) | (have z := Pair2.keep (pair_new w3 cx cy _) hb4 (lt_new w3 _); obtain ⟨z0, z1, z2, z3⟩ := z) | skip)
    all_goals
      have hW4 : Below w3.heap.size w3 w4 := by first | exact (Below.refl _ w3).drew.trans hb4 | exact (((Below.refl _ w3).alloc (Nat.le_refl _) _).drew).trans (hb4.mono (by simp))
      go_wp2_with fail
      go_meet
      first
      | (with_reducible refine mid_b _ hW4 hz7)
      | (with_reducible refine mid_a hW4 (World.block_lt_of_cell? _ _ z0) z0 z1 z2 z3)
      | (with_reducible refine mid_c hW4 (World.block_lt_of_cell? _ _ z0) z0 z1)
      | (refine Mid.drew ?_; with_reducible refine mid_b _ hW4 hz7)
      | (refine Mid.drew ?_; with_reducible refine mid_a hW4 (World.block_lt_of_cell? _ _ z0) z0 z1 z2 z3)
  case rest =>
    obtain ⟨c, rfl, rfl, hc0, hc1, hcx, hcy, hbM⟩ := hcut
    have n1 : g ≠ c := by omega
    have n2 : w.heap.size ≠ g := by omega
    have n3 : w.heap.size ≠ c := by omega
    have n4 : c ≠ g := by omega
    have R2 := HR.out.keep hbM hz5
    have S2 := HS.out.keep hbM hz4
    have hBM := Lib.hid (hB3.out.trans (hbM.mono (by have := hB3.out.size; omega)))
    have z1 : w.heap.size < wc.heap.size := by have := hbM.size; omega
    have z2 : g < wc.heap.size := by have := hbM.size; omega
    clear p0 p1 p2 p3 hbM hB3 HR HS hz3 hz4 hz5 hz6 V1 R1 C1
    have HR := Lib.hid R2
    have HS := Lib.hid S2
    obtain ⟨r0, r1, r2, r3, r4, r5, r6, r7⟩ := R2
    clear S2
    go_wp2_with fail
    refine (DD.out _).mono ?_
    rintro e w5 ⟨rfl, hb5⟩
    have R2 := HR.out.keep hb5 z1
    have S2 := HS.out.keep hb5 z2
    have hB5 := Lib.hid (hBM.out.trans (hb5.mono (by have := hBM.out.size; omega)))
    have y1 : w.heap.size < w5.heap.size := by have := hb5.size; omega
    have y2 : g < w5.heap.size := by have := hb5.size; omega
    have q0 := (hb5.cell (p := ⟨c, 0, none⟩) hc1).trans hcx
    have q1 := (hb5.cell (p := ⟨c, 1, none⟩) hc1).trans hcy
    clear r0 r1 r2 r3 r4 r5 r6 r7 HR HS hBM z1 z2 hb5 hcx hcy hc0 hc1
    have HR := Lib.hid R2
    have HS := Lib.hid S2
    obtain ⟨r0, r1, r2, r3, r4, r5, r6, r7⟩ := R2
    obtain ⟨⟨m0, m1, m2, m3, m4, m5⟩, f0, f1, f2, f3, f4, f5⟩ := S2
    go_wp2_with fail
    refine (NV.out _).mono ?_
    rintro e w6 ⟨rfl, rfl⟩
    go_wp2_with fail
    refine (CA.out _).mono ?_
    rintro e w6 ⟨rfl, ka, rfl⟩
    go_wp2_with fail
    refine (SV.out _).mono ?_
    rintro e w6 ⟨rfl, rfl⟩
    go_wp2_with fail
    refine (CB.out _).mono ?_
    rintro e w6 ⟨rfl, kb, rfl⟩
    go_wp2_with fail
    refine (SB.out _).mono ?_
    rintro e w6 ⟨rfl, rfl⟩
    go_wp2_with fail
    refine (CF.out _).mono ?_
    rintro e w6 ⟨rfl, kf, rfl⟩
    go_upto_region 31 with fail
    have S9 : Six (((((((w5.drewN ka).setCell ⟨g, 1, none⟩ (.int .i64 A)).drewN kb).setCell ⟨g, 2, none⟩ (.int .i64 B)).setCell ⟨g, 3, none⟩ (.int .i64 (A * x + B * y))).drewN kf).setCell ⟨g, 4, none⟩ (.int .i64 (D + 1 + K + F))) g ⟨s, A, B, A * x + B * y, D + 1 + K + F, wt⟩ := by unfold Six; refine ⟨⟨?_, ?_, ?_, ?_, ?_, ?_⟩, ?_, ?_, ?_, ?_, ?_, ?_⟩ <;> go_simp
    have hB9 := Lib.hid ((below_drewN (((below_drewN ((below_drewN hB5.out ka).setCell (p := ⟨g, 1, none⟩) hw2 (.int .i64 A)) kb).setCell (p := ⟨g, 2, none⟩) hw2 (.int .i64 B)).setCell (p := ⟨g, 3, none⟩) hw2 (.int .i64 (A * x + B * y))) kf).setCell (p := ⟨g, 4, none⟩) hw2 (.int .i64 (D + 1 + K + F)))
    clear r0 r1 r2 r3 r4 r5 r6 r7 m0 m1 m2 m3 m4 m5 f0 f1 f2 f3 f4 f5 HR HS hB5
    generalize ((((((w5.drewN ka).setCell ⟨g, 1, none⟩ (.int .i64 A)).drewN kb).setCell ⟨g, 2, none⟩ (.int .i64 B)).setCell ⟨g, 3, none⟩ (.int .i64 (A * x + B * y))).drewN kf).setCell ⟨g, 4, none⟩ (.int .i64 (D + 1 + K + F)) = w9 at *
    obtain ⟨⟨m0, m1, m2, m3, m4, m5⟩, -⟩ := S9
    go_wp2
    go_ret2
    refine ⟨_, rfl, .inr ⟨w9.heap.size, by simp, rfl, hB9.out.size, ?_⟩, hB9.out.alloc hB9.out.size _⟩
    show (w9.heap.push _)[w9.heap.size]? = _
    rw [Array.getElem?_push_size]
    rfl
end Go.Proofs.YtidelghgjibndaaGreat.S41
