/-
  The walk of flightdeckref41.Rows at a bearing report.
-/
import Derived.Test.YtnnafjmfbnnnjaaDoorRowsBase
namespace Go.Proofs.YtnnafjmfbnnnjaaDoor
set_option linter.unusedVariables false
open Go.RowKit Tr Sq
set_option maxHeartbeats 4000000 in
set_option maxRecDepth 100000 in
theorem rows_brg_ref (s x y v b wt t cx cy bx b2 K D A B F : Int) (w : World) (hk : checkI s 3 x y v b wt t = 0) (hv : boxV cx cy bx b2 = true) (eK : radI cx cy bx b2 = K) (eD : distI x y cx cy = D)
    (hx : -2000000 ≤ x ∧ x ≤ 2000000) (hy : -2000000 ≤ y ∧ y ≤ 2000000) (hvv : 0 ≤ v ∧ v ≤ 129599999) (hbb : 0 ≤ b ∧ b ≤ 3600000)
    (K0 : 0 ≤ K) (K1 : K ≤ 2828428) (D0 : 0 ≤ D) (D1 : D ≤ 5656854) (eA : brgA v = A) (eB : brgB v = B) (eF : brgF b (D + 1 + K) = F) (hA : -256 ≤ A ∧ A ≤ 256) (hB : -256 ≤ B ∧ B ≤ 256) (hF : 0 ≤ F ∧ F ≤ 4294967296) (pA : -512000000 ≤ A * x ∧ A * x ≤ 512000000) (pB : -512000000 ≤ B * y ∧ B * y ≤ 512000000)
    (hcv : -1073741824 ≤ cosI v ∧ cosI v ≤ 1073741824) (hsv : -1073741824 ≤ sinI v ∧ sinI v ≤ 1073741824) (hsb : 0 ≤ sinI b ∧ sinI b ≤ 1073741824) (hG : 0 ≤ 256 * (D + 1 + K) * (sinI b + 2) ∧ 256 * (D + 1 + K) * (sinI b + 2) < 9223372036854775808) :
    Calls Tryd.prog 24 #[.agg #[.int .i64 s, .int .u8 3, .int .i64 x, .int .i64 y, .int .i64 v, .int .i64 b, .int .i64 wt, .int .i64 t], .agg #[.int .i64 cx, .int .i64 cy, .int .i64 bx, .int .i64 b2]] w fun e w' => ∃ u, e = .returned (.tuple #[u, .int .i64 0]) ∧ RowsIs w [⟨s, A, B, A * x + B * y, D + 1 + K + F, wt⟩] u w' ∧ Below w.heap.size w w' := by
  obtain ⟨x0, x1⟩ := hx
  obtain ⟨y0, y1⟩ := hy
  obtain ⟨v0, v1⟩ := hvv
  obtain ⟨b0, b1⟩ := hbb
  obtain ⟨A0, A1⟩ := hA
  obtain ⟨B0, B1⟩ := hB
  obtain ⟨F0, F1⟩ := hF
  obtain ⟨pA0, pA1⟩ := pA
  obtain ⟨pB0, pB1⟩ := pB
  obtain ⟨cv0, cv1⟩ := hcv
  obtain ⟨sv0, sv1⟩ := hsv
  obtain ⟨sb0, sb1⟩ := hsb
  obtain ⟨G0, G1⟩ := hG
  have C1 := fun w => check_ref s 3 x y v b wt t w (by decide) (by decide)
  have V1 := fun w => boxv_ref cx cy bx b2 w
  have R1 := fun w => radius_ref cx cy bx b2 w
  have D1' := fun w => dist_ref x y cx cy w
  rw [hk] at C1
  rw [hv] at V1
  rw [eK] at R1
  rw [eD] at D1'
  have C1 := Lib.hid C1
  have V1 := Lib.hid V1
  have R1 := Lib.hid R1
  have DD := Lib.hid D1'
  clear hk hv eK eD
  unfold brgA at eA
  unfold brgB at eB
  unfold brgF at eF
  have NV := fun w => cos_ref v w (by omega) (by omega)
  have SV := fun w => sin_ref v w (by omega) (by omega)
  have SB := fun w => sin_ref b w (by omega) (by omega)
  generalize cosI v = cv at *
  generalize sinI v = sv at *
  generalize sinI b = sb at *
  have CA := fun w => rround_any (256 * cv) 1073741824 w (by omega) (by omega) (by omega) (by omega)
  have CB := fun w => rround_any (-256 * sv) 1073741824 w (by omega) (by omega) (by omega) (by omega)
  have CF := fun w => rmuldivup_any (256 * (D + 1 + K)) (sb + 2) 1073741824 w (by omega) (by omega) (by omega) (by omega) (by omega) (by omega) (by omega) (by omega)
  rw [eA] at CA
  rw [eB] at CB
  rw [eF] at CF
  have CA := Lib.hid CA
  have CB := Lib.hid CB
  have CF := Lib.hid CF
  have NV := Lib.hid NV
  have SV := Lib.hid SV
  have SB := Lib.hid SB
  clear eA eB eF G0 G1
  go_enter Tryd.func24, Tryd.ntmps24
  go_wp2_with fail
  refine (C1.out _).mono ?_
  rintro e w1 ⟨rfl, hb⟩
  obtain ⟨hc, hf⟩ := bcell hb
  have hz0 : w.heap.size < w1.heap.size := by have := hb.size; simp at this; omega
  have hz1 : w.heap.size + 1 < w1.heap.size := by have := hb.size; simp at this; omega
  have hA : Below w.heap.size w w1 := (((Below.refl _ _).alloc (Nat.le_refl _) _).alloc (by simp) _).trans (hb.mono (by simp; omega))
  go_wp2_with fail
  refine (V1.out _).mono ?_
  rintro e w2 ⟨rfl, hb2⟩
  obtain ⟨hc2, hf2⟩ := bcell hb2
  have hz2 : w.heap.size < w2.heap.size := Nat.lt_of_lt_of_le hz0 hb2.size
  have hz3 : w.heap.size + 1 < w2.heap.size := Nat.lt_of_lt_of_le hz1 hb2.size
  have hB := Lib.hid (hA.trans (hb2.mono hA.size))
  go_upto_region 14 with fail
  have R0 : RepIs w2 w.heap.size s 3 x y v b wt t := by unfold RepIs; refine ⟨?_, ?_, ?_, ?_, ?_, ?_, ?_, ?_⟩ <;> go_simp
  have X0 : BoxIs w2 (w.heap.size + 1) cx cy bx b2 := by unfold BoxIs; refine ⟨?_, ?_, ?_, ?_⟩ <;> go_simp
  have hW := ((Below.refl w2.heap.size w2).alloc (Nat.le_refl _) (.cells #[.int .i64 s, .int .i64 0, .int .i64 0, .int .i64 0, .int .i64 0, .int .i64 wt] 37)).alloc (by simp) (.cells #[.int .i64 cx, .int .i64 cy] 24)
  have R2 := R0.keep hW hz2
  have X2 := X0.keep hW hz3
  have S2 : Six ((w2.alloc (.cells #[.int .i64 s, .int .i64 0, .int .i64 0, .int .i64 0, .int .i64 0, .int .i64 wt] 37)).alloc (.cells #[.int .i64 cx, .int .i64 cy] 24)) w2.heap.size ⟨s, 0, 0, 0, 0, wt⟩ := by unfold Six; refine ⟨⟨?_, ?_, ?_, ?_, ?_, ?_⟩, ?_, ?_, ?_, ?_, ?_, ?_⟩ <;> go_simp
  have P2 : Pair2 ((w2.alloc (.cells #[.int .i64 s, .int .i64 0, .int .i64 0, .int .i64 0, .int .i64 0, .int .i64 wt] 37)).alloc (.cells #[.int .i64 cx, .int .i64 cy] 24)) (w2.heap.size + 1) cx cy := by unfold Pair2; refine ⟨?_, ?_, ?_, ?_⟩ <;> go_simp
  have hB3 := Lib.hid (hB.out.trans (hW.mono hB.out.size))
  have hw2 := hB.out.size
  have hz4 : w2.heap.size < ((w2.alloc (.cells #[.int .i64 s, .int .i64 0, .int .i64 0, .int .i64 0, .int .i64 0, .int .i64 wt] 37)).alloc (.cells #[.int .i64 cx, .int .i64 cy] 24)).heap.size := by simp; omega
  have hz5 : w2.heap.size + 1 < ((w2.alloc (.cells #[.int .i64 s, .int .i64 0, .int .i64 0, .int .i64 0, .int .i64 0, .int .i64 wt] 37)).alloc (.cells #[.int .i64 cx, .int .i64 cy] 24)).heap.size := by simp
  have hz6 : w.heap.size < ((w2.alloc (.cells #[.int .i64 s, .int .i64 0, .int .i64 0, .int .i64 0, .int .i64 0, .int .i64 wt] 37)).alloc (.cells #[.int .i64 cx, .int .i64 cy] 24)).heap.size := by omega
  clear R0 X0 hW hb hc hf hz0 hz1 hA hb2 hc2 hf2 hB
  generalize hW3 : ((w2.alloc (.cells #[.int .i64 s, .int .i64 0, .int .i64 0, .int .i64 0, .int .i64 0, .int .i64 wt] 37)).alloc (.cells #[.int .i64 cx, .int .i64 cy] 24)) = w3 at *
  clear hW3
  obtain ⟨c, hcq⟩ : ∃ c, c = w2.heap.size + 1 := ⟨_, rfl⟩
  rw [← hcq] at P2 hz5 ⊢
  generalize hg : w2.heap.size = g at *
  have n1 : g ≠ c := by omega
  have n2 : w.heap.size ≠ g := by omega
  have n3 : w.heap.size ≠ c := by omega
  have n4 : c ≠ g := by omega
  clear hg hcq w2
  have HR := Lib.hid R2
  have HS := Lib.hid S2
  have HP := Lib.hid P2
  obtain ⟨r0, r1, r2, r3, r4, r5, r6, r7⟩ := R2
  obtain ⟨x0_, x1_, x2_, x3_⟩ := X2
  obtain ⟨q0_, q1_, -, -⟩ := P2
  clear S2
  have u0 := fun d os => cell_regrown r2 d os
  have u1 := fun d os => cell_regrown r3 d os
  have u2 := fun d os => cell_regrown x0_ d os
  have u3 := fun d os => cell_regrown x1_ d os
  have u4 := fun d os => cell_regrown x2_ d os
  have u5 := fun d os => cell_regrown x3_ d os
  have u6 := fun d os => cell_regrown q0_ d os
  have u7 := fun d os => cell_regrown q1_ d os
  have k1 := Lib.hid (fun d os => Calls.regrown_of (R1.out (Go.Sort.grow (redrawn w3 d) os)))
  have k2 := Lib.hid (fun d os => Calls.regrown_of (DD.out (Go.Sort.grow (redrawn w3 d) os)))
  refine wp_region_quiet_below (by kernel_rfl) (by kernel_rfl) ?_
  repeat (quiet_step (first | with_reducible exact k1.out _ _ | with_reducible exact k2.out _ _))
  refine wpQuiet_nil ?_
  intro w5 hw'
  have hb5 : Below w3.heap.size w3 w5 := by
    obtain ⟨⟨dq, osq⟩, hw''⟩ := hw'
    rw [hw'']; exact below_regrown w3 dq osq
  have R2 := HR.out.keep hb5 hz6
  have S2 := HS.out.keep hb5 hz4
  have P2 := HP.out.keep hb5 hz5
  have hB5 := Lib.hid (hB3.out.trans (hb5.mono hB3.out.size))
  clear k1 k2 u0 u1 u2 u3 u4 u5 u6 u7 hw' hb5 HR HS HP hB3 r0 r1 r2 r3 r4 r5 r6 r7 x0_ x1_ x2_ x3_ q0_ q1_ hz2 hz3 hz4 hz5 hz6 V1 R1 C1 DD
  have HR := Lib.hid R2
  have HS := Lib.hid S2
  obtain ⟨r0, r1, r2, r3, r4, r5, r6, r7⟩ := R2
  obtain ⟨⟨m0, m1, m2, m3, m4, m5⟩, f0, f1, f2, f3, f4, f5⟩ := S2
  obtain ⟨q0, q1, -, -⟩ := P2
  go_wp2_with fail
  refine (NV.out _).mono ?_
  rintro e w6 ⟨rfl, rfl⟩
  go_wp2_with fail
  refine (CA.out _).mono ?_
  rintro e w6 ⟨rfl, rfl⟩
  go_wp2_with fail
  refine (SV.out _).mono ?_
  rintro e w6 ⟨rfl, rfl⟩
  go_wp2_with fail
  refine (CB.out _).mono ?_
  rintro e w6 ⟨rfl, rfl⟩
  go_wp2_with fail
  refine (SB.out _).mono ?_
  rintro e w6 ⟨rfl, rfl⟩
  go_wp2_with fail
  refine (CF.out _).mono ?_
  rintro e w6 ⟨rfl, rfl⟩
  go_upto_region 30 with fail
  have S9 : Six ((((((w5.setCell ⟨g, 1, none⟩ (.int .i64 A))).setCell ⟨g, 2, none⟩ (.int .i64 B)).setCell ⟨g, 3, none⟩ (.int .i64 (A * x + B * y)))).setCell ⟨g, 4, none⟩ (.int .i64 (D + 1 + K + F))) g ⟨s, A, B, A * x + B * y, D + 1 + K + F, wt⟩ := by unfold Six; refine ⟨⟨?_, ?_, ?_, ?_, ?_, ?_⟩, ?_, ?_, ?_, ?_, ?_, ?_⟩ <;> go_simp
  have hB9 := Lib.hid ((((hB5.out.setCell (p := ⟨g, 1, none⟩) hw2 (.int .i64 A)).setCell (p := ⟨g, 2, none⟩) hw2 (.int .i64 B)).setCell (p := ⟨g, 3, none⟩) hw2 (.int .i64 (A * x + B * y))).setCell (p := ⟨g, 4, none⟩) hw2 (.int .i64 (D + 1 + K + F)))
  clear r0 r1 r2 r3 r4 r5 r6 r7 m0 m1 m2 m3 m4 m5 f0 f1 f2 f3 f4 f5 HR HS hB5
  generalize (((((w5.setCell ⟨g, 1, none⟩ (.int .i64 A))).setCell ⟨g, 2, none⟩ (.int .i64 B)).setCell ⟨g, 3, none⟩ (.int .i64 (A * x + B * y)))).setCell ⟨g, 4, none⟩ (.int .i64 (D + 1 + K + F)) = w9 at *
  obtain ⟨⟨m0, m1, m2, m3, m4, m5⟩, -⟩ := S9
  go_wp2
  go_ret2
  refine ⟨_, rfl, .inr ⟨w9.heap.size, by simp, rfl, hB9.out.size, ?_⟩, hB9.out.alloc hB9.out.size _⟩
  show (w9.heap.push _)[w9.heap.size]? = _
  rw [Array.getElem?_push_size]
  rfl
end Go.Proofs.YtnnafjmfbnnnjaaDoor
