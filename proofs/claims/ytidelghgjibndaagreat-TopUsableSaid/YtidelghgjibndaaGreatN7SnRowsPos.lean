/-
  Of the text SnRowsPos: what is wanted here.
-/
import Derived.Test.YtidelghgjibndaaGreatN7SnRowsBase
namespace Go.Proofs.YtidelghgjibndaaGreat.S41
set_option linter.unusedVariables false
open Go.RowKit Tr Sq
set_option maxHeartbeats 4000000 in
set_option maxRecDepth 100000 in
theorem rows_pos (s x y v b wt t cx cy bx b2 : Int) (w : World) (hk : checkI s 1 x y v b wt t = 0) (hx : wrap64 (256 * x) = 256 * x) (hy : wrap64 (256 * y) = 256 * y) (hb2 : wrap64 (256 * b) = 256 * b) (hv : boxV cx cy bx b2 = true) : Calls Tryz.prog 24 #[.agg #[.int .i64 s, .int .u8 1, .int .i64 x, .int .i64 y, .int .i64 v, .int .i64 b, .int .i64 wt, .int .i64 t], .agg #[.int .i64 cx, .int .i64 cy, .int .i64 bx, .int .i64 b2]] w fun e w' => ∃ u, e = .returned (.tuple #[u, .int .i64 0]) ∧ RowsIs w [⟨s, 256, 0, 256 * x, 256 * b, wt⟩, ⟨s, 0, 256, 256 * y, 256 * b, wt⟩] u w' ∧ Below w.heap.size w w' := by
  have HX := Lib.hid hx
  have HY := Lib.hid hy
  have HB := Lib.hid hb2
  clear hx hy hb2
  have C1 := Lib.hid (fun w => check_any s 1 x y v b wt t w (by decide) (by decide))
  have V1 := Lib.hid (fun w => boxv_any cx cy bx b2 w)
  have R1 := Lib.hid (fun w => radius_any cx cy bx b2 w)
  have D1 := Lib.hid (fun w => dist_any x y cx cy w)
  rw [hk] at C1
  rw [hv] at V1
  clear hk hv
  go_enter Tryz.func24, Tryz.ntmps24
  go_wp2_with fail
  refine (C1.out _).mono ?_
  rintro e w1 ⟨rfl, hb⟩
  obtain ⟨hc, hf⟩ := bcell hb
  have hz0 : w.heap.size < w1.heap.size := by have := hb.size; simp at this; omega
  have hz1 : w.heap.size + 1 < w1.heap.size := by have := hb.size; simp at this; omega
  have hA : Below w.heap.size w w1 := (((Below.refl _ _).alloc (Nat.le_refl _) _).alloc (by simp) _).trans (hb.mono (by simp; omega))
  go_wp2_with fail
  refine (V1.out _).mono ?_
  rintro e w2 ⟨rfl, hb2⟩
  obtain ⟨hc2, hf2⟩ := bcell hb2
  have hz2 : w.heap.size < w2.heap.size := Nat.lt_of_lt_of_le hz0 hb2.size
  have hz3 : w.heap.size + 1 < w2.heap.size := Nat.lt_of_lt_of_le hz1 hb2.size
  have hB := Lib.hid (hA.trans (hb2.mono hA.size))
  go_upto_region 7 with fail
  have hR : RepIs (w2.alloc (.cells #[.int .i64 s, .int .i64 0, .int .i64 0, .int .i64 0, .int .i64 0, .int .i64 wt] 59)) w.heap.size s 1 x y v b wt t := by unfold RepIs; refine ⟨?_, ?_, ?_, ?_, ?_, ?_, ?_, ?_⟩ <;> go_simp
  have hX : BoxIs (w2.alloc (.cells #[.int .i64 s, .int .i64 0, .int .i64 0, .int .i64 0, .int .i64 0, .int .i64 wt] 59)) (w.heap.size + 1) cx cy bx b2 := by unfold BoxIs; refine ⟨?_, ?_, ?_, ?_⟩ <;> go_simp
  have hS : Six (w2.alloc (.cells #[.int .i64 s, .int .i64 0, .int .i64 0, .int .i64 0, .int .i64 0, .int .i64 wt] 59)) w2.heap.size ⟨s, 0, 0, 0, 0, wt⟩ := by unfold Six; refine ⟨⟨?_, ?_, ?_, ?_, ?_, ?_⟩, ?_, ?_, ?_, ?_, ?_, ?_⟩ <;> go_simp
  have hz4 : w2.heap.size < (w2.alloc (.cells #[.int .i64 s, .int .i64 0, .int .i64 0, .int .i64 0, .int .i64 0, .int .i64 wt] 59)).heap.size := by simp
  have hB3 := Lib.hid (hB.out.alloc hB.out.size (.cells #[.int .i64 s, .int .i64 0, .int .i64 0, .int .i64 0, .int .i64 0, .int .i64 wt] 59))
  have hw2 := hB.out.size
  clear hb hc hf hz0 hz1 hA hb2 hc2 hf2 hB
  generalize hW3 : w2.alloc (.cells #[.int .i64 s, .int .i64 0, .int .i64 0, .int .i64 0, .int .i64 0, .int .i64 wt] 59) = w3 at *
  clear hW3
  generalize hg : w2.heap.size = g at *
  clear hg w2
  have hz5 : w.heap.size < w3.heap.size := by omega
  have hz6 : w.heap.size + 1 < w3.heap.size := by omega
  have HR := Lib.hid hR
  have HS := Lib.hid hS
  clear hR hS
  obtain ⟨p0, p1, p2, p3⟩ := hX
  go_cut [8, 9] (Mid w3 (radI cx cy bx b2) cx cy)
  case first =>
    go_region_with (go_simp; go_at_call 46; (refine (R1.out _).mono ?_); rintro e w4 ⟨rfl, hb4⟩; have d0 := (hb4.cell (p := ⟨w.heap.size + 1, 0, none⟩) (by simp; omega)).trans (show _ = some (Value.int .i64 cx) by go_simp); have d1 := (hb4.cell (p := ⟨w.heap.size + 1, 1, none⟩) (by simp; omega)).trans (show _ = some (Value.int .i64 cy) by go_simp); have hz7 : w3.heap.size ≤ w4.heap.size := (by have := hb4.size; simp at this; omega); have hz8 : w.heap.size + 1 < w4.heap.size := (by omega); first | (have z := Pair2.keep (pair_new w3 0 0 _) hb4 (lt_new w3 _); obtain ⟨z0, z1, z2, z3⟩ := z) | (have z := Pair2.keep (pair_new w3 cx cy _) hb4 (lt_new w3 _); obtain ⟨z0, z1, z2, z3⟩ := z) | skip)
    all_goals
      have hW4 : Below w3.heap.size w3 w4 := by first | exact (Below.refl _ w3).drew.trans hb4 | exact (((Below.refl _ w3).alloc (Nat.le_refl _) _).drew).trans (hb4.mono (by simp))
      go_wp2_with fail
      go_meet
      first
      | (with_reducible refine mid_b _ hW4 hz7)
      | (with_reducible refine mid_a hW4 (World.block_lt_of_cell? _ _ z0) z0 z1 z2 z3)
      | (with_reducible refine mid_c hW4 (World.block_lt_of_cell? _ _ z0) z0 z1)
      | (refine Mid.drew ?_; with_reducible refine mid_b _ hW4 hz7)
      | (refine Mid.drew ?_; with_reducible refine mid_a hW4 (World.block_lt_of_cell? _ _ z0) z0 z1 z2 z3)
  case rest =>
    obtain ⟨c, rfl, rfl, hc0, hc1, hcx, hcy, hbM⟩ := hcut
    have R2 := HR.out.keep hbM hz5
    have S2 := HS.out.keep hbM hz4
    have hBM := Lib.hid (hB3.out.trans (hbM.mono (by have := hB3.out.size; omega)))
    have z1 : w.heap.size < wc.heap.size := by have := hbM.size; omega
    have z2 : g < wc.heap.size := by have := hbM.size; omega
    clear p0 p1 p2 p3 hbM hB3 HR HS hz3 hz4 hz5 hz6 V1 R1 C1
    have HR := Lib.hid R2
    have HS := Lib.hid S2
    obtain ⟨r0, r1, r2, r3, r4, r5, r6, r7⟩ := R2
    clear S2
    go_wp2_with fail
    refine (D1.out _).mono ?_
    rintro e w5 ⟨rfl, hb5⟩
    have R2 := HR.out.keep hb5 z1
    have S2 := HS.out.keep hb5 z2
    have hB5 := Lib.hid (hBM.out.trans (hb5.mono (by have := hBM.out.size; omega)))
    have y1 : w.heap.size < w5.heap.size := by have := hb5.size; omega
    have y2 : g < w5.heap.size := by have := hb5.size; omega
    clear r0 r1 r2 r3 r4 r5 r6 r7 HR HS hBM z1 z2 hb5 hcx hcy hc0 hc1
    have HR := Lib.hid R2
    have HS := Lib.hid S2
    obtain ⟨r0, r1, r2, r3, r4, r5, r6, r7⟩ := R2
    obtain ⟨⟨m0, m1, m2, m3, m4, m5⟩, f0, f1, f2, f3, f4, f5⟩ := S2
    go_upto_region 12 with fail
    have R2 : RepIs (w5.setCell ⟨g, 4, none⟩ (.int .i64 (wrap64 (256 * b)))) w.heap.size s 1 x y v b wt t := by
      have hne : w.heap.size ≠ g := by omega
      unfold RepIs; refine ⟨?_, ?_, ?_, ?_, ?_, ?_, ?_, ?_⟩ <;> go_simp
    have S2 : Six (w5.setCell ⟨g, 4, none⟩ (.int .i64 (wrap64 (256 * b)))) g ⟨s, 0, 0, 0, wrap64 (256 * b), wt⟩ := by
      unfold Six; refine ⟨⟨?_, ?_, ?_, ?_, ?_, ?_⟩, ?_, ?_, ?_, ?_, ?_, ?_⟩ <;> go_simp
    have hB6 := Lib.hid (hB5.out.setCell (p := ⟨g, 4, none⟩) (by simp only; omega) (.int .i64 (wrap64 (256 * b))))
    have x1 : w.heap.size < (w5.setCell ⟨g, 4, none⟩ (.int .i64 (wrap64 (256 * b)))).heap.size := by simpa using y1
    have x2 : g < (w5.setCell ⟨g, 4, none⟩ (.int .i64 (wrap64 (256 * b)))).heap.size := by simpa using y2
    clear r0 r1 r2 r3 r4 r5 r6 r7 m0 m1 m2 m3 m4 m5 f0 f1 f2 f3 f4 f5 HR HS hB5 y1 y2
    generalize wrap64 (256 * b) = M at *
    generalize w5.setCell ⟨g, 4, none⟩ (.int .i64 M) = w6 at *
    have HR := Lib.hid R2
    have HS := Lib.hid S2
    clear R2
    obtain ⟨⟨m0, m1, m2, m3, m4, m5⟩, f0, f1, f2, f3, f4, f5⟩ := S2
    go_cut [11, 12] (Two w6 ⟨s, 0, 0, 0, M, wt⟩)
    case first =>
      go_region_with (go_simp)
      all_goals (go_wp2_with fail; go_meet)
      all_goals repeat (first | with_reducible exact two_a _ _ _ _ _ _ _ _ | with_reducible exact two_b _ _ _ _ _ _ _ _ | refine Two.drew ?_)
    case rest =>
      obtain ⟨p, q, rfl, rfl, hne, hp, hq, hp1, hq1, P, Q, hb7⟩ := hcut
      have R2 := HR.out.keep hb7 x1
      have hB7 := Lib.hid (hB6.out.trans (hb7.mono (by have := hB6.out.size; omega)))
      have e1 : w.heap.size ≠ p := by omega
      have e2 : w.heap.size ≠ q := by omega
      have l1 : w.heap.size ≤ p := by omega
      have l2 : w.heap.size ≤ q := by omega
      clear HR HS hB6 hb7 m0 m1 m2 m3 m4 m5 f0 f1 f2 f3 f4 f5 x1 x2 hp hq hz2 hw2
      have HR := Lib.hid R2
      have HP := Lib.hid P
      have HQ := Lib.hid Q
      obtain ⟨r0, r1, r2, r3, r4, r5, r6, r7⟩ := R2
      obtain ⟨⟨m0, m1, m2, m3, m4, m5⟩, f0, f1, f2, f3, f4, f5⟩ := P
      clear Q
      go_upto_region 13 with fail
      go_cut [] (fun wx => wx = ((wc.setCell ⟨p, 1, none⟩ (.int .i64 256)).setCell ⟨p, 3, none⟩ (.int .i64 (IntKind.i64.wrap (256 * x)))).drew)
      case first =>
        go_region_with (go_simp)
        all_goals (go_wp2_with fail; go_meet)
        all_goals exact rfl
      case rest =>
        subst hcut
        have hne' : q ≠ p := fun h => hne h.symm
        obtain ⟨⟨n0, n1, n2, n3, n4, n5⟩, k0, k1, k2, k3, k4, k5⟩ := HQ.out
        have R2 : RepIs (((wc.setCell ⟨p, 1, none⟩ (.int .i64 256)).setCell ⟨p, 3, none⟩ (.int .i64 (IntKind.i64.wrap (256 * x)))).drew) w.heap.size s 1 x y v b wt t := by
          unfold RepIs; refine ⟨?_, ?_, ?_, ?_, ?_, ?_, ?_, ?_⟩ <;> go_simp
        have P2 : Six (((wc.setCell ⟨p, 1, none⟩ (.int .i64 256)).setCell ⟨p, 3, none⟩ (.int .i64 (IntKind.i64.wrap (256 * x)))).drew) p ⟨s, 256, 0, IntKind.i64.wrap (256 * x), M, wt⟩ := by
          unfold Six; refine ⟨⟨?_, ?_, ?_, ?_, ?_, ?_⟩, ?_, ?_, ?_, ?_, ?_, ?_⟩ <;> go_simp
        have Q2 : Six (((wc.setCell ⟨p, 1, none⟩ (.int .i64 256)).setCell ⟨p, 3, none⟩ (.int .i64 (IntKind.i64.wrap (256 * x)))).drew) q ⟨s, 0, 0, 0, M, wt⟩ := by
          unfold Six; refine ⟨⟨?_, ?_, ?_, ?_, ?_, ?_⟩, ?_, ?_, ?_, ?_, ?_, ?_⟩ <;> go_simp
        have hB8 := Lib.hid (((hB7.out.setCell (p := ⟨p, 1, none⟩) l1 (.int .i64 256)).setCell (p := ⟨p, 3, none⟩) l1 (.int .i64 (IntKind.i64.wrap (256 * x)))).drew)
        have o1 : p < (((wc.setCell ⟨p, 1, none⟩ (.int .i64 256)).setCell ⟨p, 3, none⟩ (.int .i64 (IntKind.i64.wrap (256 * x)))).drew).heap.size := by simpa using hp1
        have o2 : q < (((wc.setCell ⟨p, 1, none⟩ (.int .i64 256)).setCell ⟨p, 3, none⟩ (.int .i64 (IntKind.i64.wrap (256 * x)))).drew).heap.size := by simpa using hq1
        clear r0 r1 r2 r3 r4 r5 r6 r7 m0 m1 m2 m3 m4 m5 f0 f1 f2 f3 f4 f5 n0 n1 n2 n3 n4 n5 k0 k1 k2 k3 k4 k5 HR HP HQ hB7 hp1 hq1
        generalize ((wc.setCell ⟨p, 1, none⟩ (.int .i64 256)).setCell ⟨p, 3, none⟩ (.int .i64 (IntKind.i64.wrap (256 * x)))).drew = w8 at *
        have HR := Lib.hid R2
        have HP := Lib.hid P2
        have HQ := Lib.hid Q2
        obtain ⟨r0, r1, r2, r3, r4, r5, r6, r7⟩ := R2
        obtain ⟨⟨m0, m1, m2, m3, m4, m5⟩, f0, f1, f2, f3, f4, f5⟩ := Q2
        clear P2
        go_upto_region 14 with fail
        go_cut [] (fun wx => wx = ((w8.setCell ⟨q, 2, none⟩ (.int .i64 256)).setCell ⟨q, 3, none⟩ (.int .i64 (IntKind.i64.wrap (256 * y)))).drew)
        case first =>
          go_region_with (go_simp)
          all_goals (go_wp2_with fail; go_meet)
          all_goals exact rfl
        case rest =>
          subst hcut
          obtain ⟨⟨n0, n1, n2, n3, n4, n5⟩, k0, k1, k2, k3, k4, k5⟩ := HP.out
          have P2 : Six (((w8.setCell ⟨q, 2, none⟩ (.int .i64 256)).setCell ⟨q, 3, none⟩ (.int .i64 (IntKind.i64.wrap (256 * y)))).drew) p ⟨s, 256, 0, IntKind.i64.wrap (256 * x), M, wt⟩ := by
            unfold Six; refine ⟨⟨?_, ?_, ?_, ?_, ?_, ?_⟩, ?_, ?_, ?_, ?_, ?_, ?_⟩ <;> go_simp
          have Q2 : Six (((w8.setCell ⟨q, 2, none⟩ (.int .i64 256)).setCell ⟨q, 3, none⟩ (.int .i64 (IntKind.i64.wrap (256 * y)))).drew) q ⟨s, 0, 256, IntKind.i64.wrap (256 * y), M, wt⟩ := by
            unfold Six; refine ⟨⟨?_, ?_, ?_, ?_, ?_, ?_⟩, ?_, ?_, ?_, ?_, ?_, ?_⟩ <;> go_simp
          have hB9 := Lib.hid (((hB8.out.setCell (p := ⟨q, 2, none⟩) l2 (.int .i64 256)).setCell (p := ⟨q, 3, none⟩) l2 (.int .i64 (IntKind.i64.wrap (256 * y)))).drew)
          clear r0 r1 r2 r3 r4 r5 r6 r7 m0 m1 m2 m3 m4 m5 f0 f1 f2 f3 f4 f5 n0 n1 n2 n3 n4 n5 k0 k1 k2 k3 k4 k5 HR HP HQ hB8 o1 o2
          generalize ((w8.setCell ⟨q, 2, none⟩ (.int .i64 256)).setCell ⟨q, 3, none⟩ (.int .i64 (IntKind.i64.wrap (256 * y)))).drew = w9 at *
          obtain ⟨⟨m0, m1, m2, m3, m4, m5⟩, -⟩ := P2
          obtain ⟨⟨n0, n1, n2, n3, n4, n5⟩, -⟩ := Q2
          go_wp2
          go_ret2
          refine ⟨_, rfl, .inr ⟨w9.heap.size, by simp, rfl, hB9.out.size, ?_⟩, hB9.out.alloc hB9.out.size _⟩
          rw [HX.out, HY.out, HB.out]
          show (w9.heap.push _)[w9.heap.size]? = _
          rw [Array.getElem?_push_size]
          rfl
end Go.Proofs.YtidelghgjibndaaGreat.S41
