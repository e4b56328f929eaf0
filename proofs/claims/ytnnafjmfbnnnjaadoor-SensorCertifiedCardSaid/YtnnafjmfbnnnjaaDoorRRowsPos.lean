/-
  The walk of the reference Rows at a position report.
-/
import Derived.Test.YtnnafjmfbnnnjaaDoorRowsBase
namespace Go.Proofs.YtnnafjmfbnnnjaaDoor
set_option linter.unusedVariables false
open Go.RowKit Tr Sq
set_option maxHeartbeats 4000000 in
set_option maxRecDepth 100000 in
theorem rows_pos_ref (s x y v b wt t cx cy bx b2 : Int) (w : World) (hk : checkI s 1 x y v b wt t = 0) (hx : wrap64 (256 * x) = 256 * x) (hy : wrap64 (256 * y) = 256 * y) (hb2 : wrap64 (256 * b) = 256 * b) (hv : boxV cx cy bx b2 = true) : Calls Tryd.prog 24 #[.agg #[.int .i64 s, .int .u8 1, .int .i64 x, .int .i64 y, .int .i64 v, .int .i64 b, .int .i64 wt, .int .i64 t], .agg #[.int .i64 cx, .int .i64 cy, .int .i64 bx, .int .i64 b2]] w fun e w' => ∃ u, e = .returned (.tuple #[u, .int .i64 0]) ∧ RowsIs w [⟨s, 256, 0, 256 * x, 256 * b, wt⟩, ⟨s, 0, 256, 256 * y, 256 * b, wt⟩] u w' ∧ Below w.heap.size w w' := by
  have HX := Lib.hid hx
  have HY := Lib.hid hy
  have HB := Lib.hid hb2
  clear hx hy hb2
  have C1 := Lib.hid (fun w => check_ref s 1 x y v b wt t w (by decide) (by decide))
  have V1 := Lib.hid (fun w => boxv_ref cx cy bx b2 w)
  rw [hk] at C1
  rw [hv] at V1
  clear hk hv
  go_enter Tryd.func24, Tryd.ntmps24
  go_wp2_with fail
  refine (C1.out _).mono ?_
  rintro e w1 ⟨rfl, hb⟩
  obtain ⟨hc, hf⟩ := bcell hb
  have hz0 : w.heap.size < w1.heap.size := by have := hb.size; simp at this; omega
  have hz1 : w.heap.size + 1 < w1.heap.size := by have := hb.size; simp at this; omega
  have hA : Below w.heap.size w w1 := (((Below.refl _ _).alloc (Nat.le_refl _) _).alloc (by simp) _).trans (hb.mono (by simp; omega))
  go_wp2_with fail
  refine (V1.out _).mono ?_
  rintro e w2 ⟨rfl, hb2⟩
  obtain ⟨hc2, hf2⟩ := bcell hb2
  have hz2 : w.heap.size < w2.heap.size := Nat.lt_of_lt_of_le hz0 hb2.size
  have hz3 : w.heap.size + 1 < w2.heap.size := Nat.lt_of_lt_of_le hz1 hb2.size
  have hB := Lib.hid (hA.trans (hb2.mono hA.size))
  go_upto_region 10 with fail
  generalize wrap64 (256 * b) = M at *
  have R0 : RepIs w2 w.heap.size s 1 x y v b wt t := by unfold RepIs; refine ⟨?_, ?_, ?_, ?_, ?_, ?_, ?_, ?_⟩ <;> go_simp
  have R2 := R0.keep (((Below.refl w2.heap.size w2).alloc (Nat.le_refl _) (.cells #[.int .i64 s, .int .i64 0, .int .i64 0, .int .i64 0, .int .i64 M, .int .i64 wt] 37)).alloc (by simp) (.cells #[.int .i64 s, .int .i64 0, .int .i64 0, .int .i64 0, .int .i64 M, .int .i64 wt] 37)) hz2
  obtain ⟨P, Q⟩ := two_six w2 ⟨s, 0, 0, 0, M, wt⟩ 37
  have hB7 := Lib.hid ((hB.out.alloc hB.out.size (.cells #[.int .i64 s, .int .i64 0, .int .i64 0, .int .i64 0, .int .i64 M, .int .i64 wt] 37)).alloc (by have := hB.out.size; simp; omega) (.cells #[.int .i64 s, .int .i64 0, .int .i64 0, .int .i64 0, .int .i64 M, .int .i64 wt] 37))
  have hp1 : w2.heap.size < ((w2.alloc (.cells #[.int .i64 s, .int .i64 0, .int .i64 0, .int .i64 0, .int .i64 M, .int .i64 wt] 37)).alloc (.cells #[.int .i64 s, .int .i64 0, .int .i64 0, .int .i64 0, .int .i64 M, .int .i64 wt] 37)).heap.size := by simp; omega
  have hq1 : w2.heap.size + 1 < ((w2.alloc (.cells #[.int .i64 s, .int .i64 0, .int .i64 0, .int .i64 0, .int .i64 M, .int .i64 wt] 37)).alloc (.cells #[.int .i64 s, .int .i64 0, .int .i64 0, .int .i64 0, .int .i64 M, .int .i64 wt] 37)).heap.size := by simp
  clear R0 hb hc hf hz0 hz1 hA hb2 hc2 hf2 hB hz3
  generalize hWc : (w2.alloc (.cells #[.int .i64 s, .int .i64 0, .int .i64 0, .int .i64 0, .int .i64 M, .int .i64 wt] 37)).alloc (.cells #[.int .i64 s, .int .i64 0, .int .i64 0, .int .i64 0, .int .i64 M, .int .i64 wt] 37) = wc at *
  clear hWc
  obtain ⟨q, hq⟩ : ∃ q, q = w2.heap.size + 1 := ⟨_, rfl⟩
  rw [← hq] at hq1 Q ⊢
  generalize hp : w2.heap.size = p at *
  have hne : p ≠ q := by omega
  have e1 : w.heap.size ≠ p := by omega
  have e2 : w.heap.size ≠ q := by omega
  have l1 : w.heap.size ≤ p := by omega
  have l2 : w.heap.size ≤ q := by omega
  clear hq hp hz2
  have HR := Lib.hid R2
  have HP := Lib.hid P
  have HQ := Lib.hid Q
  obtain ⟨r0, r1, r2, r3, r4, r5, r6, r7⟩ := R2
  obtain ⟨⟨m0, m1, m2, m3, m4, m5⟩, f0, f1, f2, f3, f4, f5⟩ := P
  clear Q
  go_upto_region 10 with fail
  go_cut [] (fun wx => wx = ((wc.setCell ⟨p, 1, none⟩ (.int .i64 256)).setCell ⟨p, 3, none⟩ (.int .i64 (IntKind.i64.wrap (256 * x)))).drew)
  case first =>
    go_region_with (go_simp)
    all_goals (go_wp2_with fail; go_meet)
    all_goals exact rfl
  case rest =>
    subst hcut
    have hne' : q ≠ p := fun h => hne h.symm
    obtain ⟨⟨n0, n1, n2, n3, n4, n5⟩, k0, k1, k2, k3, k4, k5⟩ := HQ.out
    have R2 : RepIs (((wc.setCell ⟨p, 1, none⟩ (.int .i64 256)).setCell ⟨p, 3, none⟩ (.int .i64 (IntKind.i64.wrap (256 * x)))).drew) w.heap.size s 1 x y v b wt t := by
      unfold RepIs; refine ⟨?_, ?_, ?_, ?_, ?_, ?_, ?_, ?_⟩ <;> go_simp
    have P2 : Six (((wc.setCell ⟨p, 1, none⟩ (.int .i64 256)).setCell ⟨p, 3, none⟩ (.int .i64 (IntKind.i64.wrap (256 * x)))).drew) p ⟨s, 256, 0, IntKind.i64.wrap (256 * x), M, wt⟩ := by
      unfold Six; refine ⟨⟨?_, ?_, ?_, ?_, ?_, ?_⟩, ?_, ?_, ?_, ?_, ?_, ?_⟩ <;> go_simp
    have Q2 : Six (((wc.setCell ⟨p, 1, none⟩ (.int .i64 256)).setCell ⟨p, 3, none⟩ (.int .i64 (IntKind.i64.wrap (256 * x)))).drew) q ⟨s, 0, 0, 0, M, wt⟩ := by
      unfold Six; refine ⟨⟨?_, ?_, ?_, ?_, ?_, ?_⟩, ?_, ?_, ?_, ?_, ?_, ?_⟩ <;> go_simp
    have hB8 := Lib.hid (((hB7.out.setCell (p := ⟨p, 1, none⟩) l1 (.int .i64 256)).setCell (p := ⟨p, 3, none⟩) l1 (.int .i64 (IntKind.i64.wrap (256 * x)))).drew)
    have o1 : p < (((wc.setCell ⟨p, 1, none⟩ (.int .i64 256)).setCell ⟨p, 3, none⟩ (.int .i64 (IntKind.i64.wrap (256 * x)))).drew).heap.size := by simpa using hp1
    have o2 : q < (((wc.setCell ⟨p, 1, none⟩ (.int .i64 256)).setCell ⟨p, 3, none⟩ (.int .i64 (IntKind.i64.wrap (256 * x)))).drew).heap.size := by simpa using hq1
    clear r0 r1 r2 r3 r4 r5 r6 r7 m0 m1 m2 m3 m4 m5 f0 f1 f2 f3 f4 f5 n0 n1 n2 n3 n4 n5 k0 k1 k2 k3 k4 k5 HR HP HQ hB7 hp1 hq1
    generalize ((wc.setCell ⟨p, 1, none⟩ (.int .i64 256)).setCell ⟨p, 3, none⟩ (.int .i64 (IntKind.i64.wrap (256 * x)))).drew = w8 at *
    have HR := Lib.hid R2
    have HP := Lib.hid P2
    have HQ := Lib.hid Q2
    obtain ⟨r0, r1, r2, r3, r4, r5, r6, r7⟩ := R2
    obtain ⟨⟨m0, m1, m2, m3, m4, m5⟩, f0, f1, f2, f3, f4, f5⟩ := Q2
    clear P2
    go_upto_region 11 with fail
    go_cut [] (fun wx => wx = ((w8.setCell ⟨q, 2, none⟩ (.int .i64 256)).setCell ⟨q, 3, none⟩ (.int .i64 (IntKind.i64.wrap (256 * y)))).drew)
    case first =>
      go_region_with (go_simp)
      all_goals (go_wp2_with fail; go_meet)
      all_goals exact rfl
    case rest =>
      subst hcut
      obtain ⟨⟨n0, n1, n2, n3, n4, n5⟩, k0, k1, k2, k3, k4, k5⟩ := HP.out
      have P2 : Six (((w8.setCell ⟨q, 2, none⟩ (.int .i64 256)).setCell ⟨q, 3, none⟩ (.int .i64 (IntKind.i64.wrap (256 * y)))).drew) p ⟨s, 256, 0, IntKind.i64.wrap (256 * x), M, wt⟩ := by
        unfold Six; refine ⟨⟨?_, ?_, ?_, ?_, ?_, ?_⟩, ?_, ?_, ?_, ?_, ?_, ?_⟩ <;> go_simp
      have Q2 : Six (((w8.setCell ⟨q, 2, none⟩ (.int .i64 256)).setCell ⟨q, 3, none⟩ (.int .i64 (IntKind.i64.wrap (256 * y)))).drew) q ⟨s, 0, 256, IntKind.i64.wrap (256 * y), M, wt⟩ := by
        unfold Six; refine ⟨⟨?_, ?_, ?_, ?_, ?_, ?_⟩, ?_, ?_, ?_, ?_, ?_, ?_⟩ <;> go_simp
      have hB9 := Lib.hid (((hB8.out.setCell (p := ⟨q, 2, none⟩) l2 (.int .i64 256)).setCell (p := ⟨q, 3, none⟩) l2 (.int .i64 (IntKind.i64.wrap (256 * y)))).drew)
      clear r0 r1 r2 r3 r4 r5 r6 r7 m0 m1 m2 m3 m4 m5 f0 f1 f2 f3 f4 f5 n0 n1 n2 n3 n4 n5 k0 k1 k2 k3 k4 k5 HR HP HQ hB8 o1 o2
      generalize ((w8.setCell ⟨q, 2, none⟩ (.int .i64 256)).setCell ⟨q, 3, none⟩ (.int .i64 (IntKind.i64.wrap (256 * y)))).drew = w9 at *
      obtain ⟨⟨m0, m1, m2, m3, m4, m5⟩, -⟩ := P2
      obtain ⟨⟨n0, n1, n2, n3, n4, n5⟩, -⟩ := Q2
      go_wp2
      go_ret2
      refine ⟨_, rfl, .inr ⟨w9.heap.size, by simp, rfl, hB9.out.size, ?_⟩, hB9.out.alloc hB9.out.size _⟩
      rw [HX.out, HY.out, HB.out]
      show (w9.heap.push _)[w9.heap.size]? = _
      rw [Array.getElem?_push_size]
      rfl

end Go.Proofs.YtnnafjmfbnnnjaaDoor
