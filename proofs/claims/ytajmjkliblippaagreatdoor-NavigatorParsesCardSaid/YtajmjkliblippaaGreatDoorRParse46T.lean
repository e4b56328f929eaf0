/-
  The walk of the reference's Parse.
-/
import Derived.Test.YtajmjkliblippaaGreatDoorM83
import Derived.Test.YtajmjkliblippaaGreatDoorM64
import Derived.Test.YtajmjkliblippaaGreatDoorParseP46T
import Derived.Test.YtajmjkliblippaaGreatDoorRef46AT
import Derived.Deep.RegionHeld3
namespace Go.Proofs.YtajmjkliblippaaGreatDoor
set_option linter.unusedVariables false
open Go.RowKit Tx Ty

def PrS (xs : List Int) (oks : List Bool) (W : World) (v u : Value) (wr : World) : Prop := ∃ j : Nat, u = .int .i64 (j : Int) ∧ j ≤ 6 ∧ (oks.take j).all id = true ∧ Ty.OI W.heap.size wr v (xs.take j) ∧ Below W.heap.size W wr
set_option maxHeartbeats 40000000 in
set_option maxRecDepth 100000 in
theorem rparse6_any (s : ByteArray) (f0 f1 f2 f3 f4 f5 : List UInt8) (w : World) (hs : s.size ≤ 1000) (hF : fieldsL s.data.toList = [f0, f1, f2, f3, f4, f5])
    (hz : f0.length ≤ 4294967280 ∧ f1.length ≤ 4294967280 ∧ f2.length ≤ 4294967280 ∧ f3.length ≤ 4294967280 ∧ f4.length ≤ 4294967280 ∧ f5.length ≤ 4294967280) :
    Calls Tryz.prog 28 #[.string s] w (RetS (parseS s.data.toList) w) := by
  have hP : parseS s.data.toList = pS [f0, f1, f2, f3, f4, f5] := by unfold parseS; rw [hF]
  obtain ⟨z0, z1, z2, z3, z4, z5⟩ := hz
  obtain ⟨g0, hg0⟩ : ∃ g : ByteArray, (⟨f0.toArray⟩ : ByteArray) = g := ⟨_, rfl⟩
  have hl0 : g0.data.toList = f0 := by rw [← hg0]
  have N0 := Lib.hid (fun w => number_ref g0 w (by rw [← len_data, hl0]; exact z0))
  rw [hl0] at N0
  obtain ⟨g1, hg1⟩ : ∃ g : ByteArray, (⟨f1.toArray⟩ : ByteArray) = g := ⟨_, rfl⟩
  have hl1 : g1.data.toList = f1 := by rw [← hg1]
  have N1 := Lib.hid (fun w => number_ref g1 w (by rw [← len_data, hl1]; exact z1))
  rw [hl1] at N1
  obtain ⟨g2, hg2⟩ : ∃ g : ByteArray, (⟨f2.toArray⟩ : ByteArray) = g := ⟨_, rfl⟩
  have hl2 : g2.data.toList = f2 := by rw [← hg2]
  have N2 := Lib.hid (fun w => number_ref g2 w (by rw [← len_data, hl2]; exact z2))
  rw [hl2] at N2
  obtain ⟨g3, hg3⟩ : ∃ g : ByteArray, (⟨f3.toArray⟩ : ByteArray) = g := ⟨_, rfl⟩
  have hl3 : g3.data.toList = f3 := by rw [← hg3]
  have N3 := Lib.hid (fun w => number_ref g3 w (by rw [← len_data, hl3]; exact z3))
  rw [hl3] at N3
  obtain ⟨g4, hg4⟩ : ∃ g : ByteArray, (⟨f4.toArray⟩ : ByteArray) = g := ⟨_, rfl⟩
  have hl4 : g4.data.toList = f4 := by rw [← hg4]
  have N4 := Lib.hid (fun w => number_ref g4 w (by rw [← len_data, hl4]; exact z4))
  rw [hl4] at N4
  obtain ⟨g5, hg5⟩ : ∃ g : ByteArray, (⟨f5.toArray⟩ : ByteArray) = g := ⟨_, rfl⟩
  have hl5 : g5.data.toList = f5 := by rw [← hg5]
  have N5 := Lib.hid (fun w => number_ref g5 w (by rw [← len_data, hl5]; exact z5))
  rw [hl5] at N5
  unfold pS at hP
  simp only at hP
  generalize hn0 : numF f0 = p0 at *
  obtain ⟨x0, o0⟩ := p0
  generalize hn1 : numF f1 = p1 at *
  obtain ⟨x1, o1⟩ := p1
  generalize hn2 : numF f2 = p2 at *
  obtain ⟨x2, o2⟩ := p2
  generalize hn3 : numF f3 = p3 at *
  obtain ⟨x3, o3⟩ := p3
  generalize hn4 : numF f4 = p4 at *
  obtain ⟨x4, o4⟩ := p4
  generalize hn5 : numF f5 = p5 at *
  obtain ⟨x5, o5⟩ := p5
  simp only at hP N0 N1 N2 N3 N4 N5
  have BAD := Lib.hid (fun h : (o0 && o1 && o2 && o3 && o4 && o5) = false => show parseS s.data.toList = (ns0, 4) by rw [hP, if_neg (by rw [h]; decide)])
  have GOOD := Lib.hid (fun h : (o0 && o1 && o2 && o3 && o4 && o5) = true => show parseS s.data.toList = chkd ⟨x0, x1, x2, x3⟩ x4 x5 by rw [hP, if_pos h])
  have CK := Lib.hid fun w => rcheck_any ⟨x0, x1, x2, x3⟩ x4 x5 w
  unfold RetS
  generalize parseS s.data.toList = r at *
  clear hP z0 hl0 hn0 z1 hl1 hn1 z2 hl2 hn2 z3 hl3 hn3 z4 hl4 hn4 z5 hl5 hn5
  obtain ⟨KZ, HB⟩ := ent1 w #[.int .i64 0, .int .i64 0, .int .i64 0, .int .i64 0, .int .i64 0, .int .i64 0] 27
  go_enter Tryz.func28, Tryz.ntmps28
  go_wp2_with fail
  generalize w.alloc (.cells #[.int .i64 0, .int .i64 0, .int .i64 0, .int .i64 0, .int .i64 0, .int .i64 0] 27) = w0 at *
  refine (fields_ref s _ hs).mono ?_
  rintro e1 w1 ⟨v1, rfl, hos, hb1⟩
  rw [hF] at hos
  obtain ⟨gb, cap, rfl, hcap, -, hgb, hcell⟩ := Ty.own_cells hos (by simp)
  have s0 : w1.cell? ⟨gb, 0, none⟩ = some (.string g0) := by rw [← hg0]; exact hcell 0 _ rfl
  have s1 : w1.cell? ⟨gb, 1, none⟩ = some (.string g1) := by rw [← hg1]; exact hcell 1 _ rfl
  have s2 : w1.cell? ⟨gb, 2, none⟩ = some (.string g2) := by rw [← hg2]; exact hcell 2 _ rfl
  have s3 : w1.cell? ⟨gb, 3, none⟩ = some (.string g3) := by rw [← hg3]; exact hcell 3 _ rfl
  have s4 : w1.cell? ⟨gb, 4, none⟩ = some (.string g4) := by rw [← hg4]; exact hcell 4 _ rfl
  have s5 : w1.cell? ⟨gb, 5, none⟩ = some (.string g5) := by rw [← hg5]; exact hcell 5 _ rfl
  replace HB := hT HB hb1
  replace KZ := hK KZ hb1
  clear hb1
  clear hos hcell hF hg0 hg1 hg2 hg3 hg4 hg5
  go_wp2
  have HB1 := HB
  have KZ1 := KZ
  have h11 := HB.out.size
  go_loopw [5, 21] (PrS [x0, x1, x2, x3, x4, x5] [o0, o1, o2, o3, o4, o5] w1) (fun _ i _ => 6 - (intOf i).toNat)
  case atStart => exact ⟨0, rfl, by omega, rfl, World.ownsRow_lit w1 #[] 0 (Nat.le_refl _) (by decide) rfl, (Below.refl _ _).alloc (Nat.le_refl _) _⟩
  case round =>
    clear HB KZ
    obtain ⟨j, hu, hj, hok, ho, hbw⟩ := hrel
    have HBW := Lib.hid hbw
    have HO := Lib.hid ho
    have HB := hT HB1 hbw
    have KZ := hK KZ1 hbw
    have hzr := hbw.size
    clear ho hbw
    rcases (show j = 0 ∨ j = 1 ∨ j = 2 ∨ j = 3 ∨ j = 4 ∨ j = 5 ∨ j = 6 by omega) with rfl | rfl | rfl | rfl | rfl | rfl | rfl
    · obtain rfl : u21 = .int .i64 0 := hu
      clear hj
      have HO := (show Hid (Ty.OI w1.heap.size wr u5 []) from HO)
      have HOK := Lib.hid hok
      clear hok
      have sj := (HBW.out.cell (p := ⟨gb, 0, none⟩) hgb).trans s0
      go_wp2_with fail
      refine (N0.out _).mono ?_
      rintro e101 w101 ⟨rfl, rfl⟩
      cases o0 with
      | false =>
        have EV := Lib.hid (BAD.out (by simp))
        obtain ⟨yZ_0, yZ_1, yZ_2, yZ_3, yZ_4, yZ_5, yZ_z, yZ_f0, yZ_f1, yZ_f2, yZ_f3, yZ_f4, yZ_f5⟩ := blf6 KZ
        go_wp2
        have hs := st6 wr w.heap.size 0 (.int .i64 0) 1 (.int .i64 0) 2 (.int .i64 0) 3 (.int .i64 0) 4 (.int .i64 0) 5 (.int .i64 0)
        replace KZ := Lib.hid (blk_set (blk_set (blk_set (blk_set (blk_set (blk_set KZ.out (j := 0) (by simp) (.int .i64 0)) (j := 1) (by simp) (.int .i64 0)) (j := 2) (by simp) (.int .i64 0)) (j := 3) (by simp) (.int .i64 0)) (j := 4) (by simp) (.int .i64 0)) (j := 5) (by simp) (.int .i64 0))
        replace HB := oH hs HB (by omega)
        clear hs
        clear yZ_0 yZ_1 yZ_2 yZ_3 yZ_4 yZ_5 yZ_z yZ_f0 yZ_f1 yZ_f2 yZ_f3 yZ_f4 yZ_f5
        generalize (((((wr.setCell ⟨w.heap.size, 0, none⟩ (.int .i64 0)).setCell ⟨w.heap.size, 1, none⟩ (.int .i64 0)).setCell ⟨w.heap.size, 2, none⟩ (.int .i64 0)).setCell ⟨w.heap.size, 3, none⟩ (.int .i64 0)).setCell ⟨w.heap.size, 4, none⟩ (.int .i64 0)).setCell ⟨w.heap.size, 5, none⟩ (.int .i64 0) = w101 at *
        simp only [List.set] at KZ
        obtain ⟨yZ_0, yZ_1, yZ_2, yZ_3, yZ_4, yZ_5, yZ_z⟩ := blk6 KZ
        refine bodyPost_ret (v := .tuple #[.agg #[.int .i64 0, .int .i64 0, .int .i64 0, .int .i64 0, .int .i64 0, .int .i64 0], .int .i64 4]) (by simp [results, Tryz.results28, go_sem, yZ_0, yZ_1, yZ_2, yZ_3, yZ_4, yZ_5]) rfl ⟨by rw [EV.out]; rfl, HB.out⟩
      | true =>
        go_wp2_with (at_builtin; refine Halt.mk ?_)
        unfold Halt
        refine Ty.wpList_oi rfl _ _ rfl w1.heap.size _ [] (by first | rfl | assumption) wr HO.out _ x0 _ rfl (by simp) hzr ?_
        intro v4 w4 ho4 hb4
        have HO4 := Lib.hid ho4
        have HB4 := Lib.hid (HBW.out.trans hb4)
        clear ho4 hb4
        go_wp2
        exact ⟨⟨1, rfl, by omega, rfl, HO4.out, HB4.out⟩, by simp [intOf]⟩
    · obtain rfl : u21 = .int .i64 1 := hu
      clear hj
      have HO := (show Hid (Ty.OI w1.heap.size wr u5 [x0]) from HO)
      have HOK := Lib.hid hok
      clear hok
      have sj := (HBW.out.cell (p := ⟨gb, 1, none⟩) hgb).trans s1
      go_wp2_with fail
      refine (N1.out _).mono ?_
      rintro e101 w101 ⟨rfl, rfl⟩
      cases o1 with
      | false =>
        have EV := Lib.hid (BAD.out (by simp))
        obtain ⟨yZ_0, yZ_1, yZ_2, yZ_3, yZ_4, yZ_5, yZ_z, yZ_f0, yZ_f1, yZ_f2, yZ_f3, yZ_f4, yZ_f5⟩ := blf6 KZ
        go_wp2
        have hs := st6 wr w.heap.size 0 (.int .i64 0) 1 (.int .i64 0) 2 (.int .i64 0) 3 (.int .i64 0) 4 (.int .i64 0) 5 (.int .i64 0)
        replace KZ := Lib.hid (blk_set (blk_set (blk_set (blk_set (blk_set (blk_set KZ.out (j := 0) (by simp) (.int .i64 0)) (j := 1) (by simp) (.int .i64 0)) (j := 2) (by simp) (.int .i64 0)) (j := 3) (by simp) (.int .i64 0)) (j := 4) (by simp) (.int .i64 0)) (j := 5) (by simp) (.int .i64 0))
        replace HB := oH hs HB (by omega)
        clear hs
        clear yZ_0 yZ_1 yZ_2 yZ_3 yZ_4 yZ_5 yZ_z yZ_f0 yZ_f1 yZ_f2 yZ_f3 yZ_f4 yZ_f5
        generalize (((((wr.setCell ⟨w.heap.size, 0, none⟩ (.int .i64 0)).setCell ⟨w.heap.size, 1, none⟩ (.int .i64 0)).setCell ⟨w.heap.size, 2, none⟩ (.int .i64 0)).setCell ⟨w.heap.size, 3, none⟩ (.int .i64 0)).setCell ⟨w.heap.size, 4, none⟩ (.int .i64 0)).setCell ⟨w.heap.size, 5, none⟩ (.int .i64 0) = w101 at *
        simp only [List.set] at KZ
        obtain ⟨yZ_0, yZ_1, yZ_2, yZ_3, yZ_4, yZ_5, yZ_z⟩ := blk6 KZ
        refine bodyPost_ret (v := .tuple #[.agg #[.int .i64 0, .int .i64 0, .int .i64 0, .int .i64 0, .int .i64 0, .int .i64 0], .int .i64 4]) (by simp [results, Tryz.results28, go_sem, yZ_0, yZ_1, yZ_2, yZ_3, yZ_4, yZ_5]) rfl ⟨by rw [EV.out]; rfl, HB.out⟩
      | true =>
        go_wp2_with (at_builtin; refine Halt.mk ?_)
        unfold Halt
        refine Ty.wpList_oi rfl _ _ rfl w1.heap.size _ [x0] (by first | rfl | assumption) wr HO.out _ x1 _ rfl (by simp) hzr ?_
        intro v4 w4 ho4 hb4
        have HO4 := Lib.hid ho4
        have HB4 := Lib.hid (HBW.out.trans hb4)
        clear ho4 hb4
        go_wp2
        exact ⟨⟨2, rfl, by omega, by have := HOK.out; simpa using this, HO4.out, HB4.out⟩, by simp [intOf]⟩
    · obtain rfl : u21 = .int .i64 2 := hu
      clear hj
      have HO := (show Hid (Ty.OI w1.heap.size wr u5 [x0, x1]) from HO)
      have HOK := Lib.hid hok
      clear hok
      have sj := (HBW.out.cell (p := ⟨gb, 2, none⟩) hgb).trans s2
      go_wp2_with fail
      refine (N2.out _).mono ?_
      rintro e101 w101 ⟨rfl, rfl⟩
      cases o2 with
      | false =>
        have EV := Lib.hid (BAD.out (by simp))
        obtain ⟨yZ_0, yZ_1, yZ_2, yZ_3, yZ_4, yZ_5, yZ_z, yZ_f0, yZ_f1, yZ_f2, yZ_f3, yZ_f4, yZ_f5⟩ := blf6 KZ
        go_wp2
        have hs := st6 wr w.heap.size 0 (.int .i64 0) 1 (.int .i64 0) 2 (.int .i64 0) 3 (.int .i64 0) 4 (.int .i64 0) 5 (.int .i64 0)
        replace KZ := Lib.hid (blk_set (blk_set (blk_set (blk_set (blk_set (blk_set KZ.out (j := 0) (by simp) (.int .i64 0)) (j := 1) (by simp) (.int .i64 0)) (j := 2) (by simp) (.int .i64 0)) (j := 3) (by simp) (.int .i64 0)) (j := 4) (by simp) (.int .i64 0)) (j := 5) (by simp) (.int .i64 0))
        replace HB := oH hs HB (by omega)
        clear hs
        clear yZ_0 yZ_1 yZ_2 yZ_3 yZ_4 yZ_5 yZ_z yZ_f0 yZ_f1 yZ_f2 yZ_f3 yZ_f4 yZ_f5
        generalize (((((wr.setCell ⟨w.heap.size, 0, none⟩ (.int .i64 0)).setCell ⟨w.heap.size, 1, none⟩ (.int .i64 0)).setCell ⟨w.heap.size, 2, none⟩ (.int .i64 0)).setCell ⟨w.heap.size, 3, none⟩ (.int .i64 0)).setCell ⟨w.heap.size, 4, none⟩ (.int .i64 0)).setCell ⟨w.heap.size, 5, none⟩ (.int .i64 0) = w101 at *
        simp only [List.set] at KZ
        obtain ⟨yZ_0, yZ_1, yZ_2, yZ_3, yZ_4, yZ_5, yZ_z⟩ := blk6 KZ
        refine bodyPost_ret (v := .tuple #[.agg #[.int .i64 0, .int .i64 0, .int .i64 0, .int .i64 0, .int .i64 0, .int .i64 0], .int .i64 4]) (by simp [results, Tryz.results28, go_sem, yZ_0, yZ_1, yZ_2, yZ_3, yZ_4, yZ_5]) rfl ⟨by rw [EV.out]; rfl, HB.out⟩
      | true =>
        go_wp2_with (at_builtin; refine Halt.mk ?_)
        unfold Halt
        refine Ty.wpList_oi rfl _ _ rfl w1.heap.size _ [x0, x1] (by first | rfl | assumption) wr HO.out _ x2 _ rfl (by simp) hzr ?_
        intro v4 w4 ho4 hb4
        have HO4 := Lib.hid ho4
        have HB4 := Lib.hid (HBW.out.trans hb4)
        clear ho4 hb4
        go_wp2
        exact ⟨⟨3, rfl, by omega, by have := HOK.out; simpa using this, HO4.out, HB4.out⟩, by simp [intOf]⟩
    · obtain rfl : u21 = .int .i64 3 := hu
      clear hj
      have HO := (show Hid (Ty.OI w1.heap.size wr u5 [x0, x1, x2]) from HO)
      have HOK := Lib.hid hok
      clear hok
      have sj := (HBW.out.cell (p := ⟨gb, 3, none⟩) hgb).trans s3
      go_wp2_with fail
      refine (N3.out _).mono ?_
      rintro e101 w101 ⟨rfl, rfl⟩
      cases o3 with
      | false =>
        have EV := Lib.hid (BAD.out (by simp))
        obtain ⟨yZ_0, yZ_1, yZ_2, yZ_3, yZ_4, yZ_5, yZ_z, yZ_f0, yZ_f1, yZ_f2, yZ_f3, yZ_f4, yZ_f5⟩ := blf6 KZ
        go_wp2
        have hs := st6 wr w.heap.size 0 (.int .i64 0) 1 (.int .i64 0) 2 (.int .i64 0) 3 (.int .i64 0) 4 (.int .i64 0) 5 (.int .i64 0)
        replace KZ := Lib.hid (blk_set (blk_set (blk_set (blk_set (blk_set (blk_set KZ.out (j := 0) (by simp) (.int .i64 0)) (j := 1) (by simp) (.int .i64 0)) (j := 2) (by simp) (.int .i64 0)) (j := 3) (by simp) (.int .i64 0)) (j := 4) (by simp) (.int .i64 0)) (j := 5) (by simp) (.int .i64 0))
        replace HB := oH hs HB (by omega)
        clear hs
        clear yZ_0 yZ_1 yZ_2 yZ_3 yZ_4 yZ_5 yZ_z yZ_f0 yZ_f1 yZ_f2 yZ_f3 yZ_f4 yZ_f5
        generalize (((((wr.setCell ⟨w.heap.size, 0, none⟩ (.int .i64 0)).setCell ⟨w.heap.size, 1, none⟩ (.int .i64 0)).setCell ⟨w.heap.size, 2, none⟩ (.int .i64 0)).setCell ⟨w.heap.size, 3, none⟩ (.int .i64 0)).setCell ⟨w.heap.size, 4, none⟩ (.int .i64 0)).setCell ⟨w.heap.size, 5, none⟩ (.int .i64 0) = w101 at *
        simp only [List.set] at KZ
        obtain ⟨yZ_0, yZ_1, yZ_2, yZ_3, yZ_4, yZ_5, yZ_z⟩ := blk6 KZ
        refine bodyPost_ret (v := .tuple #[.agg #[.int .i64 0, .int .i64 0, .int .i64 0, .int .i64 0, .int .i64 0, .int .i64 0], .int .i64 4]) (by simp [results, Tryz.results28, go_sem, yZ_0, yZ_1, yZ_2, yZ_3, yZ_4, yZ_5]) rfl ⟨by rw [EV.out]; rfl, HB.out⟩
      | true =>
        go_wp2_with (at_builtin; refine Halt.mk ?_)
        unfold Halt
        refine Ty.wpList_oi rfl _ _ rfl w1.heap.size _ [x0, x1, x2] (by first | rfl | assumption) wr HO.out _ x3 _ rfl (by simp) hzr ?_
        intro v4 w4 ho4 hb4
        have HO4 := Lib.hid ho4
        have HB4 := Lib.hid (HBW.out.trans hb4)
        clear ho4 hb4
        go_wp2
        exact ⟨⟨4, rfl, by omega, by have := HOK.out; simpa using this, HO4.out, HB4.out⟩, by simp [intOf]⟩
    · obtain rfl : u21 = .int .i64 4 := hu
      clear hj
      have HO := (show Hid (Ty.OI w1.heap.size wr u5 [x0, x1, x2, x3]) from HO)
      have HOK := Lib.hid hok
      clear hok
      have sj := (HBW.out.cell (p := ⟨gb, 4, none⟩) hgb).trans s4
      go_wp2_with fail
      refine (N4.out _).mono ?_
      rintro e101 w101 ⟨rfl, rfl⟩
      cases o4 with
      | false =>
        have EV := Lib.hid (BAD.out (by simp))
        obtain ⟨yZ_0, yZ_1, yZ_2, yZ_3, yZ_4, yZ_5, yZ_z, yZ_f0, yZ_f1, yZ_f2, yZ_f3, yZ_f4, yZ_f5⟩ := blf6 KZ
        go_wp2
        have hs := st6 wr w.heap.size 0 (.int .i64 0) 1 (.int .i64 0) 2 (.int .i64 0) 3 (.int .i64 0) 4 (.int .i64 0) 5 (.int .i64 0)
        replace KZ := Lib.hid (blk_set (blk_set (blk_set (blk_set (blk_set (blk_set KZ.out (j := 0) (by simp) (.int .i64 0)) (j := 1) (by simp) (.int .i64 0)) (j := 2) (by simp) (.int .i64 0)) (j := 3) (by simp) (.int .i64 0)) (j := 4) (by simp) (.int .i64 0)) (j := 5) (by simp) (.int .i64 0))
        replace HB := oH hs HB (by omega)
        clear hs
        clear yZ_0 yZ_1 yZ_2 yZ_3 yZ_4 yZ_5 yZ_z yZ_f0 yZ_f1 yZ_f2 yZ_f3 yZ_f4 yZ_f5
        generalize (((((wr.setCell ⟨w.heap.size, 0, none⟩ (.int .i64 0)).setCell ⟨w.heap.size, 1, none⟩ (.int .i64 0)).setCell ⟨w.heap.size, 2, none⟩ (.int .i64 0)).setCell ⟨w.heap.size, 3, none⟩ (.int .i64 0)).setCell ⟨w.heap.size, 4, none⟩ (.int .i64 0)).setCell ⟨w.heap.size, 5, none⟩ (.int .i64 0) = w101 at *
        simp only [List.set] at KZ
        obtain ⟨yZ_0, yZ_1, yZ_2, yZ_3, yZ_4, yZ_5, yZ_z⟩ := blk6 KZ
        refine bodyPost_ret (v := .tuple #[.agg #[.int .i64 0, .int .i64 0, .int .i64 0, .int .i64 0, .int .i64 0, .int .i64 0], .int .i64 4]) (by simp [results, Tryz.results28, go_sem, yZ_0, yZ_1, yZ_2, yZ_3, yZ_4, yZ_5]) rfl ⟨by rw [EV.out]; rfl, HB.out⟩
      | true =>
        go_wp2_with (at_builtin; refine Halt.mk ?_)
        unfold Halt
        refine Ty.wpList_oi rfl _ _ rfl w1.heap.size _ [x0, x1, x2, x3] (by first | rfl | assumption) wr HO.out _ x4 _ rfl (by simp) hzr ?_
        intro v4 w4 ho4 hb4
        have HO4 := Lib.hid ho4
        have HB4 := Lib.hid (HBW.out.trans hb4)
        clear ho4 hb4
        go_wp2
        exact ⟨⟨5, rfl, by omega, by have := HOK.out; simpa using this, HO4.out, HB4.out⟩, by simp [intOf]⟩
    · obtain rfl : u21 = .int .i64 5 := hu
      clear hj
      have HO := (show Hid (Ty.OI w1.heap.size wr u5 [x0, x1, x2, x3, x4]) from HO)
      have HOK := Lib.hid hok
      clear hok
      have sj := (HBW.out.cell (p := ⟨gb, 5, none⟩) hgb).trans s5
      go_wp2_with fail
      refine (N5.out _).mono ?_
      rintro e101 w101 ⟨rfl, rfl⟩
      cases o5 with
      | false =>
        have EV := Lib.hid (BAD.out (by simp))
        obtain ⟨yZ_0, yZ_1, yZ_2, yZ_3, yZ_4, yZ_5, yZ_z, yZ_f0, yZ_f1, yZ_f2, yZ_f3, yZ_f4, yZ_f5⟩ := blf6 KZ
        go_wp2
        have hs := st6 wr w.heap.size 0 (.int .i64 0) 1 (.int .i64 0) 2 (.int .i64 0) 3 (.int .i64 0) 4 (.int .i64 0) 5 (.int .i64 0)
        replace KZ := Lib.hid (blk_set (blk_set (blk_set (blk_set (blk_set (blk_set KZ.out (j := 0) (by simp) (.int .i64 0)) (j := 1) (by simp) (.int .i64 0)) (j := 2) (by simp) (.int .i64 0)) (j := 3) (by simp) (.int .i64 0)) (j := 4) (by simp) (.int .i64 0)) (j := 5) (by simp) (.int .i64 0))
        replace HB := oH hs HB (by omega)
        clear hs
        clear yZ_0 yZ_1 yZ_2 yZ_3 yZ_4 yZ_5 yZ_z yZ_f0 yZ_f1 yZ_f2 yZ_f3 yZ_f4 yZ_f5
        generalize (((((wr.setCell ⟨w.heap.size, 0, none⟩ (.int .i64 0)).setCell ⟨w.heap.size, 1, none⟩ (.int .i64 0)).setCell ⟨w.heap.size, 2, none⟩ (.int .i64 0)).setCell ⟨w.heap.size, 3, none⟩ (.int .i64 0)).setCell ⟨w.heap.size, 4, none⟩ (.int .i64 0)).setCell ⟨w.heap.size, 5, none⟩ (.int .i64 0) = w101 at *
        simp only [List.set] at KZ
        obtain ⟨yZ_0, yZ_1, yZ_2, yZ_3, yZ_4, yZ_5, yZ_z⟩ := blk6 KZ
        refine bodyPost_ret (v := .tuple #[.agg #[.int .i64 0, .int .i64 0, .int .i64 0, .int .i64 0, .int .i64 0, .int .i64 0], .int .i64 4]) (by simp [results, Tryz.results28, go_sem, yZ_0, yZ_1, yZ_2, yZ_3, yZ_4, yZ_5]) rfl ⟨by rw [EV.out]; rfl, HB.out⟩
      | true =>
        go_wp2_with (at_builtin; refine Halt.mk ?_)
        unfold Halt
        refine Ty.wpList_oi rfl _ _ rfl w1.heap.size _ [x0, x1, x2, x3, x4] (by first | rfl | assumption) wr HO.out _ x5 _ rfl (by simp) hzr ?_
        intro v4 w4 ho4 hb4
        have HO4 := Lib.hid ho4
        have HB4 := Lib.hid (HBW.out.trans hb4)
        clear ho4 hb4
        go_wp2
        exact ⟨⟨6, rfl, by omega, by have := HOK.out; simpa using this, HO4.out, HB4.out⟩, by simp [intOf]⟩
    · obtain rfl : u21 = .int .i64 6 := hu
      clear hj
      have HO := (show Hid (Ty.OI w1.heap.size wr u5 [x0, x1, x2, x3, x4, x5]) from HO)
      have EV0 := Lib.hid (GOOD.out (by simp at hok; obtain ⟨k0, k1, k2, k3, k4, k5⟩ := hok; rw [k0, k1, k2, k3, k4, k5]; rfl))
      clear hok
      obtain ⟨h6, c6, rfl, hcp, hB2, hhb, hcl⟩ := Ty.own_cells HO.out (by simp)
      have y0 : wr.cell? ⟨h6, 0, none⟩ = some (.int .i64 x0) := hcl 0 _ rfl
      have y1 : wr.cell? ⟨h6, 1, none⟩ = some (.int .i64 x1) := hcl 1 _ rfl
      have y2 : wr.cell? ⟨h6, 2, none⟩ = some (.int .i64 x2) := hcl 2 _ rfl
      have y3 : wr.cell? ⟨h6, 3, none⟩ = some (.int .i64 x3) := hcl 3 _ rfl
      have y4 : wr.cell? ⟨h6, 4, none⟩ = some (.int .i64 x4) := hcl 4 _ rfl
      have y5 : wr.cell? ⟨h6, 5, none⟩ = some (.int .i64 x5) := hcl 5 _ rfl
      have hl6 : 6 ≤ c6 := hcp
      clear hcl hcp HO
      go_wp2_with fail
      generalize hwr : wr = wq at *
      clear hwr
      go_region_held3 (fun w' => w'.cell? ⟨h6, 0, none⟩ = some (.int .i64 x0) ∧ w'.cell? ⟨h6, 1, none⟩ = some (.int .i64 x1) ∧ w'.cell? ⟨h6, 2, none⟩ = some (.int .i64 x2) ∧ w'.cell? ⟨h6, 3, none⟩ = some (.int .i64 x3) ∧ w'.cell? ⟨h6, 4, none⟩ = some (.int .i64 x4) ∧ w'.cell? ⟨h6, 5, none⟩ = some (.int .i64 x5)) (go_keep) (fail)
      clear y0 y1 y2 y3 y4 y5
      obtain ⟨KT, hb101⟩ := alB wq #[.int .i64 x0, .int .i64 x1, .int .i64 x2, .int .i64 x3, .int .i64 x4, .int .i64 x5] 27
      have hnT := HB.out.size
      have nzT_Z := KZ.out.lt
      replace HB := hT HB hb101
      replace KZ := hK KZ hb101
      clear hb101
      generalize wq.alloc (.cells #[.int .i64 x0, .int .i64 x1, .int .i64 x2, .int .i64 x3, .int .i64 x4, .int .i64 x5] 27) = w101 at *
      generalize wq.heap.size = bT at *
      have neT_Z : bT ≠ w.heap.size := by omega
      clear nzT_Z
      replace KZ := Lib.hid (blk_drew1 KZ.out)
      replace KT := Lib.hid (blk_drew1 KT.out)
      replace HB := Lib.hid (below_drew1 HB.out)
      generalize (w101).drew = w102 at *
      obtain ⟨yT_0, yT_1, yT_2, yT_3, yT_4, yT_5, yT_z⟩ := blk6 KT
      go_wp2_with fail
      refine (CK.out _).mono ?_
      rintro e103 w103 ⟨rfl, hb103⟩
      replace HB := hT HB hb103
      replace KZ := hK KZ hb103
      replace KT := hK KT hb103
      clear yT_0 yT_1 yT_2 yT_3 yT_4 yT_5 yT_z
      clear hb103
      by_cases hc : chkS ⟨x0, x1, x2, x3⟩ x4 x5 = 0
      · have EV := Lib.hid (EV0.out.trans (show chkd ⟨x0, x1, x2, x3⟩ x4 x5 = ((⟨x0, x1, x2, x3⟩, x4, x5), 0) by unfold chkd; rw [if_pos hc]))
        rw [hc]
        clear hc EV0
        obtain ⟨yZ_0, yZ_1, yZ_2, yZ_3, yZ_4, yZ_5, yZ_z, yZ_f0, yZ_f1, yZ_f2, yZ_f3, yZ_f4, yZ_f5⟩ := blf6 KZ
        obtain ⟨yT_0, yT_1, yT_2, yT_3, yT_4, yT_5, yT_z⟩ := blk6 KT
        go_wp2
        have hs := st6 w103 w.heap.size 0 (.int .i64 x0) 1 (.int .i64 x1) 2 (.int .i64 x2) 3 (.int .i64 x3) 4 (.int .i64 x4) 5 (.int .i64 x5)
        replace KZ := Lib.hid (blk_set (blk_set (blk_set (blk_set (blk_set (blk_set KZ.out (j := 0) (by simp) (.int .i64 x0)) (j := 1) (by simp) (.int .i64 x1)) (j := 2) (by simp) (.int .i64 x2)) (j := 3) (by simp) (.int .i64 x3)) (j := 4) (by simp) (.int .i64 x4)) (j := 5) (by simp) (.int .i64 x5))
        replace KT := oB hs KT (by omega)
        replace HB := oH hs HB (by omega)
        clear hs
        clear yZ_0 yZ_1 yZ_2 yZ_3 yZ_4 yZ_5 yZ_z yZ_f0 yZ_f1 yZ_f2 yZ_f3 yZ_f4 yZ_f5 yT_0 yT_1 yT_2 yT_3 yT_4 yT_5 yT_z
        generalize (((((w103.setCell ⟨w.heap.size, 0, none⟩ (.int .i64 x0)).setCell ⟨w.heap.size, 1, none⟩ (.int .i64 x1)).setCell ⟨w.heap.size, 2, none⟩ (.int .i64 x2)).setCell ⟨w.heap.size, 3, none⟩ (.int .i64 x3)).setCell ⟨w.heap.size, 4, none⟩ (.int .i64 x4)).setCell ⟨w.heap.size, 5, none⟩ (.int .i64 x5) = w104 at *
        simp only [List.set] at KZ
        obtain ⟨yZ_0, yZ_1, yZ_2, yZ_3, yZ_4, yZ_5, yZ_z⟩ := blk6 KZ
        refine bodyPost_ret (v := .tuple #[.agg #[.int .i64 x0, .int .i64 x1, .int .i64 x2, .int .i64 x3, .int .i64 x4, .int .i64 x5], .int .i64 0]) (by simp [results, Tryz.results28, go_sem, yZ_0, yZ_1, yZ_2, yZ_3, yZ_4, yZ_5]) rfl ⟨by rw [EV.out], HB.out⟩
      · have EV := Lib.hid (EV0.out.trans (show chkd ⟨x0, x1, x2, x3⟩ x4 x5 = (ns0, chkS ⟨x0, x1, x2, x3⟩ x4 x5) by unfold chkd; rw [if_neg hc]))
        have ge : (chkS ⟨x0, x1, x2, x3⟩ x4 x5 != 0) = true := by simpa using hc
        generalize chkS ⟨x0, x1, x2, x3⟩ x4 x5 = e at *
        clear hc EV0
        obtain ⟨yZ_0, yZ_1, yZ_2, yZ_3, yZ_4, yZ_5, yZ_z, yZ_f0, yZ_f1, yZ_f2, yZ_f3, yZ_f4, yZ_f5⟩ := blf6 KZ
        go_wp2
        have hs := st6 w103 w.heap.size 0 (.int .i64 0) 1 (.int .i64 0) 2 (.int .i64 0) 3 (.int .i64 0) 4 (.int .i64 0) 5 (.int .i64 0)
        replace KZ := Lib.hid (blk_set (blk_set (blk_set (blk_set (blk_set (blk_set KZ.out (j := 0) (by simp) (.int .i64 0)) (j := 1) (by simp) (.int .i64 0)) (j := 2) (by simp) (.int .i64 0)) (j := 3) (by simp) (.int .i64 0)) (j := 4) (by simp) (.int .i64 0)) (j := 5) (by simp) (.int .i64 0))
        replace KT := oB hs KT (by omega)
        replace HB := oH hs HB (by omega)
        clear hs
        clear yZ_0 yZ_1 yZ_2 yZ_3 yZ_4 yZ_5 yZ_z yZ_f0 yZ_f1 yZ_f2 yZ_f3 yZ_f4 yZ_f5
        generalize (((((w103.setCell ⟨w.heap.size, 0, none⟩ (.int .i64 0)).setCell ⟨w.heap.size, 1, none⟩ (.int .i64 0)).setCell ⟨w.heap.size, 2, none⟩ (.int .i64 0)).setCell ⟨w.heap.size, 3, none⟩ (.int .i64 0)).setCell ⟨w.heap.size, 4, none⟩ (.int .i64 0)).setCell ⟨w.heap.size, 5, none⟩ (.int .i64 0) = w104 at *
        simp only [List.set] at KZ
        obtain ⟨yZ_0, yZ_1, yZ_2, yZ_3, yZ_4, yZ_5, yZ_z⟩ := blk6 KZ
        refine bodyPost_ret (v := .tuple #[.agg #[.int .i64 0, .int .i64 0, .int .i64 0, .int .i64 0, .int .i64 0, .int .i64 0], .int .i64 e]) (by simp [results, Tryz.results28, go_sem, yZ_0, yZ_1, yZ_2, yZ_3, yZ_4, yZ_5]) rfl ⟨by rw [EV.out]; rfl, HB.out⟩
set_option maxHeartbeats 40000000 in
set_option maxRecDepth 100000 in
theorem rparse_lenS (s : ByteArray) (w : World) (hs : s.size ≤ 1000) (h : (fieldsL s.data.toList).length ≠ 6) :
    Calls Tryz.prog 28 #[.string s] w (RetS (parseS s.data.toList) w) := by
  have EV := Lib.hid (show parseS s.data.toList = (ns0, 4) from pS_len h)
  have hp : 0 < (fieldsL s.data.toList).length := by unfold fieldsL; simp
  unfold RetS
  generalize parseS s.data.toList = r at *
  obtain ⟨KZ, HB⟩ := ent1 w #[.int .i64 0, .int .i64 0, .int .i64 0, .int .i64 0, .int .i64 0, .int .i64 0] 27
  go_enter Tryz.func28, Tryz.ntmps28
  go_wp2_with fail
  generalize w.alloc (.cells #[.int .i64 0, .int .i64 0, .int .i64 0, .int .i64 0, .int .i64 0, .int .i64 0] 27) = w0 at *
  refine (fields_ref s _ hs).mono ?_
  rintro e1 w1 ⟨v1, rfl, hos, hb1⟩
  obtain ⟨g, cap, rfl, -, -, -, -⟩ := Ty.own_cells hos hp
  obtain ⟨n, hn⟩ : ∃ n, (fieldsL s.data.toList).length = n := ⟨_, rfl⟩
  rw [hn] at h ⊢
  have g1 : ((n : Int) == 6) = false := by simp; omega
  have g2 : ((n : Int) != 6) = true := by simp; omega
  clear hos h hn hp
  replace HB := hT HB hb1
  replace KZ := hK KZ hb1
  clear hb1
  obtain ⟨yZ_0, yZ_1, yZ_2, yZ_3, yZ_4, yZ_5, yZ_z, yZ_f0, yZ_f1, yZ_f2, yZ_f3, yZ_f4, yZ_f5⟩ := blf6 KZ
  go_wp2
  have hs := st6 w1 w.heap.size 0 (.int .i64 0) 1 (.int .i64 0) 2 (.int .i64 0) 3 (.int .i64 0) 4 (.int .i64 0) 5 (.int .i64 0)
  replace KZ := Lib.hid (blk_set (blk_set (blk_set (blk_set (blk_set (blk_set KZ.out (j := 0) (by simp) (.int .i64 0)) (j := 1) (by simp) (.int .i64 0)) (j := 2) (by simp) (.int .i64 0)) (j := 3) (by simp) (.int .i64 0)) (j := 4) (by simp) (.int .i64 0)) (j := 5) (by simp) (.int .i64 0))
  replace HB := oH hs HB (by omega)
  clear hs
  clear yZ_0 yZ_1 yZ_2 yZ_3 yZ_4 yZ_5 yZ_z yZ_f0 yZ_f1 yZ_f2 yZ_f3 yZ_f4 yZ_f5
  generalize (((((w1.setCell ⟨w.heap.size, 0, none⟩ (.int .i64 0)).setCell ⟨w.heap.size, 1, none⟩ (.int .i64 0)).setCell ⟨w.heap.size, 2, none⟩ (.int .i64 0)).setCell ⟨w.heap.size, 3, none⟩ (.int .i64 0)).setCell ⟨w.heap.size, 4, none⟩ (.int .i64 0)).setCell ⟨w.heap.size, 5, none⟩ (.int .i64 0) = w2 at *
  simp only [List.set] at KZ
  obtain ⟨yZ_0, yZ_1, yZ_2, yZ_3, yZ_4, yZ_5, yZ_z⟩ := blk6 KZ
  refine bodyPost_ret (v := .tuple #[.agg #[.int .i64 0, .int .i64 0, .int .i64 0, .int .i64 0, .int .i64 0, .int .i64 0], .int .i64 4]) (by simp [results, Tryz.results28, go_sem, yZ_0, yZ_1, yZ_2, yZ_3, yZ_4, yZ_5]) rfl ⟨by rw [EV.out]; rfl, HB.out⟩
theorem rparseS_any (s : ByteArray) (w : World) (hs : s.size ≤ 1000) : Calls Tryz.prog 28 #[.string s] w (RetS (parseS s.data.toList) w) := by
  by_cases h : (fieldsL s.data.toList).length = 6
  · obtain ⟨L, hL⟩ : ∃ L, fieldsL s.data.toList = L := ⟨_, rfl⟩
    have hsz : ∀ g ∈ L, g.length ≤ 4294967280 := by
      intro g hg
      have := fld_size s.data.toList g (by rw [hL]; exact hg)
      rw [len_data] at this
      omega
    rw [hL] at h
    match L, h with
    | [g0, g1, g2, g3, g4, g5], _ => exact rparse6_any s g0 g1 g2 g3 g4 g5 w hs hL ⟨hsz g0 (by simp), hsz g1 (by simp), hsz g2 (by simp), hsz g3 (by simp), hsz g4 (by simp), hsz g5 (by simp)⟩
  · exact rparse_lenS s w hs h
end Go.Proofs.YtajmjkliblippaaGreatDoor
