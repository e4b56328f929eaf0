/-
  The walk of navigator.Parse.
-/
import Derived.Test.YtajmjkliblippaaGreatDoorM83
import Derived.Test.YtajmjkliblippaaGreatDoorM64
import Derived.Test.YtajmjkliblippaaGreatDoorParseP46T
import Derived.Test.YtajmjkliblippaaGreatDoorStart46T
namespace Go.Proofs.YtajmjkliblippaaGreatDoor
set_option linter.unusedVariables false
open Go.RowKit Tx Ty

def PsR (xs : List Int) (oks : List Bool) (R : World → Prop) (bA : Nat) (u : Value) (wr : World) : Prop := ∃ j : Nat, u = .int .i64 (j : Int) ∧ j ≤ 6 ∧ (oks.take j).all id = true ∧ R wr ∧ Hid (Blk ((xs.take j ++ List.replicate (6 - j) 0).map (Value.int .i64)) bA wr)
set_option maxHeartbeats 40000000 in
set_option maxRecDepth 100000 in
theorem parse6_any (s g0 g1 g2 g3 g4 g5 : ByteArray) (w : World) (hE : Env w) (hs : s.size ≤ 1000) (hL : Lib.splitB ⟨#[32]⟩ 0 (Lib.countB s ⟨#[32]⟩) s = [g0, g1, g2, g3, g4, g5])
    (hz : g0.size ≤ 4294967280 ∧ g1.size ≤ 4294967280 ∧ g2.size ≤ 4294967280 ∧ g3.size ≤ 4294967280 ∧ g4.size ≤ 4294967280 ∧ g5.size ≤ 4294967280) :
    Calls Tryz.prog 26 #[.string s] w (RetS (parseS s.data.toList) w) := by
  have HE := Lib.hid hE
  have hF := (splitB_fields s).1
  rw [hL] at hF
  have hP : parseS s.data.toList = pS [g0.data.toList, g1.data.toList, g2.data.toList, g3.data.toList, g4.data.toList, g5.data.toList] := by unfold parseS; rw [← hF]; rfl
  have SP := Lib.hid (fun (w : World) (hE : Env w) => show Calls Tryz.prog 53 #[.string s, .string ⟨#[32]⟩] w fun e w' => e = .returned (.slice (some ⟨w.heap.size, 0, none⟩) 6 6) ∧ w' = w.alloc (.cells #[.string g0, .string g1, .string g2, .string g3, .string g4, .string g5] 9) from split_any s w hE hs [g0, g1, g2, g3, g4, g5] hL)
  obtain ⟨z0, z1, z2, z3, z4, z5⟩ := hz
  have N0 := Lib.hid fun w => number_any g0 w z0
  have N1 := Lib.hid fun w => number_any g1 w z1
  have N2 := Lib.hid fun w => number_any g2 w z2
  have N3 := Lib.hid fun w => number_any g3 w z3
  have N4 := Lib.hid fun w => number_any g4 w z4
  have N5 := Lib.hid fun w => number_any g5 w z5
  unfold pS at hP
  simp only at hP
  generalize numF g0.data.toList = p0 at *
  obtain ⟨x0, o0⟩ := p0
  generalize numF g1.data.toList = p1 at *
  obtain ⟨x1, o1⟩ := p1
  generalize numF g2.data.toList = p2 at *
  obtain ⟨x2, o2⟩ := p2
  generalize numF g3.data.toList = p3 at *
  obtain ⟨x3, o3⟩ := p3
  generalize numF g4.data.toList = p4 at *
  obtain ⟨x4, o4⟩ := p4
  generalize numF g5.data.toList = p5 at *
  obtain ⟨x5, o5⟩ := p5
  simp only at hP N0 N1 N2 N3 N4 N5
  have BAD := Lib.hid (fun h : (o0 && o1 && o2 && o3 && o4 && o5) = false => show parseS s.data.toList = (ns0, 4) by rw [hP, if_neg (by rw [h]; decide)])
  have GOOD := Lib.hid (fun h : (o0 && o1 && o2 && o3 && o4 && o5) = true => show parseS s.data.toList = chkd ⟨x0, x1, x2, x3⟩ x4 x5 by rw [hP, if_pos h])
  have CK := Lib.hid fun w => ncheck_any ⟨x0, x1, x2, x3⟩ x4 x5 w
  unfold RetS
  generalize parseS s.data.toList = r at *
  clear hP hF hL hE z0 z1 z2 z3 z4 z5
  obtain ⟨KZ, HB⟩ := ent1 w #[.int .i64 0, .int .i64 0, .int .i64 0, .int .i64 0, .int .i64 0, .int .i64 0] 27
  go_enter Tryz.func26, Tryz.ntmps26
  go_wp2_with fail
  generalize w.alloc (.cells #[.int .i64 0, .int .i64 0, .int .i64 0, .int .i64 0, .int .i64 0, .int .i64 0] 27) = w0 at *
  refine (SP.out _ (HE.out.below HB.out)).mono ?_
  rintro e1 w1 ⟨rfl, rfl⟩
  obtain ⟨KG, hb1⟩ := alB w0 #[.string g0, .string g1, .string g2, .string g3, .string g4, .string g5] 9
  have hnG := HB.out.size
  have nzG_Z := KZ.out.lt
  replace HB := hT HB hb1
  replace KZ := hK KZ hb1
  clear hb1
  generalize w0.alloc (.cells #[.string g0, .string g1, .string g2, .string g3, .string g4, .string g5] 9) = w1 at *
  generalize w0.heap.size = bG at *
  have neG_Z : bG ≠ w.heap.size := by omega
  clear nzG_Z
  go_upto_region 5 with (fail)
  obtain ⟨KA, hb2⟩ := alB w1 #[.int .i64 0, .int .i64 0, .int .i64 0, .int .i64 0, .int .i64 0, .int .i64 0] 81
  have hnA := HB.out.size
  have nzA_Z := KZ.out.lt
  have nzA_G := KG.out.lt
  replace HB := hT HB hb2
  replace KZ := hK KZ hb2
  replace KG := hK KG hb2
  clear hb2
  generalize w1.alloc (.cells #[.int .i64 0, .int .i64 0, .int .i64 0, .int .i64 0, .int .i64 0, .int .i64 0] 81) = w2 at *
  generalize w1.heap.size = bA at *
  have neA_Z : bA ≠ w.heap.size := by omega
  have neA_G : bA ≠ bG := by omega
  clear nzA_Z nzA_G
  go_wp2
  go_loopw [20] (PsR [x0, x1, x2, x3, x4, x5] [o0, o1, o2, o3, o4, o5] (fun wx => Hid (Below w.heap.size w wx) ∧ Hid (Blk [.int .i64 0, .int .i64 0, .int .i64 0, .int .i64 0, .int .i64 0, .int .i64 0] w.heap.size wx) ∧ Hid (Blk [.string g0, .string g1, .string g2, .string g3, .string g4, .string g5] bG wx)) bA) (fun i _ => 6 - (intOf i).toNat)
  case atStart => exact ⟨0, rfl, by omega, rfl, ⟨HB, KZ, KG⟩, KA⟩
  case round =>
    clear HB KZ KG KA
    obtain ⟨j, hu, hj, hok, ⟨HB, KZ, KG⟩, KA0⟩ := hrel
    rcases (show j = 0 ∨ j = 1 ∨ j = 2 ∨ j = 3 ∨ j = 4 ∨ j = 5 ∨ j = 6 by omega) with rfl | rfl | rfl | rfl | rfl | rfl | rfl
    · have KA := (show Hid (Blk [.int .i64 0, .int .i64 0, .int .i64 0, .int .i64 0, .int .i64 0, .int .i64 0] bA wr) from KA0)
      obtain rfl : u20 = .int .i64 0 := hu
      clear KA0 hj
      have HOK := Lib.hid hok
      clear hok
      obtain ⟨yG_0, yG_1, yG_2, yG_3, yG_4, yG_5, yG_z⟩ := blk6 KG
      obtain ⟨yA_0, yA_1, yA_2, yA_3, yA_4, yA_5, yA_z, yA_f0, yA_f1, yA_f2, yA_f3, yA_f4, yA_f5⟩ := blf6 KA
      go_wp2_with fail
      refine (N0.out _).mono ?_
      rintro e101 w101 ⟨rfl, rfl⟩
      cases o0 with
      | false =>
        have EV := Lib.hid (BAD.out (by simp))
        clear yG_0 yG_1 yG_2 yG_3 yG_4 yG_5 yG_z yA_0 yA_1 yA_2 yA_3 yA_4 yA_5 yA_z yA_f0 yA_f1 yA_f2 yA_f3 yA_f4 yA_f5
        obtain ⟨yZ_0, yZ_1, yZ_2, yZ_3, yZ_4, yZ_5, yZ_z, yZ_f0, yZ_f1, yZ_f2, yZ_f3, yZ_f4, yZ_f5⟩ := blf6 KZ
        go_wp2
        have hs := st6 wr w.heap.size 0 (.int .i64 0) 1 (.int .i64 0) 2 (.int .i64 0) 3 (.int .i64 0) 4 (.int .i64 0) 5 (.int .i64 0)
        replace KZ := Lib.hid (blk_set (blk_set (blk_set (blk_set (blk_set (blk_set KZ.out (j := 0) (by simp) (.int .i64 0)) (j := 1) (by simp) (.int .i64 0)) (j := 2) (by simp) (.int .i64 0)) (j := 3) (by simp) (.int .i64 0)) (j := 4) (by simp) (.int .i64 0)) (j := 5) (by simp) (.int .i64 0))
        replace KG := oB hs KG (by omega)
        replace KA := oB hs KA (by omega)
        replace HB := oH hs HB (by omega)
        clear hs
        clear yZ_0 yZ_1 yZ_2 yZ_3 yZ_4 yZ_5 yZ_z yZ_f0 yZ_f1 yZ_f2 yZ_f3 yZ_f4 yZ_f5
        generalize (((((wr.setCell ⟨w.heap.size, 0, none⟩ (.int .i64 0)).setCell ⟨w.heap.size, 1, none⟩ (.int .i64 0)).setCell ⟨w.heap.size, 2, none⟩ (.int .i64 0)).setCell ⟨w.heap.size, 3, none⟩ (.int .i64 0)).setCell ⟨w.heap.size, 4, none⟩ (.int .i64 0)).setCell ⟨w.heap.size, 5, none⟩ (.int .i64 0) = w101 at *
        simp only [List.set] at KZ
        obtain ⟨yZ_0, yZ_1, yZ_2, yZ_3, yZ_4, yZ_5, yZ_z⟩ := blk6 KZ
        refine bodyPost_ret (v := .tuple #[.agg #[.int .i64 0, .int .i64 0, .int .i64 0, .int .i64 0, .int .i64 0, .int .i64 0], .int .i64 4]) (by simp [results, Tryz.results26, go_sem, yZ_0, yZ_1, yZ_2, yZ_3, yZ_4, yZ_5]) rfl ⟨by rw [EV.out]; rfl, HB.out⟩
      | true =>
        go_wp2
        have hs := st1 wr bA 0 (.int .i64 x0)
        replace KZ := oB hs KZ (by omega)
        replace KG := oB hs KG (by omega)
        replace KA := Lib.hid (blk_set KA.out (j := 0) (by simp) (.int .i64 x0))
        replace HB := oH hs HB (by omega)
        clear hs
        clear yG_0 yG_1 yG_2 yG_3 yG_4 yG_5 yG_z yA_0 yA_1 yA_2 yA_3 yA_4 yA_5 yA_z yA_f0 yA_f1 yA_f2 yA_f3 yA_f4 yA_f5
        generalize wr.setCell ⟨bA, 0, none⟩ (.int .i64 x0) = w101 at *
        simp only [List.set] at KA
        exact ⟨⟨1, rfl, by omega, rfl, ⟨HB, KZ, KG⟩, KA⟩, by simp [intOf]⟩
    · have KA := (show Hid (Blk [.int .i64 x0, .int .i64 0, .int .i64 0, .int .i64 0, .int .i64 0, .int .i64 0] bA wr) from KA0)
      obtain rfl : u20 = .int .i64 1 := hu
      clear KA0 hj
      have HOK := Lib.hid hok
      clear hok
      obtain ⟨yG_0, yG_1, yG_2, yG_3, yG_4, yG_5, yG_z⟩ := blk6 KG
      obtain ⟨yA_0, yA_1, yA_2, yA_3, yA_4, yA_5, yA_z, yA_f0, yA_f1, yA_f2, yA_f3, yA_f4, yA_f5⟩ := blf6 KA
      go_wp2_with fail
      refine (N1.out _).mono ?_
      rintro e101 w101 ⟨rfl, rfl⟩
      cases o1 with
      | false =>
        have EV := Lib.hid (BAD.out (by simp))
        clear yG_0 yG_1 yG_2 yG_3 yG_4 yG_5 yG_z yA_0 yA_1 yA_2 yA_3 yA_4 yA_5 yA_z yA_f0 yA_f1 yA_f2 yA_f3 yA_f4 yA_f5
        obtain ⟨yZ_0, yZ_1, yZ_2, yZ_3, yZ_4, yZ_5, yZ_z, yZ_f0, yZ_f1, yZ_f2, yZ_f3, yZ_f4, yZ_f5⟩ := blf6 KZ
        go_wp2
        have hs := st6 wr w.heap.size 0 (.int .i64 0) 1 (.int .i64 0) 2 (.int .i64 0) 3 (.int .i64 0) 4 (.int .i64 0) 5 (.int .i64 0)
        replace KZ := Lib.hid (blk_set (blk_set (blk_set (blk_set (blk_set (blk_set KZ.out (j := 0) (by simp) (.int .i64 0)) (j := 1) (by simp) (.int .i64 0)) (j := 2) (by simp) (.int .i64 0)) (j := 3) (by simp) (.int .i64 0)) (j := 4) (by simp) (.int .i64 0)) (j := 5) (by simp) (.int .i64 0))
        replace KG := oB hs KG (by omega)
        replace KA := oB hs KA (by omega)
        replace HB := oH hs HB (by omega)
        clear hs
        clear yZ_0 yZ_1 yZ_2 yZ_3 yZ_4 yZ_5 yZ_z yZ_f0 yZ_f1 yZ_f2 yZ_f3 yZ_f4 yZ_f5
        generalize (((((wr.setCell ⟨w.heap.size, 0, none⟩ (.int .i64 0)).setCell ⟨w.heap.size, 1, none⟩ (.int .i64 0)).setCell ⟨w.heap.size, 2, none⟩ (.int .i64 0)).setCell ⟨w.heap.size, 3, none⟩ (.int .i64 0)).setCell ⟨w.heap.size, 4, none⟩ (.int .i64 0)).setCell ⟨w.heap.size, 5, none⟩ (.int .i64 0) = w101 at *
        simp only [List.set] at KZ
        obtain ⟨yZ_0, yZ_1, yZ_2, yZ_3, yZ_4, yZ_5, yZ_z⟩ := blk6 KZ
        refine bodyPost_ret (v := .tuple #[.agg #[.int .i64 0, .int .i64 0, .int .i64 0, .int .i64 0, .int .i64 0, .int .i64 0], .int .i64 4]) (by simp [results, Tryz.results26, go_sem, yZ_0, yZ_1, yZ_2, yZ_3, yZ_4, yZ_5]) rfl ⟨by rw [EV.out]; rfl, HB.out⟩
      | true =>
        go_wp2
        have hs := st1 wr bA 1 (.int .i64 x1)
        replace KZ := oB hs KZ (by omega)
        replace KG := oB hs KG (by omega)
        replace KA := Lib.hid (blk_set KA.out (j := 1) (by simp) (.int .i64 x1))
        replace HB := oH hs HB (by omega)
        clear hs
        clear yG_0 yG_1 yG_2 yG_3 yG_4 yG_5 yG_z yA_0 yA_1 yA_2 yA_3 yA_4 yA_5 yA_z yA_f0 yA_f1 yA_f2 yA_f3 yA_f4 yA_f5
        generalize wr.setCell ⟨bA, 1, none⟩ (.int .i64 x1) = w101 at *
        simp only [List.set] at KA
        exact ⟨⟨2, rfl, by omega, by have := HOK.out; simpa using this, ⟨HB, KZ, KG⟩, KA⟩, by simp [intOf]⟩
    · have KA := (show Hid (Blk [.int .i64 x0, .int .i64 x1, .int .i64 0, .int .i64 0, .int .i64 0, .int .i64 0] bA wr) from KA0)
      obtain rfl : u20 = .int .i64 2 := hu
      clear KA0 hj
      have HOK := Lib.hid hok
      clear hok
      obtain ⟨yG_0, yG_1, yG_2, yG_3, yG_4, yG_5, yG_z⟩ := blk6 KG
      obtain ⟨yA_0, yA_1, yA_2, yA_3, yA_4, yA_5, yA_z, yA_f0, yA_f1, yA_f2, yA_f3, yA_f4, yA_f5⟩ := blf6 KA
      go_wp2_with fail
      refine (N2.out _).mono ?_
      rintro e101 w101 ⟨rfl, rfl⟩
      cases o2 with
      | false =>
        have EV := Lib.hid (BAD.out (by simp))
        clear yG_0 yG_1 yG_2 yG_3 yG_4 yG_5 yG_z yA_0 yA_1 yA_2 yA_3 yA_4 yA_5 yA_z yA_f0 yA_f1 yA_f2 yA_f3 yA_f4 yA_f5
        obtain ⟨yZ_0, yZ_1, yZ_2, yZ_3, yZ_4, yZ_5, yZ_z, yZ_f0, yZ_f1, yZ_f2, yZ_f3, yZ_f4, yZ_f5⟩ := blf6 KZ
        go_wp2
        have hs := st6 wr w.heap.size 0 (.int .i64 0) 1 (.int .i64 0) 2 (.int .i64 0) 3 (.int .i64 0) 4 (.int .i64 0) 5 (.int .i64 0)
        replace KZ := Lib.hid (blk_set (blk_set (blk_set (blk_set (blk_set (blk_set KZ.out (j := 0) (by simp) (.int .i64 0)) (j := 1) (by simp) (.int .i64 0)) (j := 2) (by simp) (.int .i64 0)) (j := 3) (by simp) (.int .i64 0)) (j := 4) (by simp) (.int .i64 0)) (j := 5) (by simp) (.int .i64 0))
        replace KG := oB hs KG (by omega)
        replace KA := oB hs KA (by omega)
        replace HB := oH hs HB (by omega)
        clear hs
        clear yZ_0 yZ_1 yZ_2 yZ_3 yZ_4 yZ_5 yZ_z yZ_f0 yZ_f1 yZ_f2 yZ_f3 yZ_f4 yZ_f5
        generalize (((((wr.setCell ⟨w.heap.size, 0, none⟩ (.int .i64 0)).setCell ⟨w.heap.size, 1, none⟩ (.int .i64 0)).setCell ⟨w.heap.size, 2, none⟩ (.int .i64 0)).setCell ⟨w.heap.size, 3, none⟩ (.int .i64 0)).setCell ⟨w.heap.size, 4, none⟩ (.int .i64 0)).setCell ⟨w.heap.size, 5, none⟩ (.int .i64 0) = w101 at *
        simp only [List.set] at KZ
        obtain ⟨yZ_0, yZ_1, yZ_2, yZ_3, yZ_4, yZ_5, yZ_z⟩ := blk6 KZ
        refine bodyPost_ret (v := .tuple #[.agg #[.int .i64 0, .int .i64 0, .int .i64 0, .int .i64 0, .int .i64 0, .int .i64 0], .int .i64 4]) (by simp [results, Tryz.results26, go_sem, yZ_0, yZ_1, yZ_2, yZ_3, yZ_4, yZ_5]) rfl ⟨by rw [EV.out]; rfl, HB.out⟩
      | true =>
        go_wp2
        have hs := st1 wr bA 2 (.int .i64 x2)
        replace KZ := oB hs KZ (by omega)
        replace KG := oB hs KG (by omega)
        replace KA := Lib.hid (blk_set KA.out (j := 2) (by simp) (.int .i64 x2))
        replace HB := oH hs HB (by omega)
        clear hs
        clear yG_0 yG_1 yG_2 yG_3 yG_4 yG_5 yG_z yA_0 yA_1 yA_2 yA_3 yA_4 yA_5 yA_z yA_f0 yA_f1 yA_f2 yA_f3 yA_f4 yA_f5
        generalize wr.setCell ⟨bA, 2, none⟩ (.int .i64 x2) = w101 at *
        simp only [List.set] at KA
        exact ⟨⟨3, rfl, by omega, by have := HOK.out; simpa using this, ⟨HB, KZ, KG⟩, KA⟩, by simp [intOf]⟩
    · have KA := (show Hid (Blk [.int .i64 x0, .int .i64 x1, .int .i64 x2, .int .i64 0, .int .i64 0, .int .i64 0] bA wr) from KA0)
      obtain rfl : u20 = .int .i64 3 := hu
      clear KA0 hj
      have HOK := Lib.hid hok
      clear hok
      obtain ⟨yG_0, yG_1, yG_2, yG_3, yG_4, yG_5, yG_z⟩ := blk6 KG
      obtain ⟨yA_0, yA_1, yA_2, yA_3, yA_4, yA_5, yA_z, yA_f0, yA_f1, yA_f2, yA_f3, yA_f4, yA_f5⟩ := blf6 KA
      go_wp2_with fail
      refine (N3.out _).mono ?_
      rintro e101 w101 ⟨rfl, rfl⟩
      cases o3 with
      | false =>
        have EV := Lib.hid (BAD.out (by simp))
        clear yG_0 yG_1 yG_2 yG_3 yG_4 yG_5 yG_z yA_0 yA_1 yA_2 yA_3 yA_4 yA_5 yA_z yA_f0 yA_f1 yA_f2 yA_f3 yA_f4 yA_f5
        obtain ⟨yZ_0, yZ_1, yZ_2, yZ_3, yZ_4, yZ_5, yZ_z, yZ_f0, yZ_f1, yZ_f2, yZ_f3, yZ_f4, yZ_f5⟩ := blf6 KZ
        go_wp2
        have hs := st6 wr w.heap.size 0 (.int .i64 0) 1 (.int .i64 0) 2 (.int .i64 0) 3 (.int .i64 0) 4 (.int .i64 0) 5 (.int .i64 0)
        replace KZ := Lib.hid (blk_set (blk_set (blk_set (blk_set (blk_set (blk_set KZ.out (j := 0) (by simp) (.int .i64 0)) (j := 1) (by simp) (.int .i64 0)) (j := 2) (by simp) (.int .i64 0)) (j := 3) (by simp) (.int .i64 0)) (j := 4) (by simp) (.int .i64 0)) (j := 5) (by simp) (.int .i64 0))
        replace KG := oB hs KG (by omega)
        replace KA := oB hs KA (by omega)
        replace HB := oH hs HB (by omega)
        clear hs
        clear yZ_0 yZ_1 yZ_2 yZ_3 yZ_4 yZ_5 yZ_z yZ_f0 yZ_f1 yZ_f2 yZ_f3 yZ_f4 yZ_f5
        generalize (((((wr.setCell ⟨w.heap.size, 0, none⟩ (.int .i64 0)).setCell ⟨w.heap.size, 1, none⟩ (.int .i64 0)).setCell ⟨w.heap.size, 2, none⟩ (.int .i64 0)).setCell ⟨w.heap.size, 3, none⟩ (.int .i64 0)).setCell ⟨w.heap.size, 4, none⟩ (.int .i64 0)).setCell ⟨w.heap.size, 5, none⟩ (.int .i64 0) = w101 at *
        simp only [List.set] at KZ
        obtain ⟨yZ_0, yZ_1, yZ_2, yZ_3, yZ_4, yZ_5, yZ_z⟩ := blk6 KZ
        refine bodyPost_ret (v := .tuple #[.agg #[.int .i64 0, .int .i64 0, .int .i64 0, .int .i64 0, .int .i64 0, .int .i64 0], .int .i64 4]) (by simp [results, Tryz.results26, go_sem, yZ_0, yZ_1, yZ_2, yZ_3, yZ_4, yZ_5]) rfl ⟨by rw [EV.out]; rfl, HB.out⟩
      | true =>
        go_wp2
        have hs := st1 wr bA 3 (.int .i64 x3)
        replace KZ := oB hs KZ (by omega)
        replace KG := oB hs KG (by omega)
        replace KA := Lib.hid (blk_set KA.out (j := 3) (by simp) (.int .i64 x3))
        replace HB := oH hs HB (by omega)
        clear hs
        clear yG_0 yG_1 yG_2 yG_3 yG_4 yG_5 yG_z yA_0 yA_1 yA_2 yA_3 yA_4 yA_5 yA_z yA_f0 yA_f1 yA_f2 yA_f3 yA_f4 yA_f5
        generalize wr.setCell ⟨bA, 3, none⟩ (.int .i64 x3) = w101 at *
        simp only [List.set] at KA
        exact ⟨⟨4, rfl, by omega, by have := HOK.out; simpa using this, ⟨HB, KZ, KG⟩, KA⟩, by simp [intOf]⟩
    · have KA := (show Hid (Blk [.int .i64 x0, .int .i64 x1, .int .i64 x2, .int .i64 x3, .int .i64 0, .int .i64 0] bA wr) from KA0)
      obtain rfl : u20 = .int .i64 4 := hu
      clear KA0 hj
      have HOK := Lib.hid hok
      clear hok
      obtain ⟨yG_0, yG_1, yG_2, yG_3, yG_4, yG_5, yG_z⟩ := blk6 KG
      obtain ⟨yA_0, yA_1, yA_2, yA_3, yA_4, yA_5, yA_z, yA_f0, yA_f1, yA_f2, yA_f3, yA_f4, yA_f5⟩ := blf6 KA
      go_wp2_with fail
      refine (N4.out _).mono ?_
      rintro e101 w101 ⟨rfl, rfl⟩
      cases o4 with
      | false =>
        have EV := Lib.hid (BAD.out (by simp))
        clear yG_0 yG_1 yG_2 yG_3 yG_4 yG_5 yG_z yA_0 yA_1 yA_2 yA_3 yA_4 yA_5 yA_z yA_f0 yA_f1 yA_f2 yA_f3 yA_f4 yA_f5
        obtain ⟨yZ_0, yZ_1, yZ_2, yZ_3, yZ_4, yZ_5, yZ_z, yZ_f0, yZ_f1, yZ_f2, yZ_f3, yZ_f4, yZ_f5⟩ := blf6 KZ
        go_wp2
        have hs := st6 wr w.heap.size 0 (.int .i64 0) 1 (.int .i64 0) 2 (.int .i64 0) 3 (.int .i64 0) 4 (.int .i64 0) 5 (.int .i64 0)
        replace KZ := Lib.hid (blk_set (blk_set (blk_set (blk_set (blk_set (blk_set KZ.out (j := 0) (by simp) (.int .i64 0)) (j := 1) (by simp) (.int .i64 0)) (j := 2) (by simp) (.int .i64 0)) (j := 3) (by simp) (.int .i64 0)) (j := 4) (by simp) (.int .i64 0)) (j := 5) (by simp) (.int .i64 0))
        replace KG := oB hs KG (by omega)
        replace KA := oB hs KA (by omega)
        replace HB := oH hs HB (by omega)
        clear hs
        clear yZ_0 yZ_1 yZ_2 yZ_3 yZ_4 yZ_5 yZ_z yZ_f0 yZ_f1 yZ_f2 yZ_f3 yZ_f4 yZ_f5
        generalize (((((wr.setCell ⟨w.heap.size, 0, none⟩ (.int .i64 0)).setCell ⟨w.heap.size, 1, none⟩ (.int .i64 0)).setCell ⟨w.heap.size, 2, none⟩ (.int .i64 0)).setCell ⟨w.heap.size, 3, none⟩ (.int .i64 0)).setCell ⟨w.heap.size, 4, none⟩ (.int .i64 0)).setCell ⟨w.heap.size, 5, none⟩ (.int .i64 0) = w101 at *
        simp only [List.set] at KZ
        obtain ⟨yZ_0, yZ_1, yZ_2, yZ_3, yZ_4, yZ_5, yZ_z⟩ := blk6 KZ
        refine bodyPost_ret (v := .tuple #[.agg #[.int .i64 0, .int .i64 0, .int .i64 0, .int .i64 0, .int .i64 0, .int .i64 0], .int .i64 4]) (by simp [results, Tryz.results26, go_sem, yZ_0, yZ_1, yZ_2, yZ_3, yZ_4, yZ_5]) rfl ⟨by rw [EV.out]; rfl, HB.out⟩
      | true =>
        go_wp2
        have hs := st1 wr bA 4 (.int .i64 x4)
        replace KZ := oB hs KZ (by omega)
        replace KG := oB hs KG (by omega)
        replace KA := Lib.hid (blk_set KA.out (j := 4) (by simp) (.int .i64 x4))
        replace HB := oH hs HB (by omega)
        clear hs
        clear yG_0 yG_1 yG_2 yG_3 yG_4 yG_5 yG_z yA_0 yA_1 yA_2 yA_3 yA_4 yA_5 yA_z yA_f0 yA_f1 yA_f2 yA_f3 yA_f4 yA_f5
        generalize wr.setCell ⟨bA, 4, none⟩ (.int .i64 x4) = w101 at *
        simp only [List.set] at KA
        exact ⟨⟨5, rfl, by omega, by have := HOK.out; simpa using this, ⟨HB, KZ, KG⟩, KA⟩, by simp [intOf]⟩
    · have KA := (show Hid (Blk [.int .i64 x0, .int .i64 x1, .int .i64 x2, .int .i64 x3, .int .i64 x4, .int .i64 0] bA wr) from KA0)
      obtain rfl : u20 = .int .i64 5 := hu
      clear KA0 hj
      have HOK := Lib.hid hok
      clear hok
      obtain ⟨yG_0, yG_1, yG_2, yG_3, yG_4, yG_5, yG_z⟩ := blk6 KG
      obtain ⟨yA_0, yA_1, yA_2, yA_3, yA_4, yA_5, yA_z, yA_f0, yA_f1, yA_f2, yA_f3, yA_f4, yA_f5⟩ := blf6 KA
      go_wp2_with fail
      refine (N5.out _).mono ?_
      rintro e101 w101 ⟨rfl, rfl⟩
      cases o5 with
      | false =>
        have EV := Lib.hid (BAD.out (by simp))
        clear yG_0 yG_1 yG_2 yG_3 yG_4 yG_5 yG_z yA_0 yA_1 yA_2 yA_3 yA_4 yA_5 yA_z yA_f0 yA_f1 yA_f2 yA_f3 yA_f4 yA_f5
        obtain ⟨yZ_0, yZ_1, yZ_2, yZ_3, yZ_4, yZ_5, yZ_z, yZ_f0, yZ_f1, yZ_f2, yZ_f3, yZ_f4, yZ_f5⟩ := blf6 KZ
        go_wp2
        have hs := st6 wr w.heap.size 0 (.int .i64 0) 1 (.int .i64 0) 2 (.int .i64 0) 3 (.int .i64 0) 4 (.int .i64 0) 5 (.int .i64 0)
        replace KZ := Lib.hid (blk_set (blk_set (blk_set (blk_set (blk_set (blk_set KZ.out (j := 0) (by simp) (.int .i64 0)) (j := 1) (by simp) (.int .i64 0)) (j := 2) (by simp) (.int .i64 0)) (j := 3) (by simp) (.int .i64 0)) (j := 4) (by simp) (.int .i64 0)) (j := 5) (by simp) (.int .i64 0))
        replace KG := oB hs KG (by omega)
        replace KA := oB hs KA (by omega)
        replace HB := oH hs HB (by omega)
        clear hs
        clear yZ_0 yZ_1 yZ_2 yZ_3 yZ_4 yZ_5 yZ_z yZ_f0 yZ_f1 yZ_f2 yZ_f3 yZ_f4 yZ_f5
        generalize (((((wr.setCell ⟨w.heap.size, 0, none⟩ (.int .i64 0)).setCell ⟨w.heap.size, 1, none⟩ (.int .i64 0)).setCell ⟨w.heap.size, 2, none⟩ (.int .i64 0)).setCell ⟨w.heap.size, 3, none⟩ (.int .i64 0)).setCell ⟨w.heap.size, 4, none⟩ (.int .i64 0)).setCell ⟨w.heap.size, 5, none⟩ (.int .i64 0) = w101 at *
        simp only [List.set] at KZ
        obtain ⟨yZ_0, yZ_1, yZ_2, yZ_3, yZ_4, yZ_5, yZ_z⟩ := blk6 KZ
        refine bodyPost_ret (v := .tuple #[.agg #[.int .i64 0, .int .i64 0, .int .i64 0, .int .i64 0, .int .i64 0, .int .i64 0], .int .i64 4]) (by simp [results, Tryz.results26, go_sem, yZ_0, yZ_1, yZ_2, yZ_3, yZ_4, yZ_5]) rfl ⟨by rw [EV.out]; rfl, HB.out⟩
      | true =>
        go_wp2
        have hs := st1 wr bA 5 (.int .i64 x5)
        replace KZ := oB hs KZ (by omega)
        replace KG := oB hs KG (by omega)
        replace KA := Lib.hid (blk_set KA.out (j := 5) (by simp) (.int .i64 x5))
        replace HB := oH hs HB (by omega)
        clear hs
        clear yG_0 yG_1 yG_2 yG_3 yG_4 yG_5 yG_z yA_0 yA_1 yA_2 yA_3 yA_4 yA_5 yA_z yA_f0 yA_f1 yA_f2 yA_f3 yA_f4 yA_f5
        generalize wr.setCell ⟨bA, 5, none⟩ (.int .i64 x5) = w101 at *
        simp only [List.set] at KA
        exact ⟨⟨6, rfl, by omega, by have := HOK.out; simpa using this, ⟨HB, KZ, KG⟩, KA⟩, by simp [intOf]⟩
    · have KA := (show Hid (Blk [.int .i64 x0, .int .i64 x1, .int .i64 x2, .int .i64 x3, .int .i64 x4, .int .i64 x5] bA wr) from KA0)
      obtain rfl : u20 = .int .i64 6 := hu
      clear KA0 hj
      have EV0 := Lib.hid (GOOD.out (by simp at hok; obtain ⟨k0, k1, k2, k3, k4, k5⟩ := hok; rw [k0, k1, k2, k3, k4, k5]; rfl))
      clear hok
      obtain ⟨yA_0, yA_1, yA_2, yA_3, yA_4, yA_5, yA_z⟩ := blk6 KA
      go_upto_region 14 with (fail)
      clear yA_0 yA_1 yA_2 yA_3 yA_4 yA_5 yA_z
      obtain ⟨KT, hb101⟩ := alB wr #[.int .i64 x0, .int .i64 x1, .int .i64 x2, .int .i64 x3, .int .i64 x4, .int .i64 x5] 27
      have hnT := HB.out.size
      have nzT_Z := KZ.out.lt
      have nzT_G := KG.out.lt
      have nzT_A := KA.out.lt
      replace HB := hT HB hb101
      replace KZ := hK KZ hb101
      replace KG := hK KG hb101
      replace KA := hK KA hb101
      clear hb101
      generalize wr.alloc (.cells #[.int .i64 x0, .int .i64 x1, .int .i64 x2, .int .i64 x3, .int .i64 x4, .int .i64 x5] 27) = w101 at *
      generalize wr.heap.size = bT at *
      have neT_Z : bT ≠ w.heap.size := by omega
      have neT_G : bT ≠ bG := by omega
      have neT_A : bT ≠ bA := by omega
      clear nzT_Z nzT_G nzT_A
      obtain ⟨yT_0, yT_1, yT_2, yT_3, yT_4, yT_5, yT_z⟩ := blk6 KT
      go_wp2_with fail
      refine (CK.out _).mono ?_
      rintro e102 w102 ⟨rfl, hb102⟩
      replace HB := hT HB hb102
      replace KZ := hK KZ hb102
      replace KG := hK KG hb102
      replace KA := hK KA hb102
      replace KT := hK KT hb102
      clear yT_0 yT_1 yT_2 yT_3 yT_4 yT_5 yT_z
      clear hb102
      by_cases hc : chkS ⟨x0, x1, x2, x3⟩ x4 x5 = 0
      · have EV := Lib.hid (EV0.out.trans (show chkd ⟨x0, x1, x2, x3⟩ x4 x5 = ((⟨x0, x1, x2, x3⟩, x4, x5), 0) by unfold chkd; rw [if_pos hc]))
        rw [hc]
        clear hc EV0
        obtain ⟨yZ_0, yZ_1, yZ_2, yZ_3, yZ_4, yZ_5, yZ_z, yZ_f0, yZ_f1, yZ_f2, yZ_f3, yZ_f4, yZ_f5⟩ := blf6 KZ
        obtain ⟨yT_0, yT_1, yT_2, yT_3, yT_4, yT_5, yT_z⟩ := blk6 KT
        go_wp2
        have hs := st6 w102 w.heap.size 0 (.int .i64 x0) 1 (.int .i64 x1) 2 (.int .i64 x2) 3 (.int .i64 x3) 4 (.int .i64 x4) 5 (.int .i64 x5)
        replace KZ := Lib.hid (blk_set (blk_set (blk_set (blk_set (blk_set (blk_set KZ.out (j := 0) (by simp) (.int .i64 x0)) (j := 1) (by simp) (.int .i64 x1)) (j := 2) (by simp) (.int .i64 x2)) (j := 3) (by simp) (.int .i64 x3)) (j := 4) (by simp) (.int .i64 x4)) (j := 5) (by simp) (.int .i64 x5))
        replace KG := oB hs KG (by omega)
        replace KA := oB hs KA (by omega)
        replace KT := oB hs KT (by omega)
        replace HB := oH hs HB (by omega)
        clear hs
        clear yZ_0 yZ_1 yZ_2 yZ_3 yZ_4 yZ_5 yZ_z yZ_f0 yZ_f1 yZ_f2 yZ_f3 yZ_f4 yZ_f5 yT_0 yT_1 yT_2 yT_3 yT_4 yT_5 yT_z
        generalize (((((w102.setCell ⟨w.heap.size, 0, none⟩ (.int .i64 x0)).setCell ⟨w.heap.size, 1, none⟩ (.int .i64 x1)).setCell ⟨w.heap.size, 2, none⟩ (.int .i64 x2)).setCell ⟨w.heap.size, 3, none⟩ (.int .i64 x3)).setCell ⟨w.heap.size, 4, none⟩ (.int .i64 x4)).setCell ⟨w.heap.size, 5, none⟩ (.int .i64 x5) = w103 at *
        simp only [List.set] at KZ
        obtain ⟨yZ_0, yZ_1, yZ_2, yZ_3, yZ_4, yZ_5, yZ_z⟩ := blk6 KZ
        refine bodyPost_ret (v := .tuple #[.agg #[.int .i64 x0, .int .i64 x1, .int .i64 x2, .int .i64 x3, .int .i64 x4, .int .i64 x5], .int .i64 0]) (by simp [results, Tryz.results26, go_sem, yZ_0, yZ_1, yZ_2, yZ_3, yZ_4, yZ_5]) rfl ⟨by rw [EV.out], HB.out⟩
      · have EV := Lib.hid (EV0.out.trans (show chkd ⟨x0, x1, x2, x3⟩ x4 x5 = (ns0, chkS ⟨x0, x1, x2, x3⟩ x4 x5) by unfold chkd; rw [if_neg hc]))
        have ge : (chkS ⟨x0, x1, x2, x3⟩ x4 x5 != 0) = true := by simpa using hc
        generalize chkS ⟨x0, x1, x2, x3⟩ x4 x5 = e at *
        clear hc EV0
        obtain ⟨yZ_0, yZ_1, yZ_2, yZ_3, yZ_4, yZ_5, yZ_z, yZ_f0, yZ_f1, yZ_f2, yZ_f3, yZ_f4, yZ_f5⟩ := blf6 KZ
        go_wp2
        have hs := st6 w102 w.heap.size 0 (.int .i64 0) 1 (.int .i64 0) 2 (.int .i64 0) 3 (.int .i64 0) 4 (.int .i64 0) 5 (.int .i64 0)
        replace KZ := Lib.hid (blk_set (blk_set (blk_set (blk_set (blk_set (blk_set KZ.out (j := 0) (by simp) (.int .i64 0)) (j := 1) (by simp) (.int .i64 0)) (j := 2) (by simp) (.int .i64 0)) (j := 3) (by simp) (.int .i64 0)) (j := 4) (by simp) (.int .i64 0)) (j := 5) (by simp) (.int .i64 0))
        replace KG := oB hs KG (by omega)
        replace KA := oB hs KA (by omega)
        replace KT := oB hs KT (by omega)
        replace HB := oH hs HB (by omega)
        clear hs
        clear yZ_0 yZ_1 yZ_2 yZ_3 yZ_4 yZ_5 yZ_z yZ_f0 yZ_f1 yZ_f2 yZ_f3 yZ_f4 yZ_f5
        generalize (((((w102.setCell ⟨w.heap.size, 0, none⟩ (.int .i64 0)).setCell ⟨w.heap.size, 1, none⟩ (.int .i64 0)).setCell ⟨w.heap.size, 2, none⟩ (.int .i64 0)).setCell ⟨w.heap.size, 3, none⟩ (.int .i64 0)).setCell ⟨w.heap.size, 4, none⟩ (.int .i64 0)).setCell ⟨w.heap.size, 5, none⟩ (.int .i64 0) = w103 at *
        simp only [List.set] at KZ
        obtain ⟨yZ_0, yZ_1, yZ_2, yZ_3, yZ_4, yZ_5, yZ_z⟩ := blk6 KZ
        refine bodyPost_ret (v := .tuple #[.agg #[.int .i64 0, .int .i64 0, .int .i64 0, .int .i64 0, .int .i64 0, .int .i64 0], .int .i64 e]) (by simp [results, Tryz.results26, go_sem, yZ_0, yZ_1, yZ_2, yZ_3, yZ_4, yZ_5]) rfl ⟨by rw [EV.out]; rfl, HB.out⟩
set_option maxHeartbeats 40000000 in
set_option maxRecDepth 100000 in
theorem parse_lenS (s : ByteArray) (w : World) (hE : Env w) (hs : s.size ≤ 1000) (h : (fieldsL s.data.toList).length ≠ 6) :
    Calls Tryz.prog 26 #[.string s] w (RetS (parseS s.data.toList) w) := by
  have HE := Lib.hid hE
  have EV := Lib.hid (show parseS s.data.toList = (ns0, 4) from pS_len h)
  obtain ⟨L, hL⟩ : ∃ L, Lib.splitB ⟨#[32]⟩ 0 (Lib.countB s ⟨#[32]⟩) s = L := ⟨_, rfl⟩
  have hF := (splitB_fields s).1
  rw [hL] at hF
  have hn : L.length ≠ 6 := by rw [← hF, List.length_map] at h; exact h
  have SP := Lib.hid (fun w hE => split_any s w hE hs L hL)
  obtain ⟨n, hn'⟩ : ∃ n, L.length = n := ⟨_, rfl⟩
  rw [hn'] at SP hn
  have g1 : ((n : Int) == 6) = false := by simp; omega
  have g2 : ((n : Int) != 6) = true := by simp; omega
  unfold RetS
  generalize parseS s.data.toList = r at *
  clear hL hF h hE hn hn'
  obtain ⟨KZ, HB⟩ := ent1 w #[.int .i64 0, .int .i64 0, .int .i64 0, .int .i64 0, .int .i64 0, .int .i64 0] 27
  go_enter Tryz.func26, Tryz.ntmps26
  go_wp2_with fail
  generalize w.alloc (.cells #[.int .i64 0, .int .i64 0, .int .i64 0, .int .i64 0, .int .i64 0, .int .i64 0] 27) = w0 at *
  refine (SP.out _ (HE.out.below HB.out)).mono ?_
  rintro e1 w1 ⟨rfl, hw1⟩
  have hb1 : Below w0.heap.size w0 w1 := by rw [hw1]; exact (Below.refl _ _).alloc (Nat.le_refl _) _
  clear hw1
  replace HB := hT HB hb1
  replace KZ := hK KZ hb1
  clear hb1
  obtain ⟨yZ_0, yZ_1, yZ_2, yZ_3, yZ_4, yZ_5, yZ_z, yZ_f0, yZ_f1, yZ_f2, yZ_f3, yZ_f4, yZ_f5⟩ := blf6 KZ
  go_wp2
  have hs := st6 w1 w.heap.size 0 (.int .i64 0) 1 (.int .i64 0) 2 (.int .i64 0) 3 (.int .i64 0) 4 (.int .i64 0) 5 (.int .i64 0)
  replace KZ := Lib.hid (blk_set (blk_set (blk_set (blk_set (blk_set (blk_set KZ.out (j := 0) (by simp) (.int .i64 0)) (j := 1) (by simp) (.int .i64 0)) (j := 2) (by simp) (.int .i64 0)) (j := 3) (by simp) (.int .i64 0)) (j := 4) (by simp) (.int .i64 0)) (j := 5) (by simp) (.int .i64 0))
  replace HB := oH hs HB (by omega)
  clear hs
  clear yZ_0 yZ_1 yZ_2 yZ_3 yZ_4 yZ_5 yZ_z yZ_f0 yZ_f1 yZ_f2 yZ_f3 yZ_f4 yZ_f5
  generalize (((((w1.setCell ⟨w.heap.size, 0, none⟩ (.int .i64 0)).setCell ⟨w.heap.size, 1, none⟩ (.int .i64 0)).setCell ⟨w.heap.size, 2, none⟩ (.int .i64 0)).setCell ⟨w.heap.size, 3, none⟩ (.int .i64 0)).setCell ⟨w.heap.size, 4, none⟩ (.int .i64 0)).setCell ⟨w.heap.size, 5, none⟩ (.int .i64 0) = w2 at *
  simp only [List.set] at KZ
  obtain ⟨yZ_0, yZ_1, yZ_2, yZ_3, yZ_4, yZ_5, yZ_z⟩ := blk6 KZ
  refine bodyPost_ret (v := .tuple #[.agg #[.int .i64 0, .int .i64 0, .int .i64 0, .int .i64 0, .int .i64 0, .int .i64 0], .int .i64 4]) (by simp [results, Tryz.results26, go_sem, yZ_0, yZ_1, yZ_2, yZ_3, yZ_4, yZ_5]) rfl ⟨by rw [EV.out]; rfl, HB.out⟩
theorem parseS_any (s : ByteArray) (w : World) (hE : Env w) (hs : s.size ≤ 1000) : Calls Tryz.prog 26 #[.string s] w (RetS (parseS s.data.toList) w) := by
  by_cases h : (fieldsL s.data.toList).length = 6
  · have hF := (splitB_fields s).1
    obtain ⟨L, hL⟩ : ∃ L, Lib.splitB ⟨#[32]⟩ 0 (Lib.countB s ⟨#[32]⟩) s = L := ⟨_, rfl⟩
    rw [hL] at hF
    have hn : L.length = 6 := by rw [← hF, List.length_map] at h; exact h
    have hsz : ∀ g ∈ L, g.size ≤ 4294967280 := by
      intro g hg
      have := fld_size s.data.toList g.data.toList (by rw [← hF]; exact List.mem_map.2 ⟨g, hg, rfl⟩)
      rw [len_data, len_data] at this
      omega
    match L, hn with
    | [g0, g1, g2, g3, g4, g5], _ => exact parse6_any s g0 g1 g2 g3 g4 g5 w hE hs hL ⟨hsz g0 (by simp), hsz g1 (by simp), hsz g2 (by simp), hsz g3 (by simp), hsz g4 (by simp), hsz g5 (by simp)⟩
  · exact parse_lenS s w hE hs h
end Go.Proofs.YtajmjkliblippaaGreatDoor
