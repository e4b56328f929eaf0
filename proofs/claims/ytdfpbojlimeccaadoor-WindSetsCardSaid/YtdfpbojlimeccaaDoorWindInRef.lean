/-
  The walk of the reference's GroundIn.
-/
import Derived.Test.YtdfpbojlimeccaaDoorWindIn
import Derived.Test.YtdfpbojlimeccaaDoorWindSetsRef
import Derived.Test.YtdfpbojlimeccaaDoorWindRef
namespace Go.Proofs.YtdfpbojlimeccaaDoor
set_option linter.unusedVariables false
open Go.RowKit Tr Sq

set_option maxRecDepth 100000 in
set_option maxHeartbeats 2000000 in
theorem groundin_ref_bad (c tl th el eh nl nh : Int) (w : World) (hv : ¬ giOk tl th el eh nl nh) :
    Calls Tryd.prog 30 #[.int .i64 c, .agg #[.int .i64 tl, .int .i64 th], .agg #[.int .i64 el, .int .i64 eh, .int .i64 nl, .int .i64 nh]] w (RetI (0, 0, 1) w) := by
  have HV := Lib.hid hv
  clear hv
  cases g0 : boxB el eh nl nh with
  | false =>
    have G0 := Lib.hid g0
    clear g0
    go_enter Tryd.func30, Tryd.ntmps30
    go_wp2_with fail
    refine (box_ref _ _ _ _ _).mono ?_
    rw [G0.out]
    rintro e w1 ⟨rfl, hb⟩
    obtain ⟨hc, hf⟩ := bcell hb
    go_wp2
    exact bodyPost_ret (v := .tuple #[.agg #[.int .i64 0, .int .i64 0], .int .i64 1]) (by simp [results, Tryd.results30, go_sem, hc]) rfl ⟨rfl, by refine ((below_three hb).setCell (p := ⟨w.heap.size + 1 + 1, 0, none⟩) ?_ _).setCell (p := ⟨w.heap.size + 1 + 1, 1, none⟩) ?_ _ <;> (show w.heap.size ≤ w.heap.size + 1 + 1; omega)⟩
  | true =>
    have G0 := Lib.hid g0
    clear g0
    cases g1 : decide (tl < 1) with
    | true =>
      go_enter Tryd.func30, Tryd.ntmps30
      go_wp2_with fail
      refine (box_ref _ _ _ _ _).mono ?_
      rw [G0.out]
      rintro e w1 ⟨rfl, hb⟩
      obtain ⟨hc, hf⟩ := bcell hb
      go_wp2
      exact bodyPost_ret (v := .tuple #[.agg #[.int .i64 0, .int .i64 0], .int .i64 1]) (by simp [results, Tryd.results30, go_sem, hc]) rfl ⟨rfl, by refine ((below_three hb).setCell (p := ⟨w.heap.size + 1 + 1, 0, none⟩) ?_ _).setCell (p := ⟨w.heap.size + 1 + 1, 1, none⟩) ?_ _ <;> (show w.heap.size ≤ w.heap.size + 1 + 1; omega)⟩
    | false =>
      cases g2 : decide (4000 < th) with
      | true =>
        go_enter Tryd.func30, Tryd.ntmps30
        go_wp2_with fail
        refine (box_ref _ _ _ _ _).mono ?_
        rw [G0.out]
        rintro e w1 ⟨rfl, hb⟩
        obtain ⟨hc, hf⟩ := bcell hb
        go_wp2
        exact bodyPost_ret (v := .tuple #[.agg #[.int .i64 0, .int .i64 0], .int .i64 1]) (by simp [results, Tryd.results30, go_sem, hc]) rfl ⟨rfl, by refine ((below_three hb).setCell (p := ⟨w.heap.size + 1 + 1, 0, none⟩) ?_ _).setCell (p := ⟨w.heap.size + 1 + 1, 1, none⟩) ?_ _ <;> (show w.heap.size ≤ w.heap.size + 1 + 1; omega)⟩
      | false =>
        cases g3 : decide (th < tl) with
        | true =>
          go_enter Tryd.func30, Tryd.ntmps30
          go_wp2_with fail
          refine (box_ref _ _ _ _ _).mono ?_
          rw [G0.out]
          rintro e w1 ⟨rfl, hb⟩
          obtain ⟨hc, hf⟩ := bcell hb
          go_wp2
          exact bodyPost_ret (v := .tuple #[.agg #[.int .i64 0, .int .i64 0], .int .i64 1]) (by simp [results, Tryd.results30, go_sem, hc]) rfl ⟨rfl, by refine ((below_three hb).setCell (p := ⟨w.heap.size + 1 + 1, 0, none⟩) ?_ _).setCell (p := ⟨w.heap.size + 1 + 1, 1, none⟩) ?_ _ <;> (show w.heap.size ≤ w.heap.size + 1 + 1; omega)⟩
        | false =>
          exfalso
          simp at g1 g2 g3
          exact HV.out ⟨G0.out, by omega, by omega, by omega⟩

/-- the extremes, in the reference's order -/
theorem gi_order {c el eh nl nh : Int} :
    giA0 c el eh nl nh = min (min (min (alongI c el nl) (alongI c eh nl)) (alongI c el nh)) (alongI c eh nh) ∧
    giA1 c el eh nl nh = max (max (max (alongI c el nl) (alongI c eh nl)) (alongI c el nh)) (alongI c eh nh) ∧
    giC0 c el eh nl nh = min (min (min (acrossI c el nl) (acrossI c eh nl)) (acrossI c el nh)) (acrossI c eh nh) ∧
    giC1 c el eh nl nh = max (max (max (acrossI c el nl) (acrossI c eh nl)) (acrossI c el nh)) (acrossI c eh nh) := by
  unfold giA0 giA1 giC0 giC1 mn4 mx4
  omega
def AccR (c el eh nl nh : Int) (B : Nat) (w0 : World) (s8 s10 s9 s11 s : Value) (wr : World) : Prop :=
  Acc B w0 (alongI c el nl) (alongI c el nl) (acrossI c el nl) (acrossI c el nl) 1 s8 s10 s9 s11 s wr ∨
  Acc B w0 (min (alongI c el nl) (alongI c eh nl)) (max (alongI c el nl) (alongI c eh nl)) (min (acrossI c el nl) (acrossI c eh nl)) (max (acrossI c el nl) (acrossI c eh nl)) 2 s8 s10 s9 s11 s wr ∨
  Acc B w0 (min (min (alongI c el nl) (alongI c eh nl)) (alongI c el nh)) (max (max (alongI c el nl) (alongI c eh nl)) (alongI c el nh)) (min (min (acrossI c el nl) (acrossI c eh nl)) (acrossI c el nh)) (max (max (acrossI c el nl) (acrossI c eh nl)) (acrossI c el nh)) 3 s8 s10 s9 s11 s wr ∨
  Acc B w0 (giA0 c el eh nl nh) (giA1 c el eh nl nh) (giC0 c el eh nl nh) (giC1 c el eh nl nh) 4 s8 s10 s9 s11 s wr
set_option maxRecDepth 100000 in
set_option maxHeartbeats 4000000 in
theorem groundin_ref_good (c tl th el eh nl nh : Int) (w : World) (h0 : -9223372036854775808 ≤ c) (h1 : c ≤ 9223372036854775807) (hv : boxB el eh nl nh = true) (t1 : 1 ≤ tl) (t2 : th ≤ 4000) (t3 : tl ≤ th) :
    Calls Tryd.prog 30 #[.int .i64 c, .agg #[.int .i64 tl, .int .i64 th], .agg #[.int .i64 el, .int .i64 eh, .int .i64 nl, .int .i64 nh]] w (RetI (giEnd tl th (giA0 c el eh nl nh) (giA1 c el eh nl nh) (giC0 c el eh nl nh) (giC1 c el eh nl nh)) w) := by
  have G0 := Lib.hid hv
  have hvv := vld_of_box hv
  obtain ⟨v1, v2, v3, v4⟩ := hvv
  have V1 := Lib.hid v1
  have V2 := Lib.hid v2
  have V3 := Lib.hid v3
  have V4 := Lib.hid v4
  have F0 := Lib.hid (gi_order (c := c) (el := el) (eh := eh) (nl := nl) (nh := nh))
  clear hv v1 v2 v3 v4
  have g1 : decide (tl < 1) = false := by simp; omega
  have g2 : decide (4000 < th) = false := by simp; omega
  have g3 : decide (th < tl) = false := by simp; omega
  go_enter Tryd.func30, Tryd.ntmps30
  go_wp2_with fail
  refine (box_ref _ _ _ _ _).mono ?_
  rw [G0.out]
  rintro e w1 ⟨rfl, hb⟩
  obtain ⟨hc, hf⟩ := bcell hb
  have hz0 : w.heap.size < w1.heap.size := by have := hb.size; simp at this; omega
  have hz1 : w.heap.size + 1 < w1.heap.size := by have := hb.size; simp at this; omega
  have hz2 : w.heap.size + 1 + 1 < w1.heap.size := by have := hb.size; simp at this; omega
  go_wp2_with (go_at_call 42; refine (partsv_ref _ _ _ _ h0 h1 V1.out).mono ?_; rintro e w2 ⟨rfl, rfl⟩)
  go_loopw [8, 10, 9, 11, 12] (AccR c el eh nl nh w1.heap.size w1) (fun _ _ _ _ i _ => 4 - (intOf i).toNat)
  case atStart => exact .inl ⟨rfl, rfl, rfl, rfl, rfl, Below.refl _ _⟩
  case round =>
    rcases hrel with ⟨rfl, rfl, rfl, rfl, rfl, hbr⟩ | ⟨rfl, rfl, rfl, rfl, rfl, hbr⟩ | ⟨rfl, rfl, rfl, rfl, rfl, hbr⟩ | ⟨rfl, rfl, rfl, rfl, rfl, hbr⟩
    · obtain ⟨hcr, hfr⟩ : (∀ b o, b < w1.heap.size → wr.cell? ⟨b, o, none⟩ = w1.cell? ⟨b, o, none⟩) ∧ True := ⟨fun b o h => hbr.cell (p := ⟨b, o, none⟩) h, trivial⟩
      go_wp2_with fail
      go_quiet (fail)
      go_wp2_with (go_at_call 42; refine (partsv_ref _ _ _ _ h0 h1 V3.out).mono ?_; rintro e w2 ⟨rfl, rfl⟩)
      go_roundw
      case rel => exact .inr (.inl ⟨vint (by omega), vint (by omega), vint (by omega), vint (by omega), rfl, below_drewN hbr _⟩)
      case measure => simp [intOf]
    · obtain ⟨hcr, hfr⟩ : (∀ b o, b < w1.heap.size → wr.cell? ⟨b, o, none⟩ = w1.cell? ⟨b, o, none⟩) ∧ True := ⟨fun b o h => hbr.cell (p := ⟨b, o, none⟩) h, trivial⟩
      go_wp2_with fail
      go_quiet (fail)
      go_wp2_with (go_at_call 42; refine (partsv_ref _ _ _ _ h0 h1 V2.out).mono ?_; rintro e w2 ⟨rfl, rfl⟩)
      go_roundw
      case rel => exact .inr (.inr (.inl ⟨vint (by omega), vint (by omega), vint (by omega), vint (by omega), rfl, below_drewN hbr _⟩))
      case measure => simp [intOf]
    · obtain ⟨hcr, hfr⟩ : (∀ b o, b < w1.heap.size → wr.cell? ⟨b, o, none⟩ = w1.cell? ⟨b, o, none⟩) ∧ True := ⟨fun b o h => hbr.cell (p := ⟨b, o, none⟩) h, trivial⟩
      go_wp2_with fail
      go_quiet (fail)
      go_wp2_with (go_at_call 42; refine (partsv_ref _ _ _ _ h0 h1 V4.out).mono ?_; rintro e w2 ⟨rfl, rfl⟩)
      go_roundw
      case rel => exact .inr (.inr (.inr ⟨vint (by have := F0.out; omega), vint (by have := F0.out; omega), vint (by have := F0.out; omega), vint (by have := F0.out; omega), rfl, below_drewN hbr _⟩))
      case measure => simp [intOf]
    · obtain ⟨hcr, hfr⟩ : (∀ b o, b < w1.heap.size → wr.cell? ⟨b, o, none⟩ = w1.cell? ⟨b, o, none⟩) ∧ (∀ b o, b < w1.heap.size → wr.frozen? ⟨b, o, none⟩ = w1.frozen? ⟨b, o, none⟩) := ⟨fun b o h => hbr.cell (p := ⟨b, o, none⟩) h, fun b o h => hbr.frozen (p := ⟨b, o, none⟩) h⟩
      obtain ⟨⟨a1, a2⟩, ⟨a3, a4⟩, ⟨a5, a6⟩, a7, a8⟩ := gi_bd (c := c) G0.out
      have hw := Lib.hid ((below_three hb).trans (hbr.mono (below_three hb).size))
      have hA := gi_A01 c el eh nl nh
      generalize giA0 c el eh nl nh = A0 at *
      generalize giA1 c el eh nl nh = A1 at *
      generalize giC0 c el eh nl nh = C0 at *
      generalize giC1 c el eh nl nh = C1 at *
      clear F0 V1 V2 V3 V4 hbr
      obtain ⟨r0, r1⟩ := far_bd a5 a6 a7 a8
      have q0 : wr.cell? ⟨w.heap.size + 1 + 1, 0, none⟩ = some (.int .i64 0) := (hcr _ _ hz2).trans ((hc _ _ (by simp)).trans (by rw [World.cell?_alloc_at _ _ _ _ (by simp)]; rfl))
      have q1 : wr.cell? ⟨w.heap.size + 1 + 1, 1, none⟩ = some (.int .i64 0) := (hcr _ _ hz2).trans ((hc _ _ (by simp)).trans (by rw [World.cell?_alloc_at _ _ _ _ (by simp)]; rfl))
      by_cases hn1 : C0 ≤ 0
      · have k1 : decide (C0 ≤ 0) = true := by simpa using hn1
        by_cases hn2 : 0 ≤ C1
        · have k2 : decide (0 ≤ C1) = true := by simpa using hn2
          have hN : nearI C0 C1 = 0 := by unfold nearI; rw [if_pos ⟨hn1, hn2⟩]
          obtain ⟨n0, n1⟩ := near_bd a5 a6 a7 a8
          rw [hN] at n0 n1
          have HN := Lib.hid hN
          clear hN
          unfold farI at *
          by_cases f1 : tl * 1024 ≤ max (absI C0) (absI C1)
          · go_wp2_with (go_at_call 43; refine (abs_ref _ _ (by omega) (by omega)).mono ?_; rintro e w' ⟨rfl, rfl⟩)
            go_quiet (fail)
            go_wp2
            exact bodyPost_ret (v := .tuple #[.agg #[.int .i64 (0), .int .i64 (0)], .int .i64 10]) (by simp [results, Tryd.results30, go_sem, q0, q1]) rfl ⟨by unfold giEnd farI; rw [if_pos f1], below_res (below_drewN hw.out _)⟩
          · obtain ⟨m1, m2⟩ := sqle (x := max (absI C0) (absI C1)) (by omega) (by omega)
            obtain ⟨m3, m4⟩ := sqle (x := tl * 1024) (by omega) (by omega)
            obtain ⟨m5, m6⟩ := sqle (x := th * 1024) (by omega) (by omega)
            obtain ⟨m7, m8⟩ := sqle (x := 0) (by omega) (by omega)
            have m9 : 0 * 0 ≤ max (absI C0) (absI C1) * max (absI C0) (absI C1) := sq_le n0 n1
            have m10 : tl * 1024 * (tl * 1024) ≤ th * 1024 * (th * 1024) := sq_le (by omega) (by omega)
            obtain ⟨p1, p2⟩ := isq_4m (n := tl * 1024 * (tl * 1024) - max (absI C0) (absI C1) * max (absI C0) (absI C1)) (by omega)
            obtain ⟨p3, p4⟩ := isq_4m (n := th * 1024 * (th * 1024) - 0 * 0) (by omega)
            have p5 := isq_mono (m := tl * 1024 * (tl * 1024) - max (absI C0) (absI C1) * max (absI C0) (absI C1)) (n := th * 1024 * (th * 1024) - 0 * 0) (by omega) (by omega)
            simp only [Int.mul_zero, Int.sub_zero] at p3 p4 p5
            by_cases f2 : A0 + isq (tl * 1024 * (tl * 1024) - max (absI C0) (absI C1) * max (absI C0) (absI C1)) < 1024
            · go_wp2_with (go_at_call 43; refine (abs_ref _ _ (by omega) (by omega)).mono ?_; rintro e w' ⟨rfl, rfl⟩)
              go_quiet (fail)
              go_wp2_with (go_at_call 44; refine (sqrt_ref _ _ (by omega) (by omega)).mono ?_; rintro e w' ⟨rfl, rfl⟩)
              exact bodyPost_ret (v := .tuple #[.agg #[.int .i64 (0), .int .i64 (0)], .int .i64 10]) (by simp [results, Tryd.results30, go_sem, q0, q1]) rfl ⟨by unfold giEnd farI; rw [if_neg (by omega), if_pos f2], below_res (below_drewN hw.out _)⟩
            · go_wp2_with (go_at_call 43; refine (abs_ref _ _ (by omega) (by omega)).mono ?_; rintro e w' ⟨rfl, rfl⟩)
              go_quiet (fail)
              go_wp2_with (go_at_call 44; refine (sqrt_ref _ _ (by omega) (by omega)).mono ?_; rintro e w' ⟨rfl, rfl⟩)
              exact bodyPost_ret (v := .tuple #[.agg #[.int .i64 ((A0 + isq (tl * 1024 * (tl * 1024) - max (absI C0) (absI C1) * max (absI C0) (absI C1))) / 1024), .int .i64 ((A1 + isq (th * 1024 * (th * 1024)) + 1024 - 1) / 1024)], .int .i64 0]) (by simp [results, Tryd.results30, go_sem, q0, q1]) rfl ⟨by unfold giEnd farI; rw [if_neg (by omega), if_neg (by omega), HN.out]; simp, below_res (below_drewN hw.out _)⟩
        · have k2 : decide (0 ≤ C1) = false := by simpa using hn2
          have hN : nearI C0 C1 = min (absI C0) (absI C1) := by unfold nearI; rw [if_neg (fun h => hn2 h.2)]
          obtain ⟨n0, n1⟩ := near_bd a5 a6 a7 a8
          rw [hN] at n0 n1
          have HN := Lib.hid hN
          clear hN
          unfold farI at *
          by_cases f1 : tl * 1024 ≤ max (absI C0) (absI C1)
          · go_wp2_with (go_at_call 43; refine (abs_ref _ _ (by omega) (by omega)).mono ?_; rintro e w' ⟨rfl, rfl⟩)
            go_quiet (fail)
            go_wp2
            exact bodyPost_ret (v := .tuple #[.agg #[.int .i64 (0), .int .i64 (0)], .int .i64 10]) (by simp [results, Tryd.results30, go_sem, q0, q1]) rfl ⟨by unfold giEnd farI; rw [if_pos f1], below_res (below_drewN hw.out _)⟩
          · obtain ⟨m1, m2⟩ := sqle (x := max (absI C0) (absI C1)) (by omega) (by omega)
            obtain ⟨m3, m4⟩ := sqle (x := tl * 1024) (by omega) (by omega)
            obtain ⟨m5, m6⟩ := sqle (x := th * 1024) (by omega) (by omega)
            obtain ⟨m7, m8⟩ := sqle (x := min (absI C0) (absI C1)) (by omega) (by omega)
            have m9 : min (absI C0) (absI C1) * min (absI C0) (absI C1) ≤ max (absI C0) (absI C1) * max (absI C0) (absI C1) := sq_le n0 n1
            have m10 : tl * 1024 * (tl * 1024) ≤ th * 1024 * (th * 1024) := sq_le (by omega) (by omega)
            obtain ⟨p1, p2⟩ := isq_4m (n := tl * 1024 * (tl * 1024) - max (absI C0) (absI C1) * max (absI C0) (absI C1)) (by omega)
            obtain ⟨p3, p4⟩ := isq_4m (n := th * 1024 * (th * 1024) - min (absI C0) (absI C1) * min (absI C0) (absI C1)) (by omega)
            have p5 := isq_mono (m := tl * 1024 * (tl * 1024) - max (absI C0) (absI C1) * max (absI C0) (absI C1)) (n := th * 1024 * (th * 1024) - min (absI C0) (absI C1) * min (absI C0) (absI C1)) (by omega) (by omega)
            by_cases f2 : A0 + isq (tl * 1024 * (tl * 1024) - max (absI C0) (absI C1) * max (absI C0) (absI C1)) < 1024
            · go_wp2_with (go_at_call 43; refine (abs_ref _ _ (by omega) (by omega)).mono ?_; rintro e w' ⟨rfl, rfl⟩)
              go_quiet (fail)
              go_wp2_with (go_at_call 44; refine (sqrt_ref _ _ (by omega) (by omega)).mono ?_; rintro e w' ⟨rfl, rfl⟩)
              exact bodyPost_ret (v := .tuple #[.agg #[.int .i64 (0), .int .i64 (0)], .int .i64 10]) (by simp [results, Tryd.results30, go_sem, q0, q1]) rfl ⟨by unfold giEnd farI; rw [if_neg (by omega), if_pos f2], below_res (below_drewN hw.out _)⟩
            · go_wp2_with (go_at_call 43; refine (abs_ref _ _ (by omega) (by omega)).mono ?_; rintro e w' ⟨rfl, rfl⟩)
              go_quiet (fail)
              go_wp2_with (go_at_call 44; refine (sqrt_ref _ _ (by omega) (by omega)).mono ?_; rintro e w' ⟨rfl, rfl⟩)
              exact bodyPost_ret (v := .tuple #[.agg #[.int .i64 ((A0 + isq (tl * 1024 * (tl * 1024) - max (absI C0) (absI C1) * max (absI C0) (absI C1))) / 1024), .int .i64 ((A1 + isq (th * 1024 * (th * 1024) - min (absI C0) (absI C1) * min (absI C0) (absI C1)) + 1024 - 1) / 1024)], .int .i64 0]) (by simp [results, Tryd.results30, go_sem, q0, q1]) rfl ⟨by unfold giEnd farI; rw [if_neg (by omega), if_neg (by omega), HN.out], below_res (below_drewN hw.out _)⟩
      · have k1 : decide (C0 ≤ 0) = false := by simpa using hn1
        have hN : nearI C0 C1 = min (absI C0) (absI C1) := by unfold nearI; rw [if_neg (fun h => hn1 h.1)]
        obtain ⟨n0, n1⟩ := near_bd a5 a6 a7 a8
        rw [hN] at n0 n1
        have HN := Lib.hid hN
        clear hN
        unfold farI at *
        by_cases f1 : tl * 1024 ≤ max (absI C0) (absI C1)
        · go_wp2_with (go_at_call 43; refine (abs_ref _ _ (by omega) (by omega)).mono ?_; rintro e w' ⟨rfl, rfl⟩)
          go_quiet (fail)
          go_wp2
          exact bodyPost_ret (v := .tuple #[.agg #[.int .i64 (0), .int .i64 (0)], .int .i64 10]) (by simp [results, Tryd.results30, go_sem, q0, q1]) rfl ⟨by unfold giEnd farI; rw [if_pos f1], below_res (below_drewN hw.out _)⟩
        · obtain ⟨m1, m2⟩ := sqle (x := max (absI C0) (absI C1)) (by omega) (by omega)
          obtain ⟨m3, m4⟩ := sqle (x := tl * 1024) (by omega) (by omega)
          obtain ⟨m5, m6⟩ := sqle (x := th * 1024) (by omega) (by omega)
          obtain ⟨m7, m8⟩ := sqle (x := min (absI C0) (absI C1)) (by omega) (by omega)
          have m9 : min (absI C0) (absI C1) * min (absI C0) (absI C1) ≤ max (absI C0) (absI C1) * max (absI C0) (absI C1) := sq_le n0 n1
          have m10 : tl * 1024 * (tl * 1024) ≤ th * 1024 * (th * 1024) := sq_le (by omega) (by omega)
          obtain ⟨p1, p2⟩ := isq_4m (n := tl * 1024 * (tl * 1024) - max (absI C0) (absI C1) * max (absI C0) (absI C1)) (by omega)
          obtain ⟨p3, p4⟩ := isq_4m (n := th * 1024 * (th * 1024) - min (absI C0) (absI C1) * min (absI C0) (absI C1)) (by omega)
          have p5 := isq_mono (m := tl * 1024 * (tl * 1024) - max (absI C0) (absI C1) * max (absI C0) (absI C1)) (n := th * 1024 * (th * 1024) - min (absI C0) (absI C1) * min (absI C0) (absI C1)) (by omega) (by omega)
          by_cases f2 : A0 + isq (tl * 1024 * (tl * 1024) - max (absI C0) (absI C1) * max (absI C0) (absI C1)) < 1024
          · go_wp2_with (go_at_call 43; refine (abs_ref _ _ (by omega) (by omega)).mono ?_; rintro e w' ⟨rfl, rfl⟩)
            go_quiet (fail)
            go_wp2_with (go_at_call 44; refine (sqrt_ref _ _ (by omega) (by omega)).mono ?_; rintro e w' ⟨rfl, rfl⟩)
            exact bodyPost_ret (v := .tuple #[.agg #[.int .i64 (0), .int .i64 (0)], .int .i64 10]) (by simp [results, Tryd.results30, go_sem, q0, q1]) rfl ⟨by unfold giEnd farI; rw [if_neg (by omega), if_pos f2], below_res (below_drewN hw.out _)⟩
          · go_wp2_with (go_at_call 43; refine (abs_ref _ _ (by omega) (by omega)).mono ?_; rintro e w' ⟨rfl, rfl⟩)
            go_quiet (fail)
            go_wp2_with (go_at_call 44; refine (sqrt_ref _ _ (by omega) (by omega)).mono ?_; rintro e w' ⟨rfl, rfl⟩)
            exact bodyPost_ret (v := .tuple #[.agg #[.int .i64 ((A0 + isq (tl * 1024 * (tl * 1024) - max (absI C0) (absI C1) * max (absI C0) (absI C1))) / 1024), .int .i64 ((A1 + isq (th * 1024 * (th * 1024) - min (absI C0) (absI C1) * min (absI C0) (absI C1)) + 1024 - 1) / 1024)], .int .i64 0]) (by simp [results, Tryd.results30, go_sem, q0, q1]) rfl ⟨by unfold giEnd farI; rw [if_neg (by omega), if_neg (by omega), HN.out], below_res (below_drewN hw.out _)⟩

theorem groundin_ref (c tl th el eh nl nh : Int) (w : World) (h0 : -9223372036854775808 ≤ c) (h1 : c ≤ 9223372036854775807) :
    Calls Tryd.prog 30 #[.int .i64 c, .agg #[.int .i64 tl, .int .i64 th], .agg #[.int .i64 el, .int .i64 eh, .int .i64 nl, .int .i64 nh]] w (RetI (groundInF c tl th el eh nl nh) w) := by
  by_cases h : giOk tl th el eh nl nh
  · unfold groundInF
    rw [if_pos h]
    exact groundin_ref_good c tl th el eh nl nh w h0 h1 h.1 h.2.1 h.2.2.1 h.2.2.2
  · unfold groundInF
    rw [if_neg h]
    exact groundin_ref_bad c tl th el eh nl nh w h
end Go.Proofs.YtdfpbojlimeccaaDoor

