/-
  The walk of wind.GroundIn.
-/
import Derived.Test.YtdfpbojlimeccaaDoorWindSets
namespace Go.Proofs.YtdfpbojlimeccaaDoor
set_option linter.unusedVariables false
open Go.RowKit Tr Sq

/-- an interval and an error as a result -/
def RetI (r : Int × Int × Int) (w : World) (e : Ending) (w' : World) : Prop := e = .returned (.tuple #[.agg #[.int .i64 r.1, .int .i64 r.2.1], .int .i64 r.2.2]) ∧ Below w.heap.size w w'

theorem below_three {w w1 : World} {o o' o'' : Obj} (hb : Below (((w.alloc o).alloc o').alloc o'').heap.size (((w.alloc o).alloc o').alloc o'') w1) : Below w.heap.size w w1 := ((((Below.refl _ _).alloc (Nat.le_refl _) _).alloc (by simp) _).alloc (by simp; omega) _).trans (hb.mono (by simp; omega))

set_option maxHeartbeats 2000000 in
theorem groundin_bad (c tl th el eh nl nh : Int) (w : World) (hv : ¬ giOk tl th el eh nl nh) :
    Calls Tryd.prog 17 #[.int .i64 c, .agg #[.int .i64 tl, .int .i64 th], .agg #[.int .i64 el, .int .i64 eh, .int .i64 nl, .int .i64 nh]] w (RetI (0, 0, 1) w) := by
  have HV := Lib.hid hv
  clear hv
  cases g0 : boxB el eh nl nh with
  | false =>
    have G0 := Lib.hid g0
    clear g0
    go_enter Tryd.func17, Tryd.ntmps17
    go_wp2_with fail
    refine (box_any _ _ _ _ _).mono ?_
    rw [G0.out]
    rintro e w1 ⟨rfl, hb⟩
    obtain ⟨hc, hf⟩ := bcell hb
    go_wp2
    exact bodyPost_ret (v := .tuple #[.agg #[.int .i64 0, .int .i64 0], .int .i64 1]) (by simp [results, Tryd.results17, go_sem, hc]) rfl ⟨rfl, by refine ((below_three hb).setCell (p := ⟨w.heap.size + 1 + 1, 0, none⟩) ?_ _).setCell (p := ⟨w.heap.size + 1 + 1, 1, none⟩) ?_ _ <;> (show w.heap.size ≤ w.heap.size + 1 + 1; omega)⟩
  | true =>
    have G0 := Lib.hid g0
    clear g0
    cases g1 : decide (tl < 1) with
    | true =>
      go_enter Tryd.func17, Tryd.ntmps17
      go_wp2_with fail
      refine (box_any _ _ _ _ _).mono ?_
      rw [G0.out]
      rintro e w1 ⟨rfl, hb⟩
      obtain ⟨hc, hf⟩ := bcell hb
      go_wp2
      exact bodyPost_ret (v := .tuple #[.agg #[.int .i64 0, .int .i64 0], .int .i64 1]) (by simp [results, Tryd.results17, go_sem, hc]) rfl ⟨rfl, by refine ((below_three hb).setCell (p := ⟨w.heap.size + 1 + 1, 0, none⟩) ?_ _).setCell (p := ⟨w.heap.size + 1 + 1, 1, none⟩) ?_ _ <;> (show w.heap.size ≤ w.heap.size + 1 + 1; omega)⟩
    | false =>
      cases g2 : decide (4000 < th) with
      | true =>
        go_enter Tryd.func17, Tryd.ntmps17
        go_wp2_with fail
        refine (box_any _ _ _ _ _).mono ?_
        rw [G0.out]
        rintro e w1 ⟨rfl, hb⟩
        obtain ⟨hc, hf⟩ := bcell hb
        go_wp2
        exact bodyPost_ret (v := .tuple #[.agg #[.int .i64 0, .int .i64 0], .int .i64 1]) (by simp [results, Tryd.results17, go_sem, hc]) rfl ⟨rfl, by refine ((below_three hb).setCell (p := ⟨w.heap.size + 1 + 1, 0, none⟩) ?_ _).setCell (p := ⟨w.heap.size + 1 + 1, 1, none⟩) ?_ _ <;> (show w.heap.size ≤ w.heap.size + 1 + 1; omega)⟩
      | false =>
        cases g3 : decide (th < tl) with
        | true =>
          go_enter Tryd.func17, Tryd.ntmps17
          go_wp2_with fail
          refine (box_any _ _ _ _ _).mono ?_
          rw [G0.out]
          rintro e w1 ⟨rfl, hb⟩
          obtain ⟨hc, hf⟩ := bcell hb
          go_wp2
          exact bodyPost_ret (v := .tuple #[.agg #[.int .i64 0, .int .i64 0], .int .i64 1]) (by simp [results, Tryd.results17, go_sem, hc]) rfl ⟨rfl, by refine ((below_three hb).setCell (p := ⟨w.heap.size + 1 + 1, 0, none⟩) ?_ _).setCell (p := ⟨w.heap.size + 1 + 1, 1, none⟩) ?_ _ <;> (show w.heap.size ≤ w.heap.size + 1 + 1; omega)⟩
        | false =>
          exfalso
          simp at g1 g2 g3
          exact HV.out ⟨G0.out, by omega, by omega, by omega⟩

/-- components of a valid wind -/
theorem parts_two (c x n : Int) (w : World) (h0 : -9223372036854775808 ≤ c) (h1 : c ≤ 9223372036854775807) (hv : vldW x n = true) :
    Calls Tryd.prog 19 #[.int .i64 c, .agg #[.int .i64 x, .int .i64 n]] w fun e w' => e = .returned (.tuple #[.int .i64 (alongI c x n), .int .i64 (acrossI c x n), .int .i64 0]) ∧ Below w.heap.size w w' :=
  (parts_any c x n w h0 h1).mono fun e w' ⟨he, hb⟩ => ⟨by rw [he]; unfold partsF; rw [if_pos hv], hb⟩

theorem below_res {w w1 : World} (h : Below w.heap.size w w1) {u v : Value} : Below w.heap.size w ((w1.setCell ⟨w.heap.size + 1 + 1, 0, none⟩ u).setCell ⟨w.heap.size + 1 + 1, 1, none⟩ v) := by
  refine (h.setCell (p := ⟨w.heap.size + 1 + 1, 0, none⟩) ?_ _).setCell (p := ⟨w.heap.size + 1 + 1, 1, none⟩) ?_ _ <;> (show w.heap.size ≤ w.heap.size + 1 + 1; omega)
theorem gi_A01 (c el eh nl nh : Int) : giA0 c el eh nl nh ≤ giA1 c el eh nl nh := by unfold giA0 giA1 mn4 mx4; omega
theorem vint {k : IntKind} {a b : Int} (h : a = b) : Value.int k a = Value.int k b := by rw [h]
/-- the extremes so far -/
def Acc (B : Nat) (w0 : World) (a0 a1 c0 c1 : Int) (k : Int) (s8 s9 s10 s11 s : Value) (wr : World) : Prop :=
  s8 = .int .i64 a0 ∧ s9 = .int .i64 a1 ∧ s10 = .int .i64 c0 ∧ s11 = .int .i64 c1 ∧ s = .int .i64 k ∧ Below B w0 wr
def AccIn (c x nl nh : Int) (B : Nat) (w0 : World) (a0 a1 c0 c1 : Int) (s8 s9 s10 s11 s : Value) (wr : World) : Prop :=
  Acc B w0 a0 a1 c0 c1 0 s8 s9 s10 s11 s wr ∨
  Acc B w0 (min a0 (alongI c x nl)) (max a1 (alongI c x nl)) (min c0 (acrossI c x nl)) (max c1 (acrossI c x nl)) 1 s8 s9 s10 s11 s wr ∨
  Acc B w0 (min (min a0 (alongI c x nl)) (alongI c x nh)) (max (max a1 (alongI c x nl)) (alongI c x nh)) (min (min c0 (acrossI c x nl)) (acrossI c x nh)) (max (max c1 (acrossI c x nl)) (acrossI c x nh)) 2 s8 s9 s10 s11 s wr
def AccOut (c el eh nl nh : Int) (B : Nat) (w0 : World) (s8 s9 s10 s11 s : Value) (wr : World) : Prop :=
  Acc B w0 1099511627776 (-1099511627776) 1099511627776 (-1099511627776) 0 s8 s9 s10 s11 s wr ∨
  Acc B w0 (min (min 1099511627776 (alongI c el nl)) (alongI c el nh)) (max (max (-1099511627776) (alongI c el nl)) (alongI c el nh)) (min (min 1099511627776 (acrossI c el nl)) (acrossI c el nh)) (max (max (-1099511627776) (acrossI c el nl)) (acrossI c el nh)) 1 s8 s9 s10 s11 s wr ∨
  Acc B w0 (giA0 c el eh nl nh) (giA1 c el eh nl nh) (giC0 c el eh nl nh) (giC1 c el eh nl nh) 2 s8 s9 s10 s11 s wr
theorem min_first {a : Int} (h : a ≤ 819200) : min 1099511627776 a = a := by omega
theorem max_first {a : Int} (h : -819200 ≤ a) : max (-1099511627776) a = a := by omega

theorem gi_first {c el eh nl nh : Int} (v1 : vldW el nl = true) :
    giA0 c el eh nl nh = min (min (min (min 1099511627776 (alongI c el nl)) (alongI c el nh)) (alongI c eh nl)) (alongI c eh nh) ∧
    giA1 c el eh nl nh = max (max (max (max (-1099511627776) (alongI c el nl)) (alongI c el nh)) (alongI c eh nl)) (alongI c eh nh) ∧
    giC0 c el eh nl nh = min (min (min (min 1099511627776 (acrossI c el nl)) (acrossI c el nh)) (acrossI c eh nl)) (acrossI c eh nh) ∧
    giC1 c el eh nl nh = max (max (max (max (-1099511627776) (acrossI c el nl)) (acrossI c el nh)) (acrossI c eh nl)) (acrossI c eh nh) := by
  have a := along_bd (c := c) v1
  have b := across_bd (c := c) v1
  rw [min_first a.2, max_first a.1, min_first b.2, max_first b.1]
  exact ⟨rfl, rfl, rfl, rfl⟩
set_option maxHeartbeats 4000000 in
theorem groundin_good (c tl th el eh nl nh : Int) (w : World) (h0 : -9223372036854775808 ≤ c) (h1 : c ≤ 9223372036854775807) (hv : boxB el eh nl nh = true) (t1 : 1 ≤ tl) (t2 : th ≤ 4000) (t3 : tl ≤ th) :
    Calls Tryd.prog 17 #[.int .i64 c, .agg #[.int .i64 tl, .int .i64 th], .agg #[.int .i64 el, .int .i64 eh, .int .i64 nl, .int .i64 nh]] w (RetI (giEnd tl th (giA0 c el eh nl nh) (giA1 c el eh nl nh) (giC0 c el eh nl nh) (giC1 c el eh nl nh)) w) := by
  have G0 := Lib.hid hv
  have hvv := vld_of_box hv
  obtain ⟨v1, v2, v3, v4⟩ := hvv
  have V1 := Lib.hid v1
  have V2 := Lib.hid v2
  have V3 := Lib.hid v3
  have V4 := Lib.hid v4
  have F0 := Lib.hid (gi_first (c := c) (eh := eh) (nh := nh) v1)
  clear hv v1 v2 v3 v4
  have g1 : decide (tl < 1) = false := by simp; omega
  have g2 : decide (4000 < th) = false := by simp; omega
  have g3 : decide (th < tl) = false := by simp; omega
  have i0 : ∀ w, (Instr.index 63 (.agg #[.int .i64 el, .int .i64 eh]) (.int .i64 0)).run Tryd.prog w = .ok (.int .i64 el) w := fun _ => by kernel_rfl
  have i1 : ∀ w, (Instr.index 63 (.agg #[.int .i64 el, .int .i64 eh]) (.int .i64 1)).run Tryd.prog w = .ok (.int .i64 eh) w := fun _ => by kernel_rfl
  have j0 : ∀ w, (Instr.index 63 (.agg #[.int .i64 nl, .int .i64 nh]) (.int .i64 0)).run Tryd.prog w = .ok (.int .i64 nl) w := fun _ => by kernel_rfl
  have j1 : ∀ w, (Instr.index 63 (.agg #[.int .i64 nl, .int .i64 nh]) (.int .i64 1)).run Tryd.prog w = .ok (.int .i64 nh) w := fun _ => by kernel_rfl
  go_enter Tryd.func17, Tryd.ntmps17
  go_wp2_with fail
  refine (box_any _ _ _ _ _).mono ?_
  rw [G0.out]
  rintro e w1 ⟨rfl, hb⟩
  obtain ⟨hc, hf⟩ := bcell hb
  have hz0 : w.heap.size < w1.heap.size := by have := hb.size; simp at this; omega
  have hz1 : w.heap.size + 1 < w1.heap.size := by have := hb.size; simp at this; omega
  have hz2 : w.heap.size + 1 + 1 < w1.heap.size := by have := hb.size; simp at this; omega
  go_wp2
  go_loopw [8, 9, 10, 11, 53] (AccOut c el eh nl nh w1.heap.size w1) (fun _ _ _ _ i _ => 2 - (intOf i).toNat)
  case atStart => exact .inl ⟨rfl, rfl, rfl, rfl, rfl, Below.refl _ _⟩
  case round =>
    rcases hrel with ⟨rfl, rfl, rfl, rfl, rfl, hbr⟩ | ⟨rfl, rfl, rfl, rfl, rfl, hbr⟩ | ⟨rfl, rfl, rfl, rfl, rfl, hbr⟩
    · obtain ⟨hcr, hfr⟩ : (∀ b o, b < w1.heap.size → wr.cell? ⟨b, o, none⟩ = w1.cell? ⟨b, o, none⟩) ∧ True := ⟨fun b o h => hbr.cell (p := ⟨b, o, none⟩) h, trivial⟩
      obtain ⟨wo, hwo⟩ : ∃ wo : World, wo = wr := ⟨_, rfl⟩
      subst hwo
      go_wp2
      go_loopw [8, 9, 10, 11, 63] (AccIn c el nl nh w1.heap.size w1 1099511627776 (-1099511627776) 1099511627776 (-1099511627776)) (fun _ _ _ _ i _ => 2 - (intOf i).toNat)
      case atStart => exact .inl ⟨rfl, rfl, rfl, rfl, rfl, hbr⟩
      case round =>
        rcases hrel with ⟨rfl, rfl, rfl, rfl, rfl, hbs⟩ | ⟨rfl, rfl, rfl, rfl, rfl, hbs⟩ | ⟨rfl, rfl, rfl, rfl, rfl, hbs⟩
        · go_wp2_with (go_at_call 19; refine (parts_two _ _ _ _ h0 h1 V1.out).mono ?_; rintro e w2 ⟨rfl, hb2⟩)
          go_roundw
          case rel => exact .inr (.inl ⟨vint (by omega), vint (by omega), vint (by omega), vint (by omega), rfl, hbs.trans (hb2.mono hbs.size)⟩)
          case measure => simp [intOf]
        · go_wp2_with (go_at_call 19; refine (parts_two _ _ _ _ h0 h1 V2.out).mono ?_; rintro e w2 ⟨rfl, hb2⟩)
          go_roundw
          case rel => exact .inr (.inr ⟨vint (by omega), vint (by omega), vint (by omega), vint (by omega), rfl, hbs.trans (hb2.mono hbs.size)⟩)
          case measure => simp [intOf]
        · go_wp2
          go_roundw
          case rel => exact .inr (.inl ⟨rfl, rfl, rfl, rfl, rfl, hbs⟩)
          case measure => simp [intOf]
    · obtain ⟨hcr, hfr⟩ : (∀ b o, b < w1.heap.size → wr.cell? ⟨b, o, none⟩ = w1.cell? ⟨b, o, none⟩) ∧ True := ⟨fun b o h => hbr.cell (p := ⟨b, o, none⟩) h, trivial⟩
      obtain ⟨wo, hwo⟩ : ∃ wo : World, wo = wr := ⟨_, rfl⟩
      subst hwo
      go_wp2
      go_loopw [8, 9, 10, 11, 63] (AccIn c eh nl nh w1.heap.size w1 (min (min 1099511627776 (alongI c el nl)) (alongI c el nh)) (max (max (-1099511627776) (alongI c el nl)) (alongI c el nh)) (min (min 1099511627776 (acrossI c el nl)) (acrossI c el nh)) (max (max (-1099511627776) (acrossI c el nl)) (acrossI c el nh))) (fun _ _ _ _ i _ => 2 - (intOf i).toNat)
      case atStart => exact .inl ⟨rfl, rfl, rfl, rfl, rfl, hbr⟩
      case round =>
        rcases hrel with ⟨rfl, rfl, rfl, rfl, rfl, hbs⟩ | ⟨rfl, rfl, rfl, rfl, rfl, hbs⟩ | ⟨rfl, rfl, rfl, rfl, rfl, hbs⟩
        · go_wp2_with (go_at_call 19; refine (parts_two _ _ _ _ h0 h1 V3.out).mono ?_; rintro e w2 ⟨rfl, hb2⟩)
          go_roundw
          case rel => exact .inr (.inl ⟨vint (by omega), vint (by omega), vint (by omega), vint (by omega), rfl, hbs.trans (hb2.mono hbs.size)⟩)
          case measure => simp [intOf]
        · go_wp2_with (go_at_call 19; refine (parts_two _ _ _ _ h0 h1 V4.out).mono ?_; rintro e w2 ⟨rfl, hb2⟩)
          go_roundw
          case rel => exact .inr (.inr ⟨vint (by omega), vint (by omega), vint (by omega), vint (by omega), rfl, hbs.trans (hb2.mono hbs.size)⟩)
          case measure => simp [intOf]
        · go_wp2
          go_roundw
          case rel => exact .inr (.inr ⟨(by rw [F0.out.1]), (by rw [F0.out.2.1]), (by rw [F0.out.2.2.1]), (by rw [F0.out.2.2.2]), rfl, hbs⟩)
          case measure => simp [intOf]
    · obtain ⟨hcr, hfr⟩ : (∀ b o, b < w1.heap.size → wr.cell? ⟨b, o, none⟩ = w1.cell? ⟨b, o, none⟩) ∧ (∀ b o, b < w1.heap.size → wr.frozen? ⟨b, o, none⟩ = w1.frozen? ⟨b, o, none⟩) := ⟨fun b o h => hbr.cell (p := ⟨b, o, none⟩) h, fun b o h => hbr.frozen (p := ⟨b, o, none⟩) h⟩
      obtain ⟨⟨a1, a2⟩, ⟨a3, a4⟩, ⟨a5, a6⟩, a7, a8⟩ := gi_bd (c := c) G0.out
      have hw := Lib.hid ((below_three hb).trans (hbr.mono (below_three hb).size))
      have hA := gi_A01 c el eh nl nh
      generalize giA0 c el eh nl nh = A0 at *
      generalize giA1 c el eh nl nh = A1 at *
      generalize giC0 c el eh nl nh = C0 at *
      generalize giC1 c el eh nl nh = C1 at *
      clear F0 V1 V2 V3 V4 i0 i1 j0 j1 hbr
      obtain ⟨r0, r1⟩ := far_bd a5 a6 a7 a8
      have q0 : wr.cell? ⟨w.heap.size + 1 + 1, 0, none⟩ = some (.int .i64 0) := (hcr _ _ hz2).trans ((hc _ _ (by simp)).trans (by rw [World.cell?_alloc_at _ _ _ _ (by simp)]; rfl))
      have q1 : wr.cell? ⟨w.heap.size + 1 + 1, 1, none⟩ = some (.int .i64 0) := (hcr _ _ hz2).trans ((hc _ _ (by simp)).trans (by rw [World.cell?_alloc_at _ _ _ _ (by simp)]; rfl))
      by_cases hn1 : C0 ≤ 0
      · have k1 : decide (C0 ≤ 0) = true := by simpa using hn1
        by_cases hn2 : 0 ≤ C1
        · have k2 : decide (0 ≤ C1) = true := by simpa using hn2
          have hN : nearI C0 C1 = 0 := by unfold nearI; rw [if_pos ⟨hn1, hn2⟩]
          obtain ⟨n0, n1⟩ := near_bd a5 a6 a7 a8
          rw [hN] at n0 n1
          have HN := Lib.hid hN
          clear hN
          unfold farI at *
          by_cases f1 : tl * 1024 ≤ max (absI C0) (absI C1)
          · go_wp2_with (go_at_call 55; refine (abs_any _ _ (by omega) (by omega)).mono ?_; rintro e w' ⟨rfl, rfl⟩)
            go_quiet (fail)
            go_wp2
            exact bodyPost_ret (v := .tuple #[.agg #[.int .i64 (0), .int .i64 (0)], .int .i64 10]) (by simp [results, Tryd.results17, go_sem, q0, q1]) rfl ⟨by unfold giEnd farI; rw [if_pos f1], below_res (below_drewN hw.out _)⟩
          · obtain ⟨m1, m2⟩ := sqle (x := max (absI C0) (absI C1)) (by omega) (by omega)
            obtain ⟨m3, m4⟩ := sqle (x := tl * 1024) (by omega) (by omega)
            obtain ⟨m5, m6⟩ := sqle (x := th * 1024) (by omega) (by omega)
            obtain ⟨m7, m8⟩ := sqle (x := 0) (by omega) (by omega)
            have m9 : 0 * 0 ≤ max (absI C0) (absI C1) * max (absI C0) (absI C1) := sq_le n0 n1
            have m10 : tl * 1024 * (tl * 1024) ≤ th * 1024 * (th * 1024) := sq_le (by omega) (by omega)
            obtain ⟨p1, p2⟩ := isq_4m (n := tl * 1024 * (tl * 1024) - max (absI C0) (absI C1) * max (absI C0) (absI C1)) (by omega)
            obtain ⟨p3, p4⟩ := isq_4m (n := th * 1024 * (th * 1024) - 0 * 0) (by omega)
            have p5 := isq_mono (m := tl * 1024 * (tl * 1024) - max (absI C0) (absI C1) * max (absI C0) (absI C1)) (n := th * 1024 * (th * 1024) - 0 * 0) (by omega) (by omega)
            simp only [Int.mul_zero, Int.sub_zero] at p3 p4 p5
            by_cases f2 : A0 + isq (tl * 1024 * (tl * 1024) - max (absI C0) (absI C1) * max (absI C0) (absI C1)) < 1024
            · go_wp2_with (go_at_call 55; refine (abs_any _ _ (by omega) (by omega)).mono ?_; rintro e w' ⟨rfl, rfl⟩)
              go_quiet (fail)
              go_wp2_with (go_at_call 40; refine (sqrt_any _ _ (by omega) (by omega)).mono ?_; rintro e w' ⟨rfl, rfl⟩)
              exact bodyPost_ret (v := .tuple #[.agg #[.int .i64 (0), .int .i64 (0)], .int .i64 10]) (by simp [results, Tryd.results17, go_sem, q0, q1]) rfl ⟨by unfold giEnd farI; rw [if_neg (by omega), if_pos f2], below_res (below_drewN hw.out _)⟩
            · go_wp2_with (go_at_call 55; refine (abs_any _ _ (by omega) (by omega)).mono ?_; rintro e w' ⟨rfl, rfl⟩)
              go_quiet (fail)
              go_wp2_with (go_at_call 40; refine (sqrt_any _ _ (by omega) (by omega)).mono ?_; rintro e w' ⟨rfl, rfl⟩)
              exact bodyPost_ret (v := .tuple #[.agg #[.int .i64 ((A0 + isq (tl * 1024 * (tl * 1024) - max (absI C0) (absI C1) * max (absI C0) (absI C1))) / 1024), .int .i64 ((A1 + isq (th * 1024 * (th * 1024)) + 1024 - 1) / 1024)], .int .i64 0]) (by simp [results, Tryd.results17, go_sem, q0, q1]) rfl ⟨by unfold giEnd farI; rw [if_neg (by omega), if_neg (by omega), HN.out]; simp, below_res (below_drewN hw.out _)⟩
        · have k2 : decide (0 ≤ C1) = false := by simpa using hn2
          have hN : nearI C0 C1 = min (absI C0) (absI C1) := by unfold nearI; rw [if_neg (fun h => hn2 h.2)]
          obtain ⟨n0, n1⟩ := near_bd a5 a6 a7 a8
          rw [hN] at n0 n1
          have HN := Lib.hid hN
          clear hN
          unfold farI at *
          by_cases f1 : tl * 1024 ≤ max (absI C0) (absI C1)
          · go_wp2_with (go_at_call 55; refine (abs_any _ _ (by omega) (by omega)).mono ?_; rintro e w' ⟨rfl, rfl⟩)
            go_quiet (fail)
            go_wp2
            exact bodyPost_ret (v := .tuple #[.agg #[.int .i64 (0), .int .i64 (0)], .int .i64 10]) (by simp [results, Tryd.results17, go_sem, q0, q1]) rfl ⟨by unfold giEnd farI; rw [if_pos f1], below_res (below_drewN hw.out _)⟩
          · obtain ⟨m1, m2⟩ := sqle (x := max (absI C0) (absI C1)) (by omega) (by omega)
            obtain ⟨m3, m4⟩ := sqle (x := tl * 1024) (by omega) (by omega)
            obtain ⟨m5, m6⟩ := sqle (x := th * 1024) (by omega) (by omega)
            obtain ⟨m7, m8⟩ := sqle (x := min (absI C0) (absI C1)) (by omega) (by omega)
            have m9 : min (absI C0) (absI C1) * min (absI C0) (absI C1) ≤ max (absI C0) (absI C1) * max (absI C0) (absI C1) := sq_le n0 n1
            have m10 : tl * 1024 * (tl * 1024) ≤ th * 1024 * (th * 1024) := sq_le (by omega) (by omega)
            obtain ⟨p1, p2⟩ := isq_4m (n := tl * 1024 * (tl * 1024) - max (absI C0) (absI C1) * max (absI C0) (absI C1)) (by omega)
            obtain ⟨p3, p4⟩ := isq_4m (n := th * 1024 * (th * 1024) - min (absI C0) (absI C1) * min (absI C0) (absI C1)) (by omega)
            have p5 := isq_mono (m := tl * 1024 * (tl * 1024) - max (absI C0) (absI C1) * max (absI C0) (absI C1)) (n := th * 1024 * (th * 1024) - min (absI C0) (absI C1) * min (absI C0) (absI C1)) (by omega) (by omega)
            by_cases f2 : A0 + isq (tl * 1024 * (tl * 1024) - max (absI C0) (absI C1) * max (absI C0) (absI C1)) < 1024
            · go_wp2_with (go_at_call 55; refine (abs_any _ _ (by omega) (by omega)).mono ?_; rintro e w' ⟨rfl, rfl⟩)
              go_quiet (fail)
              go_wp2_with (go_at_call 40; refine (sqrt_any _ _ (by omega) (by omega)).mono ?_; rintro e w' ⟨rfl, rfl⟩)
              exact bodyPost_ret (v := .tuple #[.agg #[.int .i64 (0), .int .i64 (0)], .int .i64 10]) (by simp [results, Tryd.results17, go_sem, q0, q1]) rfl ⟨by unfold giEnd farI; rw [if_neg (by omega), if_pos f2], below_res (below_drewN hw.out _)⟩
            · go_wp2_with (go_at_call 55; refine (abs_any _ _ (by omega) (by omega)).mono ?_; rintro e w' ⟨rfl, rfl⟩)
              go_quiet (fail)
              go_wp2_with (go_at_call 40; refine (sqrt_any _ _ (by omega) (by omega)).mono ?_; rintro e w' ⟨rfl, rfl⟩)
              exact bodyPost_ret (v := .tuple #[.agg #[.int .i64 ((A0 + isq (tl * 1024 * (tl * 1024) - max (absI C0) (absI C1) * max (absI C0) (absI C1))) / 1024), .int .i64 ((A1 + isq (th * 1024 * (th * 1024) - min (absI C0) (absI C1) * min (absI C0) (absI C1)) + 1024 - 1) / 1024)], .int .i64 0]) (by simp [results, Tryd.results17, go_sem, q0, q1]) rfl ⟨by unfold giEnd farI; rw [if_neg (by omega), if_neg (by omega), HN.out], below_res (below_drewN hw.out _)⟩
      · have k1 : decide (C0 ≤ 0) = false := by simpa using hn1
        have hN : nearI C0 C1 = min (absI C0) (absI C1) := by unfold nearI; rw [if_neg (fun h => hn1 h.1)]
        obtain ⟨n0, n1⟩ := near_bd a5 a6 a7 a8
        rw [hN] at n0 n1
        have HN := Lib.hid hN
        clear hN
        unfold farI at *
        by_cases f1 : tl * 1024 ≤ max (absI C0) (absI C1)
        · go_wp2_with (go_at_call 55; refine (abs_any _ _ (by omega) (by omega)).mono ?_; rintro e w' ⟨rfl, rfl⟩)
          go_quiet (fail)
          go_wp2
          exact bodyPost_ret (v := .tuple #[.agg #[.int .i64 (0), .int .i64 (0)], .int .i64 10]) (by simp [results, Tryd.results17, go_sem, q0, q1]) rfl ⟨by unfold giEnd farI; rw [if_pos f1], below_res (below_drewN hw.out _)⟩
        · obtain ⟨m1, m2⟩ := sqle (x := max (absI C0) (absI C1)) (by omega) (by omega)
          obtain ⟨m3, m4⟩ := sqle (x := tl * 1024) (by omega) (by omega)
          obtain ⟨m5, m6⟩ := sqle (x := th * 1024) (by omega) (by omega)
          obtain ⟨m7, m8⟩ := sqle (x := min (absI C0) (absI C1)) (by omega) (by omega)
          have m9 : min (absI C0) (absI C1) * min (absI C0) (absI C1) ≤ max (absI C0) (absI C1) * max (absI C0) (absI C1) := sq_le n0 n1
          have m10 : tl * 1024 * (tl * 1024) ≤ th * 1024 * (th * 1024) := sq_le (by omega) (by omega)
          obtain ⟨p1, p2⟩ := isq_4m (n := tl * 1024 * (tl * 1024) - max (absI C0) (absI C1) * max (absI C0) (absI C1)) (by omega)
          obtain ⟨p3, p4⟩ := isq_4m (n := th * 1024 * (th * 1024) - min (absI C0) (absI C1) * min (absI C0) (absI C1)) (by omega)
          have p5 := isq_mono (m := tl * 1024 * (tl * 1024) - max (absI C0) (absI C1) * max (absI C0) (absI C1)) (n := th * 1024 * (th * 1024) - min (absI C0) (absI C1) * min (absI C0) (absI C1)) (by omega) (by omega)
          by_cases f2 : A0 + isq (tl * 1024 * (tl * 1024) - max (absI C0) (absI C1) * max (absI C0) (absI C1)) < 1024
          · go_wp2_with (go_at_call 55; refine (abs_any _ _ (by omega) (by omega)).mono ?_; rintro e w' ⟨rfl, rfl⟩)
            go_quiet (fail)
            go_wp2_with (go_at_call 40; refine (sqrt_any _ _ (by omega) (by omega)).mono ?_; rintro e w' ⟨rfl, rfl⟩)
            exact bodyPost_ret (v := .tuple #[.agg #[.int .i64 (0), .int .i64 (0)], .int .i64 10]) (by simp [results, Tryd.results17, go_sem, q0, q1]) rfl ⟨by unfold giEnd farI; rw [if_neg (by omega), if_pos f2], below_res (below_drewN hw.out _)⟩
          · go_wp2_with (go_at_call 55; refine (abs_any _ _ (by omega) (by omega)).mono ?_; rintro e w' ⟨rfl, rfl⟩)
            go_quiet (fail)
            go_wp2_with (go_at_call 40; refine (sqrt_any _ _ (by omega) (by omega)).mono ?_; rintro e w' ⟨rfl, rfl⟩)
            exact bodyPost_ret (v := .tuple #[.agg #[.int .i64 ((A0 + isq (tl * 1024 * (tl * 1024) - max (absI C0) (absI C1) * max (absI C0) (absI C1))) / 1024), .int .i64 ((A1 + isq (th * 1024 * (th * 1024) - min (absI C0) (absI C1) * min (absI C0) (absI C1)) + 1024 - 1) / 1024)], .int .i64 0]) (by simp [results, Tryd.results17, go_sem, q0, q1]) rfl ⟨by unfold giEnd farI; rw [if_neg (by omega), if_neg (by omega), HN.out], below_res (below_drewN hw.out _)⟩

theorem groundin_any (c tl th el eh nl nh : Int) (w : World) (h0 : -9223372036854775808 ≤ c) (h1 : c ≤ 9223372036854775807) :
    Calls Tryd.prog 17 #[.int .i64 c, .agg #[.int .i64 tl, .int .i64 th], .agg #[.int .i64 el, .int .i64 eh, .int .i64 nl, .int .i64 nh]] w (RetI (groundInF c tl th el eh nl nh) w) := by
  by_cases h : giOk tl th el eh nl nh
  · unfold groundInF
    rw [if_pos h]
    exact groundin_good c tl th el eh nl nh w h0 h1 h.1 h.2.1 h.2.2.1 h.2.2.2
  · unfold groundInF
    rw [if_neg h]
    exact groundin_bad c tl th el eh nl nh w h
end Go.Proofs.YtdfpbojlimeccaaDoor
