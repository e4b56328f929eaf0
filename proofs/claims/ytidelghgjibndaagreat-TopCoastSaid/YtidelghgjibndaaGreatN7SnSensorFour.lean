/-
  Of the text SnSensorFour: what is wanted here.
-/
import Derived.Test.YtidelghgjibndaaGreatN7SnSensorThree
namespace Go.Proofs.YtidelghgjibndaaGreat.S41
set_option linter.unusedVariables false
open Go.RowKit Tr Sq
theorem absI_bd {x k : Int} (h0 : -k ≤ x) (h1 : x ≤ k) : 0 ≤ absI x ∧ absI x ≤ k := by unfold absI; split <;> omega
set_option maxHeartbeats 8000000 in
set_option maxRecDepth 100000 in
theorem agrees_any (s k x y v b wt t px py : Int) (w : World) (k0 : 0 ≤ k) (k1 : k ≤ 255) : Calls Tryz.prog 23 #[.agg #[.int .i64 s, .int .u8 k, .int .i64 x, .int .i64 y, .int .i64 v, .int .i64 b, .int .i64 wt, .int .i64 t], .agg #[.int .i64 px, .int .i64 py]] w fun e w' => e = .returned (.bool (agrB s k x y v b wt t px py)) ∧ Below w.heap.size w w' := by
  have C1 := Lib.hid (fun w => check_any s k x y v b wt t w k0 k1)
  have P1 := Lib.hid (fun w => pvalid_any px py w)
  rcases check_err s k x y v b wt t with hk | hk | hk
  rotate_left
  · have E := Lib.hid (show agrB s k x y v b wt t px py = false by unfold agrB; rw [hk]; rfl)
    rw [hk] at C1
    clear hk
    go_enter Tryz.func23, Tryz.ntmps23
    go_wp2_with fail
    refine (C1.out _).mono ?_
    rintro e w1 ⟨rfl, hb⟩
    obtain ⟨hc, hf⟩ := bcell hb
    have hA : Below w.heap.size w w1 := (((Below.refl _ _).alloc (Nat.le_refl _) _).alloc (by simp) _).trans (hb.mono (by simp; omega))
    go_wp2
    go_ret
    exact ⟨ret_bool E.out.symm, hA⟩
  · have E := Lib.hid (show agrB s k x y v b wt t px py = false by unfold agrB; rw [hk]; rfl)
    rw [hk] at C1
    clear hk
    go_enter Tryz.func23, Tryz.ntmps23
    go_wp2_with fail
    refine (C1.out _).mono ?_
    rintro e w1 ⟨rfl, hb⟩
    obtain ⟨hc, hf⟩ := bcell hb
    have hA : Below w.heap.size w w1 := (((Below.refl _ _).alloc (Nat.le_refl _) _).alloc (by simp) _).trans (hb.mono (by simp; omega))
    go_wp2
    go_ret
    exact ⟨ret_bool E.out.symm, hA⟩
  obtain ⟨⟨s0, s1⟩, hkk, ⟨x0, x1, y0, y1⟩, ⟨v0, v1⟩, ⟨b0, b1⟩, ⟨g0, g1⟩, t0, t1⟩ := check_bd hk
  cases hp : pvB px py with
  | false =>
    have E := Lib.hid (show agrB s k x y v b wt t px py = false by unfold agrB; rw [hk, hp]; rfl)
    rw [hk] at C1
    rw [hp] at P1
    clear hk hp
    go_enter Tryz.func23, Tryz.ntmps23
    go_wp2_with fail
    refine (C1.out _).mono ?_
    rintro e w1 ⟨rfl, hb⟩
    obtain ⟨hc, hf⟩ := bcell hb
    have hA : Below w.heap.size w w1 := (((Below.refl _ _).alloc (Nat.le_refl _) _).alloc (by simp) _).trans (hb.mono (by simp; omega))
    go_wp2_with fail
    refine (P1.out _).mono ?_
    rintro e w2 ⟨rfl, hb2⟩
    go_wp2
    go_ret
    exact ⟨ret_bool E.out.symm, hA.trans (hb2.mono hA.size)⟩
  | true =>
    obtain ⟨p0, p1, p2, p3⟩ := pvB_iff.1 hp
    rw [hk] at C1
    rw [hp] at P1
    have hpp : (pvB x y && pvB px py) = true := by rw [hp, pvB_iff.2 ⟨x0, x1, y0, y1⟩]; rfl
    have hC : agrB s k x y v b wt t px py = (if k = 1 then agrP x y b px py else if k = 2 then agrR x y v b px py else agrC x y v b px py) := by unfold agrB; rw [hk, hp]; rfl
    have HC := Lib.hid hC
    clear hC hp
    obtain ⟨e1, e2, e3, e4, e5, e6⟩ := d2_bd hpp
    rcases hkk with rfl | rfl | rfl
    · obtain ⟨a0, a1⟩ := absI_bd (x := px - x) (k := 4000000) (by omega) (by omega)
      obtain ⟨a2, a3⟩ := absI_bd (x := py - y) (k := 4000000) (by omega) (by omega)
      by_cases n1 : absI (px - x) ≤ b
      · by_cases n2 : absI (py - y) ≤ b
        · have E := Lib.hid (show agrB s 1 x y v b wt t px py = true by rw [HC.out, if_pos rfl]; unfold agrP; simp [n1, n2])
          have m1 : decide (absI (px - x) ≤ b) = true := by simpa using n1
          have m2 : decide (absI (py - y) ≤ b) = true := by simpa using n2
          clear e1 e2 e3 e4 e5 e6
          go_enter Tryz.func23, Tryz.ntmps23
          go_wp2_with fail
          refine (C1.out _).mono ?_
          rintro e w1 ⟨rfl, hb⟩
          obtain ⟨hc, hf⟩ := bcell hb
          have hA : Below w.heap.size w w1 := (((Below.refl _ _).alloc (Nat.le_refl _) _).alloc (by simp) _).trans (hb.mono (by simp; omega))
          have hz0 : w.heap.size < w1.heap.size := by have := hb.size; simp at this; omega
          have hz1 : w.heap.size + 1 < w1.heap.size := by have := hb.size; simp at this; omega
          have q0 : w1.cell? ⟨w.heap.size, 0, none⟩ = some (.int .i64 s) := (hc _ _ (by simp; omega)).trans (by go_simp)
          have q1 : w1.cell? ⟨w.heap.size, 1, none⟩ = some (.int .u8 1) := (hc _ _ (by simp; omega)).trans (by go_simp)
          have q2 : w1.cell? ⟨w.heap.size, 2, none⟩ = some (.int .i64 x) := (hc _ _ (by simp; omega)).trans (by go_simp)
          have q3 : w1.cell? ⟨w.heap.size, 3, none⟩ = some (.int .i64 y) := (hc _ _ (by simp; omega)).trans (by go_simp)
          have q4 : w1.cell? ⟨w.heap.size, 4, none⟩ = some (.int .i64 v) := (hc _ _ (by simp; omega)).trans (by go_simp)
          have q5 : w1.cell? ⟨w.heap.size, 5, none⟩ = some (.int .i64 b) := (hc _ _ (by simp; omega)).trans (by go_simp)
          have q6 : w1.cell? ⟨w.heap.size, 6, none⟩ = some (.int .i64 wt) := (hc _ _ (by simp; omega)).trans (by go_simp)
          have q7 : w1.cell? ⟨w.heap.size, 7, none⟩ = some (.int .i64 t) := (hc _ _ (by simp; omega)).trans (by go_simp)
          have r0 : w1.cell? ⟨w.heap.size + 1, 0, none⟩ = some (.int .i64 px) := (hc _ _ (by simp)).trans (by go_simp)
          have r1 : w1.cell? ⟨w.heap.size + 1, 1, none⟩ = some (.int .i64 py) := (hc _ _ (by simp)).trans (by go_simp)
          clear hc hf
          go_wp2_with fail
          refine (P1.out _).mono ?_
          rintro e w2 ⟨rfl, hb2⟩
          have c0 := (hb2.cell (p := ⟨w.heap.size, 0, none⟩) hz0).trans q0
          have c1 := (hb2.cell (p := ⟨w.heap.size, 1, none⟩) hz0).trans q1
          have c2 := (hb2.cell (p := ⟨w.heap.size, 2, none⟩) hz0).trans q2
          have c3 := (hb2.cell (p := ⟨w.heap.size, 3, none⟩) hz0).trans q3
          have c4 := (hb2.cell (p := ⟨w.heap.size, 4, none⟩) hz0).trans q4
          have c5 := (hb2.cell (p := ⟨w.heap.size, 5, none⟩) hz0).trans q5
          have c6 := (hb2.cell (p := ⟨w.heap.size, 6, none⟩) hz0).trans q6
          have c7 := (hb2.cell (p := ⟨w.heap.size, 7, none⟩) hz0).trans q7
          have d0 := (hb2.cell (p := ⟨w.heap.size + 1, 0, none⟩) hz1).trans r0
          have d1 := (hb2.cell (p := ⟨w.heap.size + 1, 1, none⟩) hz1).trans r1
          have hz2 : w.heap.size < w2.heap.size := Nat.lt_of_lt_of_le hz0 hb2.size
          have hz3 : w.heap.size + 1 < w2.heap.size := Nat.lt_of_lt_of_le hz1 hb2.size
          have hB := Lib.hid (hA.trans (hb2.mono hA.size))
          clear hb hA hb2 hz0 hz1 q0 q1 q2 q3 q4 q5 q6 q7 r0 r1
          go_wp2_with fail
          go_quiet (fail)
          go_wp2_with fail
          go_quiet ((go_at_call 43; exact quiet_add_left (abs_any _ _ (by omega) (by omega))))
          go_wp2
          go_ret
          exact ⟨ret_bool E.out.symm, below_drewN (below_drewN hB.out _) _⟩
        · have E := Lib.hid (show agrB s 1 x y v b wt t px py = false by rw [HC.out, if_pos rfl]; unfold agrP; simp [n1, n2])
          have m1 : decide (absI (px - x) ≤ b) = true := by simpa using n1
          have m2 : decide (absI (py - y) ≤ b) = false := by simpa using n2
          clear e1 e2 e3 e4 e5 e6
          go_enter Tryz.func23, Tryz.ntmps23
          go_wp2_with fail
          refine (C1.out _).mono ?_
          rintro e w1 ⟨rfl, hb⟩
          obtain ⟨hc, hf⟩ := bcell hb
          have hA : Below w.heap.size w w1 := (((Below.refl _ _).alloc (Nat.le_refl _) _).alloc (by simp) _).trans (hb.mono (by simp; omega))
          have hz0 : w.heap.size < w1.heap.size := by have := hb.size; simp at this; omega
          have hz1 : w.heap.size + 1 < w1.heap.size := by have := hb.size; simp at this; omega
          have q0 : w1.cell? ⟨w.heap.size, 0, none⟩ = some (.int .i64 s) := (hc _ _ (by simp; omega)).trans (by go_simp)
          have q1 : w1.cell? ⟨w.heap.size, 1, none⟩ = some (.int .u8 1) := (hc _ _ (by simp; omega)).trans (by go_simp)
          have q2 : w1.cell? ⟨w.heap.size, 2, none⟩ = some (.int .i64 x) := (hc _ _ (by simp; omega)).trans (by go_simp)
          have q3 : w1.cell? ⟨w.heap.size, 3, none⟩ = some (.int .i64 y) := (hc _ _ (by simp; omega)).trans (by go_simp)
          have q4 : w1.cell? ⟨w.heap.size, 4, none⟩ = some (.int .i64 v) := (hc _ _ (by simp; omega)).trans (by go_simp)
          have q5 : w1.cell? ⟨w.heap.size, 5, none⟩ = some (.int .i64 b) := (hc _ _ (by simp; omega)).trans (by go_simp)
          have q6 : w1.cell? ⟨w.heap.size, 6, none⟩ = some (.int .i64 wt) := (hc _ _ (by simp; omega)).trans (by go_simp)
          have q7 : w1.cell? ⟨w.heap.size, 7, none⟩ = some (.int .i64 t) := (hc _ _ (by simp; omega)).trans (by go_simp)
          have r0 : w1.cell? ⟨w.heap.size + 1, 0, none⟩ = some (.int .i64 px) := (hc _ _ (by simp)).trans (by go_simp)
          have r1 : w1.cell? ⟨w.heap.size + 1, 1, none⟩ = some (.int .i64 py) := (hc _ _ (by simp)).trans (by go_simp)
          clear hc hf
          go_wp2_with fail
          refine (P1.out _).mono ?_
          rintro e w2 ⟨rfl, hb2⟩
          have c0 := (hb2.cell (p := ⟨w.heap.size, 0, none⟩) hz0).trans q0
          have c1 := (hb2.cell (p := ⟨w.heap.size, 1, none⟩) hz0).trans q1
          have c2 := (hb2.cell (p := ⟨w.heap.size, 2, none⟩) hz0).trans q2
          have c3 := (hb2.cell (p := ⟨w.heap.size, 3, none⟩) hz0).trans q3
          have c4 := (hb2.cell (p := ⟨w.heap.size, 4, none⟩) hz0).trans q4
          have c5 := (hb2.cell (p := ⟨w.heap.size, 5, none⟩) hz0).trans q5
          have c6 := (hb2.cell (p := ⟨w.heap.size, 6, none⟩) hz0).trans q6
          have c7 := (hb2.cell (p := ⟨w.heap.size, 7, none⟩) hz0).trans q7
          have d0 := (hb2.cell (p := ⟨w.heap.size + 1, 0, none⟩) hz1).trans r0
          have d1 := (hb2.cell (p := ⟨w.heap.size + 1, 1, none⟩) hz1).trans r1
          have hz2 : w.heap.size < w2.heap.size := Nat.lt_of_lt_of_le hz0 hb2.size
          have hz3 : w.heap.size + 1 < w2.heap.size := Nat.lt_of_lt_of_le hz1 hb2.size
          have hB := Lib.hid (hA.trans (hb2.mono hA.size))
          clear hb hA hb2 hz0 hz1 q0 q1 q2 q3 q4 q5 q6 q7 r0 r1
          go_wp2_with fail
          go_quiet (fail)
          go_wp2_with fail
          go_quiet ((go_at_call 43; exact quiet_add_left (abs_any _ _ (by omega) (by omega))))
          go_wp2
          go_ret
          exact ⟨ret_bool E.out.symm, below_drewN (below_drewN hB.out _) _⟩
      · have E := Lib.hid (show agrB s 1 x y v b wt t px py = false by rw [HC.out, if_pos rfl]; unfold agrP; simp [n1])
        have m1 : decide (absI (px - x) ≤ b) = false := by simpa using n1
        clear e1 e2 e3 e4 e5 e6
        go_enter Tryz.func23, Tryz.ntmps23
        go_wp2_with fail
        refine (C1.out _).mono ?_
        rintro e w1 ⟨rfl, hb⟩
        obtain ⟨hc, hf⟩ := bcell hb
        have hA : Below w.heap.size w w1 := (((Below.refl _ _).alloc (Nat.le_refl _) _).alloc (by simp) _).trans (hb.mono (by simp; omega))
        have hz0 : w.heap.size < w1.heap.size := by have := hb.size; simp at this; omega
        have hz1 : w.heap.size + 1 < w1.heap.size := by have := hb.size; simp at this; omega
        have q0 : w1.cell? ⟨w.heap.size, 0, none⟩ = some (.int .i64 s) := (hc _ _ (by simp; omega)).trans (by go_simp)
        have q1 : w1.cell? ⟨w.heap.size, 1, none⟩ = some (.int .u8 1) := (hc _ _ (by simp; omega)).trans (by go_simp)
        have q2 : w1.cell? ⟨w.heap.size, 2, none⟩ = some (.int .i64 x) := (hc _ _ (by simp; omega)).trans (by go_simp)
        have q3 : w1.cell? ⟨w.heap.size, 3, none⟩ = some (.int .i64 y) := (hc _ _ (by simp; omega)).trans (by go_simp)
        have q4 : w1.cell? ⟨w.heap.size, 4, none⟩ = some (.int .i64 v) := (hc _ _ (by simp; omega)).trans (by go_simp)
        have q5 : w1.cell? ⟨w.heap.size, 5, none⟩ = some (.int .i64 b) := (hc _ _ (by simp; omega)).trans (by go_simp)
        have q6 : w1.cell? ⟨w.heap.size, 6, none⟩ = some (.int .i64 wt) := (hc _ _ (by simp; omega)).trans (by go_simp)
        have q7 : w1.cell? ⟨w.heap.size, 7, none⟩ = some (.int .i64 t) := (hc _ _ (by simp; omega)).trans (by go_simp)
        have r0 : w1.cell? ⟨w.heap.size + 1, 0, none⟩ = some (.int .i64 px) := (hc _ _ (by simp)).trans (by go_simp)
        have r1 : w1.cell? ⟨w.heap.size + 1, 1, none⟩ = some (.int .i64 py) := (hc _ _ (by simp)).trans (by go_simp)
        clear hc hf
        go_wp2_with fail
        refine (P1.out _).mono ?_
        rintro e w2 ⟨rfl, hb2⟩
        have c0 := (hb2.cell (p := ⟨w.heap.size, 0, none⟩) hz0).trans q0
        have c1 := (hb2.cell (p := ⟨w.heap.size, 1, none⟩) hz0).trans q1
        have c2 := (hb2.cell (p := ⟨w.heap.size, 2, none⟩) hz0).trans q2
        have c3 := (hb2.cell (p := ⟨w.heap.size, 3, none⟩) hz0).trans q3
        have c4 := (hb2.cell (p := ⟨w.heap.size, 4, none⟩) hz0).trans q4
        have c5 := (hb2.cell (p := ⟨w.heap.size, 5, none⟩) hz0).trans q5
        have c6 := (hb2.cell (p := ⟨w.heap.size, 6, none⟩) hz0).trans q6
        have c7 := (hb2.cell (p := ⟨w.heap.size, 7, none⟩) hz0).trans q7
        have d0 := (hb2.cell (p := ⟨w.heap.size + 1, 0, none⟩) hz1).trans r0
        have d1 := (hb2.cell (p := ⟨w.heap.size + 1, 1, none⟩) hz1).trans r1
        have hz2 : w.heap.size < w2.heap.size := Nat.lt_of_lt_of_le hz0 hb2.size
        have hz3 : w.heap.size + 1 < w2.heap.size := Nat.lt_of_lt_of_le hz1 hb2.size
        have hB := Lib.hid (hA.trans (hb2.mono hA.size))
        clear hb hA hb2 hz0 hz1 q0 q1 q2 q3 q4 q5 q6 q7 r0 r1
        go_wp2_with fail
        go_quiet (fail)
        go_wp2_with fail
        go_quiet ((go_at_call 43; exact quiet_add_left (abs_any _ _ (by omega) (by omega))))
        go_wp2
        go_ret
        exact ⟨ret_bool E.out.symm, below_drewN (below_drewN hB.out _) _⟩
    · have HP := Lib.hid hpp
      by_cases n1 : d2 x y px py ≤ (v + b) * (v + b)
      · by_cases n2 : v - b ≤ 0
        · have E := Lib.hid (show agrB s 2 x y v b wt t px py = true by rw [HC.out, if_neg (by decide), if_pos rfl]; unfold agrR; simp [n1, n2])
          unfold d2 at *
          have m1 : decide ((px - x) * (px - x) + (py - y) * (py - y) ≤ (v + b) * (v + b)) = true := by simpa using n1
          have m2 : decide (v ≤ b) = true := by simp; omega
          have m2' : decide (v - b ≤ 0) = true := by simp; omega
          clear n1 n2
          go_enter Tryz.func23, Tryz.ntmps23
          go_wp2_with fail
          refine (C1.out _).mono ?_
          rintro e w1 ⟨rfl, hb⟩
          obtain ⟨hc, hf⟩ := bcell hb
          have hA : Below w.heap.size w w1 := (((Below.refl _ _).alloc (Nat.le_refl _) _).alloc (by simp) _).trans (hb.mono (by simp; omega))
          have hz0 : w.heap.size < w1.heap.size := by have := hb.size; simp at this; omega
          have hz1 : w.heap.size + 1 < w1.heap.size := by have := hb.size; simp at this; omega
          have q0 : w1.cell? ⟨w.heap.size, 0, none⟩ = some (.int .i64 s) := (hc _ _ (by simp; omega)).trans (by go_simp)
          have q1 : w1.cell? ⟨w.heap.size, 1, none⟩ = some (.int .u8 2) := (hc _ _ (by simp; omega)).trans (by go_simp)
          have q2 : w1.cell? ⟨w.heap.size, 2, none⟩ = some (.int .i64 x) := (hc _ _ (by simp; omega)).trans (by go_simp)
          have q3 : w1.cell? ⟨w.heap.size, 3, none⟩ = some (.int .i64 y) := (hc _ _ (by simp; omega)).trans (by go_simp)
          have q4 : w1.cell? ⟨w.heap.size, 4, none⟩ = some (.int .i64 v) := (hc _ _ (by simp; omega)).trans (by go_simp)
          have q5 : w1.cell? ⟨w.heap.size, 5, none⟩ = some (.int .i64 b) := (hc _ _ (by simp; omega)).trans (by go_simp)
          have q6 : w1.cell? ⟨w.heap.size, 6, none⟩ = some (.int .i64 wt) := (hc _ _ (by simp; omega)).trans (by go_simp)
          have q7 : w1.cell? ⟨w.heap.size, 7, none⟩ = some (.int .i64 t) := (hc _ _ (by simp; omega)).trans (by go_simp)
          have r0 : w1.cell? ⟨w.heap.size + 1, 0, none⟩ = some (.int .i64 px) := (hc _ _ (by simp)).trans (by go_simp)
          have r1 : w1.cell? ⟨w.heap.size + 1, 1, none⟩ = some (.int .i64 py) := (hc _ _ (by simp)).trans (by go_simp)
          clear hc hf
          go_wp2_with fail
          refine (P1.out _).mono ?_
          rintro e w2 ⟨rfl, hb2⟩
          have c0 := (hb2.cell (p := ⟨w.heap.size, 0, none⟩) hz0).trans q0
          have c1 := (hb2.cell (p := ⟨w.heap.size, 1, none⟩) hz0).trans q1
          have c2 := (hb2.cell (p := ⟨w.heap.size, 2, none⟩) hz0).trans q2
          have c3 := (hb2.cell (p := ⟨w.heap.size, 3, none⟩) hz0).trans q3
          have c4 := (hb2.cell (p := ⟨w.heap.size, 4, none⟩) hz0).trans q4
          have c5 := (hb2.cell (p := ⟨w.heap.size, 5, none⟩) hz0).trans q5
          have c6 := (hb2.cell (p := ⟨w.heap.size, 6, none⟩) hz0).trans q6
          have c7 := (hb2.cell (p := ⟨w.heap.size, 7, none⟩) hz0).trans q7
          have d0 := (hb2.cell (p := ⟨w.heap.size + 1, 0, none⟩) hz1).trans r0
          have d1 := (hb2.cell (p := ⟨w.heap.size + 1, 1, none⟩) hz1).trans r1
          have hz2 : w.heap.size < w2.heap.size := Nat.lt_of_lt_of_le hz0 hb2.size
          have hz3 : w.heap.size + 1 < w2.heap.size := Nat.lt_of_lt_of_le hz1 hb2.size
          have hB := Lib.hid (hA.trans (hb2.mono hA.size))
          clear hb hA hb2 hz0 hz1 q0 q1 q2 q3 q4 q5 q6 q7 r0 r1
          obtain ⟨f0, f1⟩ := sq_bd (x := v + b) (k := 200000000) (by omega) (by omega)
          obtain ⟨f2, f3⟩ := sq_bd (x := v - b) (k := 200000000) (by omega) (by omega)
          go_wp2_with fail
          go_quiet (fail)
          go_wp2_with fail
          go_quiet (fail)
          go_wp2
          go_ret
          exact ⟨ret_bool E.out.symm, below_drewN hB.out _⟩
        · by_cases n3 : (v - b) * (v - b) ≤ d2 x y px py
          · have E := Lib.hid (show agrB s 2 x y v b wt t px py = true by rw [HC.out, if_neg (by decide), if_pos rfl]; unfold agrR; simp [n1, n2, n3])
            unfold d2 at *
            have m1 : decide ((px - x) * (px - x) + (py - y) * (py - y) ≤ (v + b) * (v + b)) = true := by simpa using n1
            have m2 : decide (v ≤ b) = false := by simp; omega
            have m2' : decide (v - b ≤ 0) = false := by simp; omega
            have m3 : decide ((v - b) * (v - b) ≤ (px - x) * (px - x) + (py - y) * (py - y)) = true := by simpa using n3
            clear n1 n2 n3
            go_enter Tryz.func23, Tryz.ntmps23
            go_wp2_with fail
            refine (C1.out _).mono ?_
            rintro e w1 ⟨rfl, hb⟩
            obtain ⟨hc, hf⟩ := bcell hb
            have hA : Below w.heap.size w w1 := (((Below.refl _ _).alloc (Nat.le_refl _) _).alloc (by simp) _).trans (hb.mono (by simp; omega))
            have hz0 : w.heap.size < w1.heap.size := by have := hb.size; simp at this; omega
            have hz1 : w.heap.size + 1 < w1.heap.size := by have := hb.size; simp at this; omega
            have q0 : w1.cell? ⟨w.heap.size, 0, none⟩ = some (.int .i64 s) := (hc _ _ (by simp; omega)).trans (by go_simp)
            have q1 : w1.cell? ⟨w.heap.size, 1, none⟩ = some (.int .u8 2) := (hc _ _ (by simp; omega)).trans (by go_simp)
            have q2 : w1.cell? ⟨w.heap.size, 2, none⟩ = some (.int .i64 x) := (hc _ _ (by simp; omega)).trans (by go_simp)
            have q3 : w1.cell? ⟨w.heap.size, 3, none⟩ = some (.int .i64 y) := (hc _ _ (by simp; omega)).trans (by go_simp)
            have q4 : w1.cell? ⟨w.heap.size, 4, none⟩ = some (.int .i64 v) := (hc _ _ (by simp; omega)).trans (by go_simp)
            have q5 : w1.cell? ⟨w.heap.size, 5, none⟩ = some (.int .i64 b) := (hc _ _ (by simp; omega)).trans (by go_simp)
            have q6 : w1.cell? ⟨w.heap.size, 6, none⟩ = some (.int .i64 wt) := (hc _ _ (by simp; omega)).trans (by go_simp)
            have q7 : w1.cell? ⟨w.heap.size, 7, none⟩ = some (.int .i64 t) := (hc _ _ (by simp; omega)).trans (by go_simp)
            have r0 : w1.cell? ⟨w.heap.size + 1, 0, none⟩ = some (.int .i64 px) := (hc _ _ (by simp)).trans (by go_simp)
            have r1 : w1.cell? ⟨w.heap.size + 1, 1, none⟩ = some (.int .i64 py) := (hc _ _ (by simp)).trans (by go_simp)
            clear hc hf
            go_wp2_with fail
            refine (P1.out _).mono ?_
            rintro e w2 ⟨rfl, hb2⟩
            have c0 := (hb2.cell (p := ⟨w.heap.size, 0, none⟩) hz0).trans q0
            have c1 := (hb2.cell (p := ⟨w.heap.size, 1, none⟩) hz0).trans q1
            have c2 := (hb2.cell (p := ⟨w.heap.size, 2, none⟩) hz0).trans q2
            have c3 := (hb2.cell (p := ⟨w.heap.size, 3, none⟩) hz0).trans q3
            have c4 := (hb2.cell (p := ⟨w.heap.size, 4, none⟩) hz0).trans q4
            have c5 := (hb2.cell (p := ⟨w.heap.size, 5, none⟩) hz0).trans q5
            have c6 := (hb2.cell (p := ⟨w.heap.size, 6, none⟩) hz0).trans q6
            have c7 := (hb2.cell (p := ⟨w.heap.size, 7, none⟩) hz0).trans q7
            have d0 := (hb2.cell (p := ⟨w.heap.size + 1, 0, none⟩) hz1).trans r0
            have d1 := (hb2.cell (p := ⟨w.heap.size + 1, 1, none⟩) hz1).trans r1
            have hz2 : w.heap.size < w2.heap.size := Nat.lt_of_lt_of_le hz0 hb2.size
            have hz3 : w.heap.size + 1 < w2.heap.size := Nat.lt_of_lt_of_le hz1 hb2.size
            have hB := Lib.hid (hA.trans (hb2.mono hA.size))
            clear hb hA hb2 hz0 hz1 q0 q1 q2 q3 q4 q5 q6 q7 r0 r1
            obtain ⟨f0, f1⟩ := sq_bd (x := v + b) (k := 200000000) (by omega) (by omega)
            obtain ⟨f2, f3⟩ := sq_bd (x := v - b) (k := 200000000) (by omega) (by omega)
            go_wp2_with fail
            go_quiet (fail)
            go_wp2_with fail
            go_quiet (fail)
            go_wp2
            go_ret
            exact ⟨ret_bool E.out.symm, below_drewN hB.out _⟩
          · have E := Lib.hid (show agrB s 2 x y v b wt t px py = false by rw [HC.out, if_neg (by decide), if_pos rfl]; unfold agrR; simp [n1, n2, n3])
            unfold d2 at *
            have m1 : decide ((px - x) * (px - x) + (py - y) * (py - y) ≤ (v + b) * (v + b)) = true := by simpa using n1
            have m2 : decide (v ≤ b) = false := by simp; omega
            have m2' : decide (v - b ≤ 0) = false := by simp; omega
            have m3 : decide ((v - b) * (v - b) ≤ (px - x) * (px - x) + (py - y) * (py - y)) = false := by simpa using n3
            clear n1 n2 n3
            go_enter Tryz.func23, Tryz.ntmps23
            go_wp2_with fail
            refine (C1.out _).mono ?_
            rintro e w1 ⟨rfl, hb⟩
            obtain ⟨hc, hf⟩ := bcell hb
            have hA : Below w.heap.size w w1 := (((Below.refl _ _).alloc (Nat.le_refl _) _).alloc (by simp) _).trans (hb.mono (by simp; omega))
            have hz0 : w.heap.size < w1.heap.size := by have := hb.size; simp at this; omega
            have hz1 : w.heap.size + 1 < w1.heap.size := by have := hb.size; simp at this; omega
            have q0 : w1.cell? ⟨w.heap.size, 0, none⟩ = some (.int .i64 s) := (hc _ _ (by simp; omega)).trans (by go_simp)
            have q1 : w1.cell? ⟨w.heap.size, 1, none⟩ = some (.int .u8 2) := (hc _ _ (by simp; omega)).trans (by go_simp)
            have q2 : w1.cell? ⟨w.heap.size, 2, none⟩ = some (.int .i64 x) := (hc _ _ (by simp; omega)).trans (by go_simp)
            have q3 : w1.cell? ⟨w.heap.size, 3, none⟩ = some (.int .i64 y) := (hc _ _ (by simp; omega)).trans (by go_simp)
            have q4 : w1.cell? ⟨w.heap.size, 4, none⟩ = some (.int .i64 v) := (hc _ _ (by simp; omega)).trans (by go_simp)
            have q5 : w1.cell? ⟨w.heap.size, 5, none⟩ = some (.int .i64 b) := (hc _ _ (by simp; omega)).trans (by go_simp)
            have q6 : w1.cell? ⟨w.heap.size, 6, none⟩ = some (.int .i64 wt) := (hc _ _ (by simp; omega)).trans (by go_simp)
            have q7 : w1.cell? ⟨w.heap.size, 7, none⟩ = some (.int .i64 t) := (hc _ _ (by simp; omega)).trans (by go_simp)
            have r0 : w1.cell? ⟨w.heap.size + 1, 0, none⟩ = some (.int .i64 px) := (hc _ _ (by simp)).trans (by go_simp)
            have r1 : w1.cell? ⟨w.heap.size + 1, 1, none⟩ = some (.int .i64 py) := (hc _ _ (by simp)).trans (by go_simp)
            clear hc hf
            go_wp2_with fail
            refine (P1.out _).mono ?_
            rintro e w2 ⟨rfl, hb2⟩
            have c0 := (hb2.cell (p := ⟨w.heap.size, 0, none⟩) hz0).trans q0
            have c1 := (hb2.cell (p := ⟨w.heap.size, 1, none⟩) hz0).trans q1
            have c2 := (hb2.cell (p := ⟨w.heap.size, 2, none⟩) hz0).trans q2
            have c3 := (hb2.cell (p := ⟨w.heap.size, 3, none⟩) hz0).trans q3
            have c4 := (hb2.cell (p := ⟨w.heap.size, 4, none⟩) hz0).trans q4
            have c5 := (hb2.cell (p := ⟨w.heap.size, 5, none⟩) hz0).trans q5
            have c6 := (hb2.cell (p := ⟨w.heap.size, 6, none⟩) hz0).trans q6
            have c7 := (hb2.cell (p := ⟨w.heap.size, 7, none⟩) hz0).trans q7
            have d0 := (hb2.cell (p := ⟨w.heap.size + 1, 0, none⟩) hz1).trans r0
            have d1 := (hb2.cell (p := ⟨w.heap.size + 1, 1, none⟩) hz1).trans r1
            have hz2 : w.heap.size < w2.heap.size := Nat.lt_of_lt_of_le hz0 hb2.size
            have hz3 : w.heap.size + 1 < w2.heap.size := Nat.lt_of_lt_of_le hz1 hb2.size
            have hB := Lib.hid (hA.trans (hb2.mono hA.size))
            clear hb hA hb2 hz0 hz1 q0 q1 q2 q3 q4 q5 q6 q7 r0 r1
            obtain ⟨f0, f1⟩ := sq_bd (x := v + b) (k := 200000000) (by omega) (by omega)
            obtain ⟨f2, f3⟩ := sq_bd (x := v - b) (k := 200000000) (by omega) (by omega)
            go_wp2_with fail
            go_quiet (fail)
            go_wp2_with fail
            go_quiet (fail)
            go_wp2
            go_ret
            exact ⟨ret_bool E.out.symm, below_drewN hB.out _⟩
      · have E := Lib.hid (show agrB s 2 x y v b wt t px py = false by rw [HC.out, if_neg (by decide), if_pos rfl]; unfold agrR; simp [n1])
        unfold d2 at *
        have m1 : decide ((px - x) * (px - x) + (py - y) * (py - y) ≤ (v + b) * (v + b)) = false := by simpa using n1
        clear n1
        go_enter Tryz.func23, Tryz.ntmps23
        go_wp2_with fail
        refine (C1.out _).mono ?_
        rintro e w1 ⟨rfl, hb⟩
        obtain ⟨hc, hf⟩ := bcell hb
        have hA : Below w.heap.size w w1 := (((Below.refl _ _).alloc (Nat.le_refl _) _).alloc (by simp) _).trans (hb.mono (by simp; omega))
        have hz0 : w.heap.size < w1.heap.size := by have := hb.size; simp at this; omega
        have hz1 : w.heap.size + 1 < w1.heap.size := by have := hb.size; simp at this; omega
        have q0 : w1.cell? ⟨w.heap.size, 0, none⟩ = some (.int .i64 s) := (hc _ _ (by simp; omega)).trans (by go_simp)
        have q1 : w1.cell? ⟨w.heap.size, 1, none⟩ = some (.int .u8 2) := (hc _ _ (by simp; omega)).trans (by go_simp)
        have q2 : w1.cell? ⟨w.heap.size, 2, none⟩ = some (.int .i64 x) := (hc _ _ (by simp; omega)).trans (by go_simp)
        have q3 : w1.cell? ⟨w.heap.size, 3, none⟩ = some (.int .i64 y) := (hc _ _ (by simp; omega)).trans (by go_simp)
        have q4 : w1.cell? ⟨w.heap.size, 4, none⟩ = some (.int .i64 v) := (hc _ _ (by simp; omega)).trans (by go_simp)
        have q5 : w1.cell? ⟨w.heap.size, 5, none⟩ = some (.int .i64 b) := (hc _ _ (by simp; omega)).trans (by go_simp)
        have q6 : w1.cell? ⟨w.heap.size, 6, none⟩ = some (.int .i64 wt) := (hc _ _ (by simp; omega)).trans (by go_simp)
        have q7 : w1.cell? ⟨w.heap.size, 7, none⟩ = some (.int .i64 t) := (hc _ _ (by simp; omega)).trans (by go_simp)
        have r0 : w1.cell? ⟨w.heap.size + 1, 0, none⟩ = some (.int .i64 px) := (hc _ _ (by simp)).trans (by go_simp)
        have r1 : w1.cell? ⟨w.heap.size + 1, 1, none⟩ = some (.int .i64 py) := (hc _ _ (by simp)).trans (by go_simp)
        clear hc hf
        go_wp2_with fail
        refine (P1.out _).mono ?_
        rintro e w2 ⟨rfl, hb2⟩
        have c0 := (hb2.cell (p := ⟨w.heap.size, 0, none⟩) hz0).trans q0
        have c1 := (hb2.cell (p := ⟨w.heap.size, 1, none⟩) hz0).trans q1
        have c2 := (hb2.cell (p := ⟨w.heap.size, 2, none⟩) hz0).trans q2
        have c3 := (hb2.cell (p := ⟨w.heap.size, 3, none⟩) hz0).trans q3
        have c4 := (hb2.cell (p := ⟨w.heap.size, 4, none⟩) hz0).trans q4
        have c5 := (hb2.cell (p := ⟨w.heap.size, 5, none⟩) hz0).trans q5
        have c6 := (hb2.cell (p := ⟨w.heap.size, 6, none⟩) hz0).trans q6
        have c7 := (hb2.cell (p := ⟨w.heap.size, 7, none⟩) hz0).trans q7
        have d0 := (hb2.cell (p := ⟨w.heap.size + 1, 0, none⟩) hz1).trans r0
        have d1 := (hb2.cell (p := ⟨w.heap.size + 1, 1, none⟩) hz1).trans r1
        have hz2 : w.heap.size < w2.heap.size := Nat.lt_of_lt_of_le hz0 hb2.size
        have hz3 : w.heap.size + 1 < w2.heap.size := Nat.lt_of_lt_of_le hz1 hb2.size
        have hB := Lib.hid (hA.trans (hb2.mono hA.size))
        clear hb hA hb2 hz0 hz1 q0 q1 q2 q3 q4 q5 q6 q7 r0 r1
        obtain ⟨f0, f1⟩ := sq_bd (x := v + b) (k := 200000000) (by omega) (by omega)
        obtain ⟨f2, f3⟩ := sq_bd (x := v - b) (k := 200000000) (by omega) (by omega)
        go_wp2_with fail
        go_quiet (fail)
        go_wp2_with fail
        go_quiet (fail)
        go_wp2
        go_ret
        exact ⟨ret_bool E.out.symm, below_drewN hB.out _⟩
    · have D1 := Lib.hid (fun w => course_any x y px py w)
      clear e1 e2 e3 e4 e5 e6
      by_cases hne : x = px ∧ y = py
      · have hcf : courseF x y px py = (0, 10) := by unfold courseF; rw [if_pos hpp, if_pos hne]
        clear hne hpp
        have E := Lib.hid (show agrB s 3 x y v b wt t px py = false by rw [HC.out, if_neg (by decide), if_neg (by decide)]; unfold agrC; rw [hcf]; rfl)
        rw [hcf] at D1
        clear hcf
        go_enter Tryz.func23, Tryz.ntmps23
        go_wp2_with fail
        refine (C1.out _).mono ?_
        rintro e w1 ⟨rfl, hb⟩
        obtain ⟨hc, hf⟩ := bcell hb
        have hA : Below w.heap.size w w1 := (((Below.refl _ _).alloc (Nat.le_refl _) _).alloc (by simp) _).trans (hb.mono (by simp; omega))
        have hz0 : w.heap.size < w1.heap.size := by have := hb.size; simp at this; omega
        have hz1 : w.heap.size + 1 < w1.heap.size := by have := hb.size; simp at this; omega
        have q0 : w1.cell? ⟨w.heap.size, 0, none⟩ = some (.int .i64 s) := (hc _ _ (by simp; omega)).trans (by go_simp)
        have q1 : w1.cell? ⟨w.heap.size, 1, none⟩ = some (.int .u8 3) := (hc _ _ (by simp; omega)).trans (by go_simp)
        have q2 : w1.cell? ⟨w.heap.size, 2, none⟩ = some (.int .i64 x) := (hc _ _ (by simp; omega)).trans (by go_simp)
        have q3 : w1.cell? ⟨w.heap.size, 3, none⟩ = some (.int .i64 y) := (hc _ _ (by simp; omega)).trans (by go_simp)
        have q4 : w1.cell? ⟨w.heap.size, 4, none⟩ = some (.int .i64 v) := (hc _ _ (by simp; omega)).trans (by go_simp)
        have q5 : w1.cell? ⟨w.heap.size, 5, none⟩ = some (.int .i64 b) := (hc _ _ (by simp; omega)).trans (by go_simp)
        have q6 : w1.cell? ⟨w.heap.size, 6, none⟩ = some (.int .i64 wt) := (hc _ _ (by simp; omega)).trans (by go_simp)
        have q7 : w1.cell? ⟨w.heap.size, 7, none⟩ = some (.int .i64 t) := (hc _ _ (by simp; omega)).trans (by go_simp)
        have r0 : w1.cell? ⟨w.heap.size + 1, 0, none⟩ = some (.int .i64 px) := (hc _ _ (by simp)).trans (by go_simp)
        have r1 : w1.cell? ⟨w.heap.size + 1, 1, none⟩ = some (.int .i64 py) := (hc _ _ (by simp)).trans (by go_simp)
        clear hc hf
        go_wp2_with fail
        refine (P1.out _).mono ?_
        rintro e w2 ⟨rfl, hb2⟩
        have c0 := (hb2.cell (p := ⟨w.heap.size, 0, none⟩) hz0).trans q0
        have c1 := (hb2.cell (p := ⟨w.heap.size, 1, none⟩) hz0).trans q1
        have c2 := (hb2.cell (p := ⟨w.heap.size, 2, none⟩) hz0).trans q2
        have c3 := (hb2.cell (p := ⟨w.heap.size, 3, none⟩) hz0).trans q3
        have c4 := (hb2.cell (p := ⟨w.heap.size, 4, none⟩) hz0).trans q4
        have c5 := (hb2.cell (p := ⟨w.heap.size, 5, none⟩) hz0).trans q5
        have c6 := (hb2.cell (p := ⟨w.heap.size, 6, none⟩) hz0).trans q6
        have c7 := (hb2.cell (p := ⟨w.heap.size, 7, none⟩) hz0).trans q7
        have d0 := (hb2.cell (p := ⟨w.heap.size + 1, 0, none⟩) hz1).trans r0
        have d1 := (hb2.cell (p := ⟨w.heap.size + 1, 1, none⟩) hz1).trans r1
        have hz2 : w.heap.size < w2.heap.size := Nat.lt_of_lt_of_le hz0 hb2.size
        have hz3 : w.heap.size + 1 < w2.heap.size := Nat.lt_of_lt_of_le hz1 hb2.size
        have hB := Lib.hid (hA.trans (hb2.mono hA.size))
        clear hb hA hb2 hz0 hz1 q0 q1 q2 q3 q4 q5 q6 q7 r0 r1
        go_wp2_with fail
        go_quiet (fail)
        have q0 : (w2.drewN nq).cell? ⟨w.heap.size, 0, none⟩ = some _ := c0
        have q1 : (w2.drewN nq).cell? ⟨w.heap.size, 1, none⟩ = some _ := c1
        have q2 : (w2.drewN nq).cell? ⟨w.heap.size, 2, none⟩ = some _ := c2
        have q3 : (w2.drewN nq).cell? ⟨w.heap.size, 3, none⟩ = some _ := c3
        have q4 : (w2.drewN nq).cell? ⟨w.heap.size, 4, none⟩ = some _ := c4
        have q5 : (w2.drewN nq).cell? ⟨w.heap.size, 5, none⟩ = some _ := c5
        have q6 : (w2.drewN nq).cell? ⟨w.heap.size, 6, none⟩ = some _ := c6
        have q7 : (w2.drewN nq).cell? ⟨w.heap.size, 7, none⟩ = some _ := c7
        have r0 : (w2.drewN nq).cell? ⟨w.heap.size + 1, 0, none⟩ = some _ := d0
        have r1 : (w2.drewN nq).cell? ⟨w.heap.size + 1, 1, none⟩ = some _ := d1
        have hz4 : w.heap.size < (w2.drewN nq).heap.size := hz2
        have hD := Lib.hid (below_drewN hB.out nq)
        generalize w2.drewN nq = w3 at *
        clear hB hz2 hz3 c0 c1 c2 c3 c4 c5 c6 c7 d0 d1
        go_wp2_with fail
        refine (D1.out _).mono ?_
        rintro e w4 ⟨rfl, hb3⟩
        have c0 := (hb3.cell (p := ⟨w.heap.size, 0, none⟩) hz4).trans q0
        have c1 := (hb3.cell (p := ⟨w.heap.size, 1, none⟩) hz4).trans q1
        have c2 := (hb3.cell (p := ⟨w.heap.size, 2, none⟩) hz4).trans q2
        have c3 := (hb3.cell (p := ⟨w.heap.size, 3, none⟩) hz4).trans q3
        have c4 := (hb3.cell (p := ⟨w.heap.size, 4, none⟩) hz4).trans q4
        have c5 := (hb3.cell (p := ⟨w.heap.size, 5, none⟩) hz4).trans q5
        have c6 := (hb3.cell (p := ⟨w.heap.size, 6, none⟩) hz4).trans q6
        have c7 := (hb3.cell (p := ⟨w.heap.size, 7, none⟩) hz4).trans q7
        have hF := Lib.hid (hD.out.trans (hb3.mono hD.out.size))
        clear hb3 hD hz4 q0 q1 q2 q3 q4 q5 q6 q7 r0 r1
        go_wp2_with fail
        go_quiet ((first | (go_at_call 45; exact quiet_left (diff_any _ _ _ (by omega) (by omega) (by omega) (by omega))) | (go_at_call 43; exact quiet_left (abs_any _ _ (by omega) (by omega)))))
        go_wp2
        go_ret
        exact ⟨ret_bool E.out.symm, below_drewN hF.out _⟩
      · have hcf : courseF x y px py = (atanI (px - x) (py - y), 0) := by unfold courseF; rw [if_pos hpp, if_neg hne]
        obtain ⟨a0, a1⟩ := atanI_range (px - x) (py - y)
        have a2 : -64800000 ≤ diffI v (atanI (px - x) (py - y)) ∧ diffI v (atanI (px - x) (py - y)) ≤ 64800000 := by unfold diffI normI; split <;> omega
        obtain ⟨a2, a3⟩ := a2
        obtain ⟨a4, a5⟩ := absI_bd a2 a3
        clear hpp
        by_cases n1 : absI (diffI v (atanI (px - x) (py - y))) ≤ b - 2
        · have E := Lib.hid (show agrB s 3 x y v b wt t px py = true by rw [HC.out, if_neg (by decide), if_neg (by decide)]; unfold agrC; rw [hcf]; simp [n1])
          rw [hcf] at D1
          have m1 : decide (absI (diffI v (atanI (px - x) (py - y))) ≤ b - 2) = true := by simpa using n1
          clear n1
          clear hcf hne
          go_enter Tryz.func23, Tryz.ntmps23
          go_wp2_with fail
          refine (C1.out _).mono ?_
          rintro e w1 ⟨rfl, hb⟩
          obtain ⟨hc, hf⟩ := bcell hb
          have hA : Below w.heap.size w w1 := (((Below.refl _ _).alloc (Nat.le_refl _) _).alloc (by simp) _).trans (hb.mono (by simp; omega))
          have hz0 : w.heap.size < w1.heap.size := by have := hb.size; simp at this; omega
          have hz1 : w.heap.size + 1 < w1.heap.size := by have := hb.size; simp at this; omega
          have q0 : w1.cell? ⟨w.heap.size, 0, none⟩ = some (.int .i64 s) := (hc _ _ (by simp; omega)).trans (by go_simp)
          have q1 : w1.cell? ⟨w.heap.size, 1, none⟩ = some (.int .u8 3) := (hc _ _ (by simp; omega)).trans (by go_simp)
          have q2 : w1.cell? ⟨w.heap.size, 2, none⟩ = some (.int .i64 x) := (hc _ _ (by simp; omega)).trans (by go_simp)
          have q3 : w1.cell? ⟨w.heap.size, 3, none⟩ = some (.int .i64 y) := (hc _ _ (by simp; omega)).trans (by go_simp)
          have q4 : w1.cell? ⟨w.heap.size, 4, none⟩ = some (.int .i64 v) := (hc _ _ (by simp; omega)).trans (by go_simp)
          have q5 : w1.cell? ⟨w.heap.size, 5, none⟩ = some (.int .i64 b) := (hc _ _ (by simp; omega)).trans (by go_simp)
          have q6 : w1.cell? ⟨w.heap.size, 6, none⟩ = some (.int .i64 wt) := (hc _ _ (by simp; omega)).trans (by go_simp)
          have q7 : w1.cell? ⟨w.heap.size, 7, none⟩ = some (.int .i64 t) := (hc _ _ (by simp; omega)).trans (by go_simp)
          have r0 : w1.cell? ⟨w.heap.size + 1, 0, none⟩ = some (.int .i64 px) := (hc _ _ (by simp)).trans (by go_simp)
          have r1 : w1.cell? ⟨w.heap.size + 1, 1, none⟩ = some (.int .i64 py) := (hc _ _ (by simp)).trans (by go_simp)
          clear hc hf
          go_wp2_with fail
          refine (P1.out _).mono ?_
          rintro e w2 ⟨rfl, hb2⟩
          have c0 := (hb2.cell (p := ⟨w.heap.size, 0, none⟩) hz0).trans q0
          have c1 := (hb2.cell (p := ⟨w.heap.size, 1, none⟩) hz0).trans q1
          have c2 := (hb2.cell (p := ⟨w.heap.size, 2, none⟩) hz0).trans q2
          have c3 := (hb2.cell (p := ⟨w.heap.size, 3, none⟩) hz0).trans q3
          have c4 := (hb2.cell (p := ⟨w.heap.size, 4, none⟩) hz0).trans q4
          have c5 := (hb2.cell (p := ⟨w.heap.size, 5, none⟩) hz0).trans q5
          have c6 := (hb2.cell (p := ⟨w.heap.size, 6, none⟩) hz0).trans q6
          have c7 := (hb2.cell (p := ⟨w.heap.size, 7, none⟩) hz0).trans q7
          have d0 := (hb2.cell (p := ⟨w.heap.size + 1, 0, none⟩) hz1).trans r0
          have d1 := (hb2.cell (p := ⟨w.heap.size + 1, 1, none⟩) hz1).trans r1
          have hz2 : w.heap.size < w2.heap.size := Nat.lt_of_lt_of_le hz0 hb2.size
          have hz3 : w.heap.size + 1 < w2.heap.size := Nat.lt_of_lt_of_le hz1 hb2.size
          have hB := Lib.hid (hA.trans (hb2.mono hA.size))
          clear hb hA hb2 hz0 hz1 q0 q1 q2 q3 q4 q5 q6 q7 r0 r1
          go_wp2_with fail
          go_quiet (fail)
          have q0 : (w2.drewN nq).cell? ⟨w.heap.size, 0, none⟩ = some _ := c0
          have q1 : (w2.drewN nq).cell? ⟨w.heap.size, 1, none⟩ = some _ := c1
          have q2 : (w2.drewN nq).cell? ⟨w.heap.size, 2, none⟩ = some _ := c2
          have q3 : (w2.drewN nq).cell? ⟨w.heap.size, 3, none⟩ = some _ := c3
          have q4 : (w2.drewN nq).cell? ⟨w.heap.size, 4, none⟩ = some _ := c4
          have q5 : (w2.drewN nq).cell? ⟨w.heap.size, 5, none⟩ = some _ := c5
          have q6 : (w2.drewN nq).cell? ⟨w.heap.size, 6, none⟩ = some _ := c6
          have q7 : (w2.drewN nq).cell? ⟨w.heap.size, 7, none⟩ = some _ := c7
          have r0 : (w2.drewN nq).cell? ⟨w.heap.size + 1, 0, none⟩ = some _ := d0
          have r1 : (w2.drewN nq).cell? ⟨w.heap.size + 1, 1, none⟩ = some _ := d1
          have hz4 : w.heap.size < (w2.drewN nq).heap.size := hz2
          have hD := Lib.hid (below_drewN hB.out nq)
          generalize w2.drewN nq = w3 at *
          clear hB hz2 hz3 c0 c1 c2 c3 c4 c5 c6 c7 d0 d1
          go_wp2_with fail
          refine (D1.out _).mono ?_
          rintro e w4 ⟨rfl, hb3⟩
          have c0 := (hb3.cell (p := ⟨w.heap.size, 0, none⟩) hz4).trans q0
          have c1 := (hb3.cell (p := ⟨w.heap.size, 1, none⟩) hz4).trans q1
          have c2 := (hb3.cell (p := ⟨w.heap.size, 2, none⟩) hz4).trans q2
          have c3 := (hb3.cell (p := ⟨w.heap.size, 3, none⟩) hz4).trans q3
          have c4 := (hb3.cell (p := ⟨w.heap.size, 4, none⟩) hz4).trans q4
          have c5 := (hb3.cell (p := ⟨w.heap.size, 5, none⟩) hz4).trans q5
          have c6 := (hb3.cell (p := ⟨w.heap.size, 6, none⟩) hz4).trans q6
          have c7 := (hb3.cell (p := ⟨w.heap.size, 7, none⟩) hz4).trans q7
          have hF := Lib.hid (hD.out.trans (hb3.mono hD.out.size))
          clear hb3 hD hz4 q0 q1 q2 q3 q4 q5 q6 q7 r0 r1
          go_wp2_with fail
          go_quiet ((first | (go_at_call 45; exact quiet_left (diff_any _ _ _ (by omega) (by omega) (by omega) (by omega))) | (go_at_call 43; exact quiet_left (abs_any _ _ (by omega) (by omega)))))
          go_wp2
          go_ret
          exact ⟨ret_bool E.out.symm, below_drewN hF.out _⟩
        · have E := Lib.hid (show agrB s 3 x y v b wt t px py = false by rw [HC.out, if_neg (by decide), if_neg (by decide)]; unfold agrC; rw [hcf]; simp [n1])
          rw [hcf] at D1
          have m1 : decide (absI (diffI v (atanI (px - x) (py - y))) ≤ b - 2) = false := by simpa using n1
          clear n1
          clear hcf hne
          go_enter Tryz.func23, Tryz.ntmps23
          go_wp2_with fail
          refine (C1.out _).mono ?_
          rintro e w1 ⟨rfl, hb⟩
          obtain ⟨hc, hf⟩ := bcell hb
          have hA : Below w.heap.size w w1 := (((Below.refl _ _).alloc (Nat.le_refl _) _).alloc (by simp) _).trans (hb.mono (by simp; omega))
          have hz0 : w.heap.size < w1.heap.size := by have := hb.size; simp at this; omega
          have hz1 : w.heap.size + 1 < w1.heap.size := by have := hb.size; simp at this; omega
          have q0 : w1.cell? ⟨w.heap.size, 0, none⟩ = some (.int .i64 s) := (hc _ _ (by simp; omega)).trans (by go_simp)
          have q1 : w1.cell? ⟨w.heap.size, 1, none⟩ = some (.int .u8 3) := (hc _ _ (by simp; omega)).trans (by go_simp)
          have q2 : w1.cell? ⟨w.heap.size, 2, none⟩ = some (.int .i64 x) := (hc _ _ (by simp; omega)).trans (by go_simp)
          have q3 : w1.cell? ⟨w.heap.size, 3, none⟩ = some (.int .i64 y) := (hc _ _ (by simp; omega)).trans (by go_simp)
          have q4 : w1.cell? ⟨w.heap.size, 4, none⟩ = some (.int .i64 v) := (hc _ _ (by simp; omega)).trans (by go_simp)
          have q5 : w1.cell? ⟨w.heap.size, 5, none⟩ = some (.int .i64 b) := (hc _ _ (by simp; omega)).trans (by go_simp)
          have q6 : w1.cell? ⟨w.heap.size, 6, none⟩ = some (.int .i64 wt) := (hc _ _ (by simp; omega)).trans (by go_simp)
          have q7 : w1.cell? ⟨w.heap.size, 7, none⟩ = some (.int .i64 t) := (hc _ _ (by simp; omega)).trans (by go_simp)
          have r0 : w1.cell? ⟨w.heap.size + 1, 0, none⟩ = some (.int .i64 px) := (hc _ _ (by simp)).trans (by go_simp)
          have r1 : w1.cell? ⟨w.heap.size + 1, 1, none⟩ = some (.int .i64 py) := (hc _ _ (by simp)).trans (by go_simp)
          clear hc hf
          go_wp2_with fail
          refine (P1.out _).mono ?_
          rintro e w2 ⟨rfl, hb2⟩
          have c0 := (hb2.cell (p := ⟨w.heap.size, 0, none⟩) hz0).trans q0
          have c1 := (hb2.cell (p := ⟨w.heap.size, 1, none⟩) hz0).trans q1
          have c2 := (hb2.cell (p := ⟨w.heap.size, 2, none⟩) hz0).trans q2
          have c3 := (hb2.cell (p := ⟨w.heap.size, 3, none⟩) hz0).trans q3
          have c4 := (hb2.cell (p := ⟨w.heap.size, 4, none⟩) hz0).trans q4
          have c5 := (hb2.cell (p := ⟨w.heap.size, 5, none⟩) hz0).trans q5
          have c6 := (hb2.cell (p := ⟨w.heap.size, 6, none⟩) hz0).trans q6
          have c7 := (hb2.cell (p := ⟨w.heap.size, 7, none⟩) hz0).trans q7
          have d0 := (hb2.cell (p := ⟨w.heap.size + 1, 0, none⟩) hz1).trans r0
          have d1 := (hb2.cell (p := ⟨w.heap.size + 1, 1, none⟩) hz1).trans r1
          have hz2 : w.heap.size < w2.heap.size := Nat.lt_of_lt_of_le hz0 hb2.size
          have hz3 : w.heap.size + 1 < w2.heap.size := Nat.lt_of_lt_of_le hz1 hb2.size
          have hB := Lib.hid (hA.trans (hb2.mono hA.size))
          clear hb hA hb2 hz0 hz1 q0 q1 q2 q3 q4 q5 q6 q7 r0 r1
          go_wp2_with fail
          go_quiet (fail)
          have q0 : (w2.drewN nq).cell? ⟨w.heap.size, 0, none⟩ = some _ := c0
          have q1 : (w2.drewN nq).cell? ⟨w.heap.size, 1, none⟩ = some _ := c1
          have q2 : (w2.drewN nq).cell? ⟨w.heap.size, 2, none⟩ = some _ := c2
          have q3 : (w2.drewN nq).cell? ⟨w.heap.size, 3, none⟩ = some _ := c3
          have q4 : (w2.drewN nq).cell? ⟨w.heap.size, 4, none⟩ = some _ := c4
          have q5 : (w2.drewN nq).cell? ⟨w.heap.size, 5, none⟩ = some _ := c5
          have q6 : (w2.drewN nq).cell? ⟨w.heap.size, 6, none⟩ = some _ := c6
          have q7 : (w2.drewN nq).cell? ⟨w.heap.size, 7, none⟩ = some _ := c7
          have r0 : (w2.drewN nq).cell? ⟨w.heap.size + 1, 0, none⟩ = some _ := d0
          have r1 : (w2.drewN nq).cell? ⟨w.heap.size + 1, 1, none⟩ = some _ := d1
          have hz4 : w.heap.size < (w2.drewN nq).heap.size := hz2
          have hD := Lib.hid (below_drewN hB.out nq)
          generalize w2.drewN nq = w3 at *
          clear hB hz2 hz3 c0 c1 c2 c3 c4 c5 c6 c7 d0 d1
          go_wp2_with fail
          refine (D1.out _).mono ?_
          rintro e w4 ⟨rfl, hb3⟩
          have c0 := (hb3.cell (p := ⟨w.heap.size, 0, none⟩) hz4).trans q0
          have c1 := (hb3.cell (p := ⟨w.heap.size, 1, none⟩) hz4).trans q1
          have c2 := (hb3.cell (p := ⟨w.heap.size, 2, none⟩) hz4).trans q2
          have c3 := (hb3.cell (p := ⟨w.heap.size, 3, none⟩) hz4).trans q3
          have c4 := (hb3.cell (p := ⟨w.heap.size, 4, none⟩) hz4).trans q4
          have c5 := (hb3.cell (p := ⟨w.heap.size, 5, none⟩) hz4).trans q5
          have c6 := (hb3.cell (p := ⟨w.heap.size, 6, none⟩) hz4).trans q6
          have c7 := (hb3.cell (p := ⟨w.heap.size, 7, none⟩) hz4).trans q7
          have hF := Lib.hid (hD.out.trans (hb3.mono hD.out.size))
          clear hb3 hD hz4 q0 q1 q2 q3 q4 q5 q6 q7 r0 r1
          go_wp2_with fail
          go_quiet ((first | (go_at_call 45; exact quiet_left (diff_any _ _ _ (by omega) (by omega) (by omega) (by omega))) | (go_at_call 43; exact quiet_left (abs_any _ _ (by omega) (by omega)))))
          go_wp2
          go_ret
          exact ⟨ret_bool E.out.symm, below_drewN hF.out _⟩
end Go.Proofs.YtidelghgjibndaaGreat.S41
