/-
  Of the text SnSensorThree: what is wanted here.
-/
import Derived.Test.YtidelghgjibndaaGreatN7SnSensorTwo
namespace Go.Proofs.YtidelghgjibndaaGreat.S41
set_option linter.unusedVariables false
open Go.RowKit Tr Sq
theorem below_two {w w1 : World} {o o' : Obj} (hb : Below ((w.alloc o).alloc o').heap.size ((w.alloc o).alloc o') w1) : Below w.heap.size w w1 := (((Below.refl _ _).alloc (Nat.le_refl _) _).alloc (by simp) _).trans (hb.mono (by simp; omega))
theorem boxv_any (cx cy bx b2 : Int) (w : World) : Calls Tryz.prog 25 #[.agg #[.int .i64 cx, .int .i64 cy, .int .i64 bx, .int .i64 b2]] w fun e w' => e = .returned (.bool (boxV cx cy bx b2)) ∧ Below w.heap.size w w' := by
  cases g1 : pvB cx cy with
  | false =>
    go_enter Tryz.func25, Tryz.ntmps25
    go_wp2_with (first
      | (go_at_call 26; refine (from_any _ _ _ _).mono ?_; rintro e w' ⟨rfl, rfl⟩)
      | (go_at_call 22; refine (pvalid_any _ _ _).mono ?_; rintro e w1 ⟨rfl, hb⟩; obtain ⟨hc, hf⟩ := bcell hb))
    go_ret
    exact ⟨ret_bool (by unfold boxV; rw [g1]; rfl), below_box hb⟩
  | true =>
    cases g2 : fromB bx 0 2000000 with
    | false =>
      go_enter Tryz.func25, Tryz.ntmps25
      go_wp2_with (first
        | (go_at_call 26; refine (from_any _ _ _ _).mono ?_; rintro e w' ⟨rfl, rfl⟩)
        | (go_at_call 22; refine (pvalid_any _ _ _).mono ?_; rintro e w1 ⟨rfl, hb⟩; obtain ⟨hc, hf⟩ := bcell hb))
      go_ret
      exact ⟨ret_bool (by unfold boxV; rw [g1, g2]; rfl), below_box hb⟩
    | true =>
      cases g3 : fromB b2 0 2000000 with
      | false =>
        go_enter Tryz.func25, Tryz.ntmps25
        go_wp2_with (first
          | (go_at_call 26; refine (from_any _ _ _ _).mono ?_; rintro e w' ⟨rfl, rfl⟩)
          | (go_at_call 22; refine (pvalid_any _ _ _).mono ?_; rintro e w1 ⟨rfl, hb⟩; obtain ⟨hc, hf⟩ := bcell hb))
        go_ret
        exact ⟨ret_bool (by unfold boxV; rw [g1, g2, g3]; rfl), below_box hb⟩
      | true =>
        go_enter Tryz.func25, Tryz.ntmps25
        go_wp2_with (first
          | (go_at_call 26; refine (from_any _ _ _ _).mono ?_; rintro e w' ⟨rfl, rfl⟩)
          | (go_at_call 22; refine (pvalid_any _ _ _).mono ?_; rintro e w1 ⟨rfl, hb⟩; obtain ⟨hc, hf⟩ := bcell hb))
        go_ret
        exact ⟨ret_bool (by unfold boxV; rw [g1, g2, g3]; rfl), below_box hb⟩
set_option maxHeartbeats 1000000 in
theorem radius_any (cx cy bx b2 : Int) (w : World) : Calls Tryz.prog 46 #[.agg #[.int .i64 cx, .int .i64 cy, .int .i64 bx, .int .i64 b2]] w fun e w' => e = .returned (.int .i64 (radI cx cy bx b2)) ∧ Below w.heap.size w w' := by
  cases g : boxV cx cy bx b2 with
  | false =>
    have E := Lib.hid (show radI cx cy bx b2 = 0 by unfold radI; rw [if_neg (by rw [g]; decide)])
    go_enter Tryz.func46, Tryz.ntmps46
    go_wp2_with fail
    refine (boxv_any _ _ _ _ _).mono ?_
    rw [g]
    rintro e w1 ⟨rfl, hb⟩
    go_wp2
    go_ret
    exact ⟨ret_int E.out.symm, below_box hb⟩
  | true =>
    have E := Lib.hid (show radI cx cy bx b2 = sqU (bx * bx + b2 * b2) by unfold radI; rw [if_pos g])
    obtain ⟨_, ⟨b0, b1⟩, b3, b4⟩ := boxV_iff.1 g
    obtain ⟨s0, s1⟩ := sq_bd (x := bx) (k := 2000000) (by omega) b1
    obtain ⟨s2, s3⟩ := sq_bd (x := b2) (k := 2000000) (by omega) b4
    go_enter Tryz.func46, Tryz.ntmps46
    go_wp2_with fail
    refine (boxv_any _ _ _ _ _).mono ?_
    rw [g]
    rintro e w1 ⟨rfl, hb⟩
    obtain ⟨hc, hf⟩ := bcell hb
    go_wp2_with (go_at_call 76; refine (sqrtup_any _ _ (by omega) (by omega)).mono ?_; rintro e w' ⟨rfl, rfl⟩)
    go_ret
    exact ⟨ret_int E.out.symm, below_box hb⟩
set_option maxHeartbeats 2000000 in
theorem inside_any (cx cy bx b2 px py : Int) (w : World) : Calls Tryz.prog 10 #[.agg #[.int .i64 cx, .int .i64 cy, .int .i64 bx, .int .i64 b2], .agg #[.int .i64 px, .int .i64 py]] w fun e w' => e = .returned (.bool (insB cx cy bx b2 px py)) ∧ Below w.heap.size w w' := by
  cases g1 : boxV cx cy bx b2 with
  | false =>
    have V := Lib.hid g1
    have E := Lib.hid (show insB cx cy bx b2 px py = false by unfold insB; rw [g1]; rfl)
    clear g1
    go_enter Tryz.func10, Tryz.ntmps10
    go_wp2_with fail
    refine (boxv_any _ _ _ _ _).mono ?_
    rw [V.out]
    rintro e w1 ⟨rfl, hb⟩
    obtain ⟨hc, hf⟩ := bcell hb
    go_wp2_with (go_at_call 26; refine (from_any _ _ _ _).mono ?_; rintro e w' ⟨rfl, rfl⟩)
    go_ret
    exact ⟨ret_bool E.out.symm, below_two hb⟩
  | true =>
    cases g2 : fromB px (cx - bx) (cx + bx) with
    | false =>
      obtain ⟨⟨v1, v2, v3, v4⟩, ⟨v5, v6⟩, v7, v8⟩ := boxV_iff.1 g1
      have V := Lib.hid g1
      have E := Lib.hid (show insB cx cy bx b2 px py = false by unfold insB; rw [g1, g2]; rfl)
      clear g1
      go_enter Tryz.func10, Tryz.ntmps10
      go_wp2_with fail
      refine (boxv_any _ _ _ _ _).mono ?_
      rw [V.out]
      rintro e w1 ⟨rfl, hb⟩
      obtain ⟨hc, hf⟩ := bcell hb
      go_wp2_with (go_at_call 26; refine (from_any _ _ _ _).mono ?_; rintro e w' ⟨rfl, rfl⟩)
      go_ret
      exact ⟨ret_bool E.out.symm, below_two hb⟩
    | true =>
      cases g3 : fromB py (cy - b2) (cy + b2) with
      | false =>
        obtain ⟨⟨v1, v2, v3, v4⟩, ⟨v5, v6⟩, v7, v8⟩ := boxV_iff.1 g1
        have V := Lib.hid g1
        have E := Lib.hid (show insB cx cy bx b2 px py = false by unfold insB; rw [g1, g2, g3]; rfl)
        clear g1
        go_enter Tryz.func10, Tryz.ntmps10
        go_wp2_with fail
        refine (boxv_any _ _ _ _ _).mono ?_
        rw [V.out]
        rintro e w1 ⟨rfl, hb⟩
        obtain ⟨hc, hf⟩ := bcell hb
        go_wp2_with (go_at_call 26; refine (from_any _ _ _ _).mono ?_; rintro e w' ⟨rfl, rfl⟩)
        go_ret
        exact ⟨ret_bool E.out.symm, below_two hb⟩
      | true =>
        obtain ⟨⟨v1, v2, v3, v4⟩, ⟨v5, v6⟩, v7, v8⟩ := boxV_iff.1 g1
        have V := Lib.hid g1
        have E := Lib.hid (show insB cx cy bx b2 px py = true by unfold insB; rw [g1, g2, g3]; rfl)
        clear g1
        go_enter Tryz.func10, Tryz.ntmps10
        go_wp2_with fail
        refine (boxv_any _ _ _ _ _).mono ?_
        rw [V.out]
        rintro e w1 ⟨rfl, hb⟩
        obtain ⟨hc, hf⟩ := bcell hb
        go_wp2_with (go_at_call 26; refine (from_any _ _ _ _).mono ?_; rintro e w' ⟨rfl, rfl⟩)
        go_ret
        exact ⟨ret_bool E.out.symm, below_two hb⟩
end Go.Proofs.YtidelghgjibndaaGreat.S41
