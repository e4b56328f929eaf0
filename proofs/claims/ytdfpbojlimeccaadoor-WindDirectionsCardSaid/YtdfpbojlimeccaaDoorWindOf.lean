/-
  The walks of wind's and the reference's Of and From.
-/
import Derived.Test.YtdfpbojlimeccaaDoorWindParse
import Derived.Test.YtdfpbojlimeccaaDoorWindRef
namespace Go.Proofs.YtdfpbojlimeccaaDoor
set_option linter.unusedVariables false
open Go.RowKit Tr Sq

/-- a wind by direction and speed, and the error -/
def ofF (f s : Int) : Int × Int × Int := if s < 0 ∨ 400 < s then (0, 0, 1) else (shu (-s * sinI f), shu (-s * cosI f), 0)
/-- direction, speed, error -/
def fromF (x n : Int) : Int × Int × Int := if vldW x n = true then (if x = 0 ∧ n = 0 then (0, 0, 0) else (atanI (-x) (-n), isq (x * x + n * n), 0)) else (0, 0, 1)

theorem unit_any (a : Int) (w : World) (h0 : -4611686018427387904 ≤ a) (h1 : a ≤ 4611686018427387904) :
    Calls Tryd.prog 65 #[.int .i64 a] w fun e w' => e = .returned (.int .i64 (shu a)) ∧ w = w' := by
  go_enter Tryd.func65, Tryd.ntmps65
  go_wp2
  go_ret
  exact ⟨rfl, rfl⟩

set_option maxHeartbeats 1000000 in
theorem of_any (f s : Int) (w : World) (h0 : -9223372036854775808 ≤ f) (h1 : f ≤ 9223372036854775807) :
    Calls Tryd.prog 35 #[.int .i64 f, .int .i64 s] w (RetW (ofF f s) w) := by
  by_cases hs : s < 0
  · have E1 := Lib.hid (show ofF f s = (0, 0, 1) by unfold ofF; rw [if_pos (.inl hs)])
    have g1 : decide (s < 0) = true := by simpa using hs
    go_enter Tryd.func35, Tryd.ntmps35
    go_wp2
    exact bodyPost_ret (v := .tuple #[.agg #[.int .i64 0, .int .i64 0], .int .i64 1]) (by simp [results, Tryd.results35, go_sem]) rfl ⟨by rw [E1.out], (Below.refl _ _).alloc (Nat.le_refl _) _⟩
  by_cases hs2 : 400 < s
  · have E1 := Lib.hid (show ofF f s = (0, 0, 1) by unfold ofF; rw [if_pos (.inr hs2)])
    have g1 : decide (s < 0) = false := by simpa using hs
    have g2 : decide (400 < s) = true := by simpa using hs2
    go_enter Tryd.func35, Tryd.ntmps35
    go_wp2
    exact bodyPost_ret (v := .tuple #[.agg #[.int .i64 0, .int .i64 0], .int .i64 1]) (by simp [results, Tryd.results35, go_sem]) rfl ⟨by rw [E1.out], (Below.refl _ _).alloc (Nat.le_refl _) _⟩
  · have E1 := Lib.hid (show ofF f s = (shu (-s * sinI f), shu (-s * cosI f), 0) by unfold ofF; rw [if_neg (by omega)])
    have g1 : decide (s < 0) = false := by simpa using hs
    have g2 : decide (400 < s) = false := by simpa using hs2
    obtain ⟨s1, s2⟩ := sinI_range f
    obtain ⟨c1, c2⟩ := cosI_range f
    obtain ⟨p0, p1⟩ := sprod4 (x := -s) (by omega) (by omega) s1 s2
    obtain ⟨p2, p3⟩ := sprod4 (x := -s) (by omega) (by omega) c1 c2
    go_enter Tryd.func35, Tryd.ntmps35
    go_wp2_with (first
      | (go_at_call 48; refine (sin_any _ _ h0 h1).mono ?_; rintro e w' ⟨rfl, rfl⟩)
      | (go_at_call 49; refine (cos_any _ _ h0 h1).mono ?_; rintro e w' ⟨rfl, rfl⟩)
      | (go_at_call 65; refine (unit_any _ _ (by omega) (by omega)).mono ?_; rintro e w' ⟨rfl, rfl⟩))
    exact bodyPost_ret (v := .tuple #[.agg #[.int .i64 (shu (-s * sinI f)), .int .i64 (shu (-s * cosI f))], .int .i64 0]) (by simp [results, Tryd.results35, go_sem]) rfl ⟨by rw [E1.out], (Below.refl _ _).alloc (Nat.le_refl _) _⟩

set_option maxHeartbeats 1000000 in
theorem of_ref (f s : Int) (w : World) (h0 : -9223372036854775808 ≤ f) (h1 : f ≤ 9223372036854775807) :
    Calls Tryd.prog 36 #[.int .i64 f, .int .i64 s] w (RetW (ofF f s) w) := by
  by_cases hs : s < 0
  · have E1 := Lib.hid (show ofF f s = (0, 0, 1) by unfold ofF; rw [if_pos (.inl hs)])
    have g1 : decide (s < 0) = true := by simpa using hs
    go_enter Tryd.func36, Tryd.ntmps36
    go_wp2
    exact bodyPost_ret (v := .tuple #[.agg #[.int .i64 0, .int .i64 0], .int .i64 1]) (by simp [results, Tryd.results36, go_sem]) rfl ⟨by rw [E1.out], (Below.refl _ _).alloc (Nat.le_refl _) _⟩
  by_cases hs2 : 400 < s
  · have E1 := Lib.hid (show ofF f s = (0, 0, 1) by unfold ofF; rw [if_pos (.inr hs2)])
    have g1 : decide (s < 0) = false := by simpa using hs
    have g2 : decide (400 < s) = true := by simpa using hs2
    go_enter Tryd.func36, Tryd.ntmps36
    go_wp2
    exact bodyPost_ret (v := .tuple #[.agg #[.int .i64 0, .int .i64 0], .int .i64 1]) (by simp [results, Tryd.results36, go_sem]) rfl ⟨by rw [E1.out], (Below.refl _ _).alloc (Nat.le_refl _) _⟩
  · have E1 := Lib.hid (show ofF f s = (shu (-s * sinI f), shu (-s * cosI f), 0) by unfold ofF; rw [if_neg (by omega)])
    have g1 : decide (s < 0) = false := by simpa using hs
    have g2 : decide (400 < s) = false := by simpa using hs2
    obtain ⟨s1, s2⟩ := sinI_range f
    obtain ⟨c1, c2⟩ := cosI_range f
    obtain ⟨p0, p1⟩ := sprod4 (x := -s) (by omega) (by omega) s1 s2
    obtain ⟨p2, p3⟩ := sprod4 (x := -s) (by omega) (by omega) c1 c2
    go_enter Tryd.func36, Tryd.ntmps36
    go_wp2_with (first
      | (go_at_call 52; refine (sin_ref _ _ h0 h1).mono ?_; rintro e w' ⟨rfl, rfl⟩)
      | (go_at_call 53; refine (cos_ref _ _ h0 h1).mono ?_; rintro e w' ⟨rfl, rfl⟩)
      | (go_at_call 51; refine (round30_ref _ _ (by omega) (by omega)).mono ?_; rintro e w' ⟨rfl, rfl⟩))
    exact bodyPost_ret (v := .tuple #[.agg #[.int .i64 (shu (-s * sinI f)), .int .i64 (shu (-s * cosI f))], .int .i64 0]) (by simp [results, Tryd.results36, go_sem]) rfl ⟨by rw [E1.out], (Below.refl _ _).alloc (Nat.le_refl _) _⟩

set_option maxHeartbeats 2000000 in
theorem from_any (x n : Int) (w : World) :
    Calls Tryd.prog 37 #[.agg #[.int .i64 x, .int .i64 n]] w (Ret3 (fromF x n) w) := by
  cases hv : vldW x n with
  | false =>
    have E1 := Lib.hid (show fromF x n = (0, 0, 1) by unfold fromF; rw [if_neg (by simp [hv])])
    have HV := Lib.hid hv
    clear hv
    go_enter Tryd.func37, Tryd.ntmps37
    go_wp2_with (go_at_call 33; refine (valid_any _ _ _).mono ?_; rw [HV.out]; rintro e w1 ⟨rfl, hb⟩)
    go_ret3
    exact ⟨by rw [E1.out]; rfl, below_box hb⟩
  | true =>
    have HV := Lib.hid hv
    obtain ⟨b0, b1, b2, b3⟩ := vldW_iff.1 hv
    by_cases hz : x = 0 ∧ n = 0
    · have E1 := Lib.hid (show fromF x n = (0, 0, 0) by unfold fromF; rw [if_pos hv, if_pos hz])
      obtain ⟨rfl, rfl⟩ := hz
      clear hv
      go_enter Tryd.func37, Tryd.ntmps37
      go_wp2_with fail
      refine (valid_any _ _ _).mono ?_
      rw [HV.out]
      rintro e w1 ⟨rfl, hb⟩
      obtain ⟨hc, hf⟩ := bcell hb
      go_wp2
      go_ret3
      exact ⟨by rw [E1.out]; rfl, below_box hb⟩
    · have E1 := Lib.hid (show fromF x n = (atanI (-x) (-n), isq (x * x + n * n), 0) by unfold fromF; rw [if_pos hv, if_neg hz])
      clear hv
      by_cases hx : x = 0
      · subst hx
        have E2 := Lib.hid (show fromF 0 n = (atanI 0 (-n), isq (n * n), 0) by rw [E1.out]; simp)
        have hn : (n == 0) = false := by simp; omega
        have HNE := Lib.hid (show (-n ≠ 0 ∨ (0 : Int) ≠ 0) by omega)
        clear hz
        go_enter Tryd.func37, Tryd.ntmps37
        go_wp2_with fail
        refine (valid_any _ _ _).mono ?_
        rw [HV.out]
        rintro e w1 ⟨rfl, hb⟩
        obtain ⟨hc, hf⟩ := bcell hb
        have hz2 : w.heap.size < w1.heap.size := by have := hb.size; simp at this; omega
        go_wp2_with fail
        refine (atan2_ok _ _ _ (by omega) (by omega) (by omega) (by omega) HNE.out).mono ?_
        rintro e w2 ⟨rfl, hb2⟩
        obtain ⟨hc2, hf2⟩ := bcell hb2
        go_wp2_with fail
        refine (hypot_ok _ _ _ (by omega) (by omega) (by omega) (by omega)).mono ?_
        rintro e w3 ⟨rfl, rfl⟩
        go_wp2
        go_ret3
        exact ⟨by rw [E2.out]; rfl, (below_box hb).trans (hb2.mono (below_box hb).size)⟩
      · have hn : (x == 0) = false := by simpa using hx
        have HNE := Lib.hid (show (-n ≠ 0 ∨ -x ≠ 0) by omega)
        clear hz hx
        go_enter Tryd.func37, Tryd.ntmps37
        go_wp2_with fail
        refine (valid_any _ _ _).mono ?_
        rw [HV.out]
        rintro e w1 ⟨rfl, hb⟩
        obtain ⟨hc, hf⟩ := bcell hb
        have hz2 : w.heap.size < w1.heap.size := by have := hb.size; simp at this; omega
        go_wp2_with fail
        refine (atan2_ok _ _ _ (by omega) (by omega) (by omega) (by omega) HNE.out).mono ?_
        rintro e w2 ⟨rfl, hb2⟩
        obtain ⟨hc2, hf2⟩ := bcell hb2
        go_wp2_with fail
        refine (hypot_ok _ _ _ (by omega) (by omega) (by omega) (by omega)).mono ?_
        rintro e w3 ⟨rfl, rfl⟩
        go_wp2
        go_ret3
        exact ⟨by rw [E1.out]; rfl, (below_box hb).trans (hb2.mono (below_box hb).size)⟩

set_option maxHeartbeats 2000000 in
theorem from_ref (x n : Int) (w : World) :
    Calls Tryd.prog 38 #[.agg #[.int .i64 x, .int .i64 n]] w (Ret3 (fromF x n) w) := by
  cases hv : vldW x n with
  | false =>
    have E1 := Lib.hid (show fromF x n = (0, 0, 1) by unfold fromF; rw [if_neg (by simp [hv])])
    have HV := Lib.hid hv
    clear hv
    go_enter Tryd.func38, Tryd.ntmps38
    go_wp2_with (go_at_call 32; refine (valid_ref _ _ _).mono ?_; rw [HV.out]; rintro e w1 ⟨rfl, hb⟩)
    go_ret3
    exact ⟨by rw [E1.out]; rfl, below_box hb⟩
  | true =>
    have HV := Lib.hid hv
    obtain ⟨b0, b1, b2, b3⟩ := vldW_iff.1 hv
    by_cases hz : x = 0 ∧ n = 0
    · have E1 := Lib.hid (show fromF x n = (0, 0, 0) by unfold fromF; rw [if_pos hv, if_pos hz])
      obtain ⟨rfl, rfl⟩ := hz
      clear hv
      go_enter Tryd.func38, Tryd.ntmps38
      go_wp2_with fail
      refine (valid_ref _ _ _).mono ?_
      rw [HV.out]
      rintro e w1 ⟨rfl, hb⟩
      obtain ⟨hc, hf⟩ := bcell hb
      go_wp2
      go_ret3
      exact ⟨by rw [E1.out]; rfl, below_box hb⟩
    · have E1 := Lib.hid (show fromF x n = (atanI (-x) (-n), isq (x * x + n * n), 0) by unfold fromF; rw [if_pos hv, if_neg hz])
      clear hv
      by_cases hx : x = 0
      · subst hx
        have E2 := Lib.hid (show fromF 0 n = (atanI 0 (-n), isq (n * n), 0) by rw [E1.out]; simp)
        have hn : (n == 0) = false := by simp; omega
        have HNE := Lib.hid (show (-n ≠ 0 ∨ (0 : Int) ≠ 0) by omega)
        clear hz
        go_enter Tryd.func38, Tryd.ntmps38
        go_wp2_with fail
        refine (valid_ref _ _ _).mono ?_
        rw [HV.out]
        rintro e w1 ⟨rfl, hb⟩
        obtain ⟨hc, hf⟩ := bcell hb
        go_wp2_with fail
        refine (atan2_ref _ _ _ (by omega) (by omega) (by omega) (by omega) HNE.out).mono ?_
        rintro e w2 ⟨rfl, rfl⟩
        go_wp2_with fail
        refine (hypot_ref _ _ _ (by omega) (by omega) (by omega) (by omega)).mono ?_
        rintro e w3 ⟨rfl, rfl⟩
        go_wp2
        go_ret3
        exact ⟨by rw [E2.out]; rfl, below_box hb⟩
      · have hn : (x == 0) = false := by simpa using hx
        have HNE := Lib.hid (show (-n ≠ 0 ∨ -x ≠ 0) by omega)
        clear hz hx
        go_enter Tryd.func38, Tryd.ntmps38
        go_wp2_with fail
        refine (valid_ref _ _ _).mono ?_
        rw [HV.out]
        rintro e w1 ⟨rfl, hb⟩
        obtain ⟨hc, hf⟩ := bcell hb
        go_wp2_with fail
        refine (atan2_ref _ _ _ (by omega) (by omega) (by omega) (by omega) HNE.out).mono ?_
        rintro e w2 ⟨rfl, rfl⟩
        go_wp2_with fail
        refine (hypot_ref _ _ _ (by omega) (by omega) (by omega) (by omega)).mono ?_
        rintro e w3 ⟨rfl, rfl⟩
        go_wp2
        go_ret3
        exact ⟨by rw [E1.out]; rfl, below_box hb⟩
end Go.Proofs.YtdfpbojlimeccaaDoor

