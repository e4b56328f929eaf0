/-
  The walks of the reference's wind triangle: Parts, Ground, Track.
-/
import Derived.Test.YtdfpbojlimeccaaDoorWindWalks
import Derived.Test.YtdfpbojlimeccaaDoorRootRef
namespace Go.Proofs.YtdfpbojlimeccaaDoor
set_option linter.unusedVariables false
open Go.RowKit Tr Sq

theorem vldW_chain (x n : Int) : vldW x n = (decide (-400 ≤ x) && decide (x ≤ 400) && decide (-400 ≤ n) && decide (n ≤ 400)) := by
  unfold vldW; rw [Bool.eq_iff_iff]; simp; omega
set_option maxHeartbeats 1000000 in
theorem valid_ref (x n : Int) (w : World) :
    Calls Tryd.prog 32 #[.agg #[.int .i64 x, .int .i64 n]] w fun e w' => e = .returned (.bool (vldW x n)) ∧ Below w.heap.size w w' := by
  have hv := Lib.hid (vldW_chain x n)
  cases g1 : decide (-400 ≤ x) with
  | false =>
    go_enter Tryd.func32, Tryd.ntmps32
    go_wp2
    go_ret
    exact ⟨by rw [hv.out]; simp only [g1]; rfl, (Below.refl _ _).alloc (Nat.le_refl _) _⟩
  | true =>
    cases g2 : decide (x ≤ 400) with
    | false =>
      go_enter Tryd.func32, Tryd.ntmps32
      go_wp2
      go_ret
      exact ⟨by rw [hv.out]; simp only [g1, g2]; rfl, (Below.refl _ _).alloc (Nat.le_refl _) _⟩
    | true =>
      cases g3 : decide (-400 ≤ n) with
      | false =>
        go_enter Tryd.func32, Tryd.ntmps32
        go_wp2
        go_ret
        exact ⟨by rw [hv.out]; simp only [g1, g2, g3]; rfl, (Below.refl _ _).alloc (Nat.le_refl _) _⟩
      | true =>
        cases g4 : decide (n ≤ 400) with
        | false =>
          go_enter Tryd.func32, Tryd.ntmps32
          go_wp2
          go_ret
          exact ⟨by rw [hv.out]; simp only [g1, g2, g3, g4]; rfl, (Below.refl _ _).alloc (Nat.le_refl _) _⟩
        | true =>
          go_enter Tryd.func32, Tryd.ntmps32
          go_wp2
          go_ret
          exact ⟨by rw [hv.out]; simp only [g1, g2, g3, g4]; rfl, (Below.refl _ _).alloc (Nat.le_refl _) _⟩

theorem round20_ref (a : Int) (w : World) (h0 : -4611686018427387904 ≤ a) (h1 : a ≤ 4611686018427387904) :
    Calls Tryd.prog 51 #[.int .i64 a, .int .i64 20] w fun e w' => e = .returned (.int .i64 (shf a)) ∧ w = w' := by
  go_enter Tryd.func51, Tryd.ntmps51
  go_wp2
  go_ret
  exact ⟨rfl, rfl⟩
theorem round30_ref (a : Int) (w : World) (h0 : -4611686018427387904 ≤ a) (h1 : a ≤ 4611686018427387904) :
    Calls Tryd.prog 51 #[.int .i64 a, .int .i64 30] w fun e w' => e = .returned (.int .i64 (shu a)) ∧ w = w' := by
  go_enter Tryd.func51, Tryd.ntmps51
  go_wp2
  go_ret
  exact ⟨rfl, rfl⟩
set_option maxHeartbeats 1000000 in
theorem partsv_ref (c x n : Int) (w : World) (h0 : -9223372036854775808 ≤ c) (h1 : c ≤ 9223372036854775807) (hv : vldW x n = true) :
    Calls Tryd.prog 42 #[.int .i64 c, .int .i64 x, .int .i64 n] w fun e w' => e = .returned (.tuple #[.int .i64 (alongI c x n), .int .i64 (acrossI c x n)]) ∧ w = w' := by
  obtain ⟨a, b, d, f⟩ := vldW_iff.1 hv
  obtain ⟨s1, s2⟩ := sinI_range c
  obtain ⟨c1, c2⟩ := cosI_range c
  obtain ⟨p0, p1⟩ := sprod4 a b s1 s2
  obtain ⟨p2, p3⟩ := sprod4 d f c1 c2
  obtain ⟨p4, p5⟩ := sprod4 a b c1 c2
  obtain ⟨p6, p7⟩ := sprod4 d f s1 s2
  go_enter Tryd.func42, Tryd.ntmps42
  go_wp2_with (first
    | (go_at_call 52; refine (sin_ref _ _ h0 h1).mono ?_; rintro e w' ⟨rfl, rfl⟩)
    | (go_at_call 53; refine (cos_ref _ _ h0 h1).mono ?_; rintro e w' ⟨rfl, rfl⟩)
    | (go_at_call 51; refine (round20_ref _ _ (by omega) (by omega)).mono ?_; rintro e w' ⟨rfl, rfl⟩))
  go_ret2
  exact ⟨rfl, rfl⟩
set_option maxHeartbeats 1000000 in
theorem parts_ref (c x n : Int) (w : World) (h0 : -9223372036854775808 ≤ c) (h1 : c ≤ 9223372036854775807) :
    Calls Tryd.prog 34 #[.int .i64 c, .agg #[.int .i64 x, .int .i64 n]] w (Ret3 (partsF c x n) w) := by
  cases hv : vldW x n with
  | false =>
    have HV := Lib.hid hv
    clear hv
    go_enter Tryd.func34, Tryd.ntmps34
    go_wp2_with (go_at_call 32; refine (valid_ref _ _ _).mono ?_; rw [HV.out]; rintro e w1 ⟨rfl, hb⟩)
    go_ret3
    exact ⟨by unfold partsF; rw [if_neg (by simp [HV.out])]; rfl, below_box hb⟩
  | true =>
    have HV := Lib.hid hv
    clear hv
    go_enter Tryd.func34, Tryd.ntmps34
    go_wp2_with fail
    refine (valid_ref _ _ _).mono ?_
    rw [HV.out]
    rintro e w1 ⟨rfl, hb⟩
    obtain ⟨hc, hf⟩ := bcell hb
    go_wp2_with (go_at_call 42; refine (partsv_ref _ _ _ _ h0 h1 HV.out).mono ?_; rintro e w2 ⟨rfl, rfl⟩)
    go_ret3
    exact ⟨by unfold partsF; rw [if_pos HV.out]; rfl, below_box hb⟩

set_option maxHeartbeats 1000000 in
theorem Ground_refarg (c t x n : Int) (w : World) (hv : ¬ (vldW x n = true ∧ 1 ≤ t ∧ t ≤ 4000)) :
    Calls Tryd.prog 14 #[.int .i64 c, .int .i64 t, .agg #[.int .i64 x, .int .i64 n]] w (Ret3 (groundF c t x n) w) := by
  have e1 := Lib.hid (show groundF c t x n = (0, 0, 1) by unfold groundF; rw [if_neg hv])
  have HN := Lib.hid hv
  clear hv
  cases hvv : vldW x n with
  | false =>
    have H := Lib.hid hvv
    clear hvv
    go_enter Tryd.func14, Tryd.ntmps14
    go_wp2_with (go_at_call 32; refine (valid_ref _ _ _).mono ?_; rw [H.out]; rintro e w1 ⟨rfl, hb⟩)
    go_ret3
    exact ⟨by rw [e1.out]; rfl, below_box hb⟩
  | true =>
    have H := Lib.hid hvv
    clear hvv
    cases g1 : decide (t < 1) with
    | true =>
      go_enter Tryd.func14, Tryd.ntmps14
      go_wp2_with (go_at_call 32; refine (valid_ref _ _ _).mono ?_; rw [H.out]; rintro e w1 ⟨rfl, hb⟩)
      go_ret3
      exact ⟨by rw [e1.out]; rfl, below_box hb⟩
    | false =>
      cases g2 : decide (4000 < t) with
      | true =>
        go_enter Tryd.func14, Tryd.ntmps14
        go_wp2_with (go_at_call 32; refine (valid_ref _ _ _).mono ?_; rw [H.out]; rintro e w1 ⟨rfl, hb⟩)
        go_ret3
        exact ⟨by rw [e1.out]; rfl, below_box hb⟩
      | false =>
        simp at g1 g2
        exact absurd ⟨H.out, by omega, by omega⟩ HN.out

set_option maxHeartbeats 1000000 in
theorem Track_refarg (c t x n : Int) (w : World) (hv : ¬ (vldW x n = true ∧ 1 ≤ t ∧ t ≤ 4000)) :
    Calls Tryd.prog 16 #[.int .i64 c, .int .i64 t, .agg #[.int .i64 x, .int .i64 n]] w (Ret3 (trackF c t x n) w) := by
  have e1 := Lib.hid (show trackF c t x n = (0, 0, 1) by unfold trackF; rw [if_neg hv])
  have HN := Lib.hid hv
  clear hv
  cases hvv : vldW x n with
  | false =>
    have H := Lib.hid hvv
    clear hvv
    go_enter Tryd.func16, Tryd.ntmps16
    go_wp2_with (go_at_call 32; refine (valid_ref _ _ _).mono ?_; rw [H.out]; rintro e w1 ⟨rfl, hb⟩)
    go_ret3
    exact ⟨by rw [e1.out]; rfl, below_box hb⟩
  | true =>
    have H := Lib.hid hvv
    clear hvv
    cases g1 : decide (t < 1) with
    | true =>
      go_enter Tryd.func16, Tryd.ntmps16
      go_wp2_with (go_at_call 32; refine (valid_ref _ _ _).mono ?_; rw [H.out]; rintro e w1 ⟨rfl, hb⟩)
      go_ret3
      exact ⟨by rw [e1.out]; rfl, below_box hb⟩
    | false =>
      cases g2 : decide (4000 < t) with
      | true =>
        go_enter Tryd.func16, Tryd.ntmps16
        go_wp2_with (go_at_call 32; refine (valid_ref _ _ _).mono ?_; rw [H.out]; rintro e w1 ⟨rfl, hb⟩)
        go_ret3
        exact ⟨by rw [e1.out]; rfl, below_box hb⟩
      | false =>
        simp at g1 g2
        exact absurd ⟨H.out, by omega, by omega⟩ HN.out

set_option maxHeartbeats 2000000 in
theorem Ground_refin (c t x n : Int) (w : World) (h0 : -9223372036854775808 ≤ c) (h1 : c ≤ 9223372036854775807) (hv : vldW x n = true) (ht : 1 ≤ t) (ht' : t ≤ 4000) :
    Calls Tryd.prog 14 #[.int .i64 c, .int .i64 t, .agg #[.int .i64 x, .int .i64 n]] w (Ret3 (groundF c t x n) w) := by
  have HV := Lib.hid hv
  have PV := Lib.hid (fun w => partsv_ref c x n w h0 h1 hv)
  have s1 : decide (t < 1) = false := by simp; omega
  have s2 : decide (4000 < t) = false := by simp; omega
  obtain ⟨a0, a1⟩ := along_bd (c := c) hv
  obtain ⟨x0, x1⟩ := across_bd (c := c) hv
  have e1 : groundF c t x n = (if t * 1024 ≤ acrossI c x n ∨ t * 1024 ≤ -acrossI c x n then (0, 0, 10)
    else if alongI c x n + isq (t * 1024 * (t * 1024) - acrossI c x n * acrossI c x n) < 1024 then (0, 0, 10)
    else (alongI c x n + isq (t * 1024 * (t * 1024) - acrossI c x n * acrossI c x n), diffI 0 (atanI (-acrossI c x n) (isq (t * 1024 * (t * 1024) - acrossI c x n * acrossI c x n))), 0)) := by unfold groundF; rw [if_pos ⟨hv, ht, ht'⟩]
  have E1 := Lib.hid e1
  clear e1 hv
  generalize alongI c x n = al at *
  generalize acrossI c x n = ac at *
  have ab := absI_le' (x := ac) x0 x1
  obtain ⟨ab0, ab1⟩ := ab
  have AB := Lib.hid (show ∀ k, (k ≤ absI ac ↔ (k ≤ ac ∨ k ≤ -ac)) by intro k; unfold absI; split <;> omega)
  by_cases f1 : t * 1024 ≤ absI ac
  · go_enter Tryd.func14, Tryd.ntmps14
    go_wp2_with fail
    refine (valid_ref _ _ _).mono ?_
    rw [HV.out]
    rintro e w1 ⟨rfl, hb⟩
    obtain ⟨hc, hf⟩ := bcell hb
    go_wp2_with (first
      | (go_at_call 42; refine (PV.out _).mono ?_; rintro e w2 ⟨rfl, rfl⟩)
      | (go_at_call 43; refine (abs_ref _ _ (by omega) (by omega)).mono ?_; rintro e w2 ⟨rfl, rfl⟩))
    go_ret3
    exact ⟨by rw [E1.out, if_pos ((AB.out _).1 f1)]; rfl, below_box hb⟩
  have F1 : Hid (¬ (t * 1024 ≤ ac ∨ t * 1024 ≤ -ac)) := fun h => f1 ((AB.out _).2 h)
  have f1' : ac < t * 1024 ∧ -ac < t * 1024 := by have := F1.out; omega
  obtain ⟨f3, f4⟩ := f1'
  obtain ⟨u0, u1, u2, u3, u4, u5⟩ := under_bd ht ht' (x := ac) f3 f4
  obtain ⟨r0, r1⟩ := root_bd u0 u1
  obtain ⟨n0, n1⟩ := atanI_range (-ac) (isq (t * 1024 * (t * 1024) - ac * ac))
  by_cases f5 : al + isq (t * 1024 * (t * 1024) - ac * ac) < 1024
  · go_enter Tryd.func14, Tryd.ntmps14
    go_wp2_with fail
    refine (valid_ref _ _ _).mono ?_
    rw [HV.out]
    rintro e w1 ⟨rfl, hb⟩
    obtain ⟨hc, hf⟩ := bcell hb
    go_wp2_with (first
      | (go_at_call 42; refine (PV.out _).mono ?_; rintro e w2 ⟨rfl, rfl⟩)
      | (go_at_call 43; refine (abs_ref _ _ (by omega) (by omega)).mono ?_; rintro e w2 ⟨rfl, rfl⟩)
      | (go_at_call 44; refine (sqrt_ref _ _ (by omega) (by omega)).mono ?_; rintro e w2 ⟨rfl, rfl⟩))
    go_ret3
    exact ⟨by rw [E1.out, if_neg (by omega), if_pos f5]; rfl, below_box hb⟩
  · go_enter Tryd.func14, Tryd.ntmps14
    go_wp2_with fail
    refine (valid_ref _ _ _).mono ?_
    rw [HV.out]
    rintro e w1 ⟨rfl, hb⟩
    obtain ⟨hc, hf⟩ := bcell hb
    go_wp2_with (first
      | (go_at_call 42; refine (PV.out _).mono ?_; rintro e w2 ⟨rfl, rfl⟩)
      | (go_at_call 43; refine (abs_ref _ _ (by omega) (by omega)).mono ?_; rintro e w2 ⟨rfl, rfl⟩)
      | (go_at_call 44; refine (sqrt_ref _ _ (by omega) (by omega)).mono ?_; rintro e w2 ⟨rfl, rfl⟩)
      | (go_at_call 45; refine (atan2_ref _ _ _ (by omega) (by omega) (by omega) (by omega) (.inl (by omega))).mono ?_; rintro e w3 ⟨rfl, rfl⟩)
      | (go_at_call 46; refine (diff_ref _ _ _ (by omega) (by omega) (by omega) (by omega)).mono ?_; rintro e w4 ⟨rfl, rfl⟩))
    go_ret3
    exact ⟨by rw [E1.out, if_neg (by omega), if_neg (by omega)]; rfl, below_box hb⟩
theorem ground_ref (c t x n : Int) (w : World) (h0 : -9223372036854775808 ≤ c) (h1 : c ≤ 9223372036854775807) :
    Calls Tryd.prog 14 #[.int .i64 c, .int .i64 t, .agg #[.int .i64 x, .int .i64 n]] w (Ret3 (groundF c t x n) w) := by
  by_cases hv : vldW x n = true ∧ 1 ≤ t ∧ t ≤ 4000
  · exact Ground_refin c t x n w h0 h1 hv.1 hv.2.1 hv.2.2
  · exact Ground_refarg c t x n w hv

set_option maxHeartbeats 1000000 in
theorem Track_refin (c t x n : Int) (w : World) (h0 : -9223372036854775808 ≤ c) (h1 : c ≤ 9223372036854775807) (hv : vldW x n = true) (ht : 1 ≤ t) (ht' : t ≤ 4000) :
    Calls Tryd.prog 16 #[.int .i64 c, .int .i64 t, .agg #[.int .i64 x, .int .i64 n]] w (Ret3 (trackF c t x n) w) := by
  have H := Lib.hid hv
  have s1 : decide (t < 1) = false := by simp; omega
  have s2 : decide (4000 < t) = false := by simp; omega
  obtain ⟨x0, x1, n0, n1⟩ := vldW_iff.1 hv
  obtain ⟨b0, b1, _, _, b4, b5, b6, b7⟩ := track_bd (h := c) ht ht' x0 x1
  obtain ⟨_, _, d2, d3, _, _, _, _⟩ := track_bd (h := c) ht ht' n0 n1
  have e1 : trackF c t x n = (if isq (trackX c t x * trackX c t x + trackY c t n * trackY c t n) < 1024 then (0, 0, 10)
    else (atanI (trackX c t x) (trackY c t n), isq (trackX c t x * trackX c t x + trackY c t n * trackY c t n), 0)) := by unfold trackF; rw [if_pos ⟨hv, ht, ht'⟩]
  have E1 := Lib.hid e1
  clear e1 hv
  have hxe : shf (t * sinI c + x * 1073741824) = trackX c t x := rfl
  have hye : shf (t * cosI c + n * 1073741824) = trackY c t n := rfl
  have HX := Lib.hid hxe
  have HY := Lib.hid hye
  clear hxe hye
  have hz : trackX c t x = 0 → trackY c t n = 0 → isq (trackX c t x * trackX c t x + trackY c t n * trackY c t n) = 0 := by intro h h'; rw [h, h']; decide
  have HZ := Lib.hid hz
  clear hz
  by_cases f : isq (trackX c t x * trackX c t x + trackY c t n * trackY c t n) < 1024
  · go_enter Tryd.func16, Tryd.ntmps16
    go_wp2_with (go_at_call 32; refine (valid_ref _ _ _).mono ?_; rw [H.out]; rintro e w1 ⟨rfl, hb⟩)
    obtain ⟨hc, hf⟩ := bcell hb
    go_quiet ((first
      | (go_at_call 52; exact quiet_left (sin_ref _ _ h0 h1))
      | (go_at_call 51; exact quiet_left (round20_ref _ _ (by omega) (by omega)))))
    go_wp2
    go_quiet ((first
      | (go_at_call 53; exact quiet_add_left (cos_ref _ _ h0 h1))
      | (go_at_call 51; exact quiet_add_left (round20_ref _ _ (by omega) (by omega)))))
    rw [HX.out, HY.out]
    go_wp2_with (go_at_call 54; refine (hypot_ref _ _ _ (by omega) (by omega) (by omega) (by omega)).mono ?_; rintro e w2 ⟨rfl, rfl⟩)
    go_ret3
    exact ⟨by rw [E1.out, if_pos f]; rfl, below_drewN (below_box hb) _⟩
  · go_enter Tryd.func16, Tryd.ntmps16
    go_wp2_with (go_at_call 32; refine (valid_ref _ _ _).mono ?_; rw [H.out]; rintro e w1 ⟨rfl, hb⟩)
    obtain ⟨hc, hf⟩ := bcell hb
    go_quiet ((first
      | (go_at_call 52; exact quiet_left (sin_ref _ _ h0 h1))
      | (go_at_call 51; exact quiet_left (round20_ref _ _ (by omega) (by omega)))))
    go_wp2
    go_quiet ((first
      | (go_at_call 53; exact quiet_add_left (cos_ref _ _ h0 h1))
      | (go_at_call 51; exact quiet_add_left (round20_ref _ _ (by omega) (by omega)))))
    rw [HX.out, HY.out]
    go_wp2_with (first
      | (go_at_call 54; refine (hypot_ref _ _ _ (by omega) (by omega) (by omega) (by omega)).mono ?_; rintro e w2 ⟨rfl, rfl⟩)
      | (go_at_call 45; refine (atan2_ref _ _ _ (by omega) (by omega) (by omega) (by omega) (by have := HZ.out; omega)).mono ?_; rintro e w3 ⟨rfl, rfl⟩))
    go_ret3
    exact ⟨by rw [E1.out, if_neg (by omega)]; rfl, below_drewN (below_box hb) _⟩
theorem track_ref (c t x n : Int) (w : World) (h0 : -9223372036854775808 ≤ c) (h1 : c ≤ 9223372036854775807) :
    Calls Tryd.prog 16 #[.int .i64 c, .int .i64 t, .agg #[.int .i64 x, .int .i64 n]] w (Ret3 (trackF c t x n) w) := by
  by_cases hv : vldW x n = true ∧ 1 ≤ t ∧ t ≤ 4000
  · exact Track_refin c t x n w h0 h1 hv.1 hv.2.1 hv.2.2
  · exact Track_refarg c t x n w hv
end Go.Proofs.YtdfpbojlimeccaaDoor

