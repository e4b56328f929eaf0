/-
  The walks of package wind: components, ground speeds, tracks.
-/
import Derived.Test.YtdfpbojlimeccaaDoorWindPlain
import Derived.Test.YtdfpbojlimeccaaDoorRootWalks
namespace Go.Proofs.YtdfpbojlimeccaaDoor
set_option linter.unusedVariables false
open Go.RowKit Tr Sq

theorem bcell {W w1 : World} (hb : Below W.heap.size W w1) : (∀ b o, b < W.heap.size → w1.cell? ⟨b, o, none⟩ = W.cell? ⟨b, o, none⟩) ∧ (∀ b o, b < W.heap.size → w1.frozen? ⟨b, o, none⟩ = W.frozen? ⟨b, o, none⟩) :=
  ⟨fun b o h => hb.cell (p := ⟨b, o, none⟩) h, fun b o h => hb.frozen (p := ⟨b, o, none⟩) h⟩
theorem below_box {w w1 : World} {o : Obj} (hb : Below (w.alloc o).heap.size (w.alloc o) w1) : Below w.heap.size w w1 := ((Below.refl _ _).alloc (Nat.le_refl _) _).trans (hb.mono (by simp))
/-- three integers as a result -/
def Ret3 (r : Int × Int × Int) (w : World) (e : Ending) (w' : World) : Prop := e = .returned (.tuple #[.int .i64 r.1, .int .i64 r.2.1, .int .i64 r.2.2]) ∧ Below w.heap.size w w'

theorem shift_any (a : Int) (w : World) (h0 : -4611686018427387904 ≤ a) (h1 : a ≤ 4611686018427387904) :
    Calls Tryd.prog 47 #[.int .i64 a] w fun e w' => e = .returned (.int .i64 (shf a)) ∧ w = w' := by
  go_enter Tryd.func47, Tryd.ntmps47
  go_wp2
  go_ret
  exact ⟨rfl, rfl⟩
def smB (n : Int) : Bool := decide (-400 ≤ n ∧ n ≤ 400)
theorem small_any (n : Int) (w : World) :
    Calls Tryd.prog 64 #[.int .i64 n] w fun e w' => e = .returned (.bool (smB n)) ∧ w = w' := by
  rcases Int.lt_or_le n (-400) with h | h
  · have g1 : decide (-400 ≤ n) = false := by simp; omega
    have e : smB n = false := by unfold smB; simp; omega
    go_enter Tryd.func64, Tryd.ntmps64
    go_wp2
    go_ret
    exact ⟨by rw [e]; rfl, rfl⟩
  · rcases Int.lt_or_le 400 n with h' | h'
    · have g1 : decide (-400 ≤ n) = true := by simp; omega
      have g2 : decide (n ≤ 400) = false := by simp; omega
      have e : smB n = false := by unfold smB; simp; omega
      go_enter Tryd.func64, Tryd.ntmps64
      go_wp2
      go_ret
      exact ⟨by rw [e]; rfl, rfl⟩
    · have g1 : decide (-400 ≤ n) = true := by simp; omega
      have g2 : decide (n ≤ 400) = true := by simp; omega
      have e : smB n = true := by unfold smB; simp; omega
      go_enter Tryd.func64, Tryd.ntmps64
      go_wp2
      go_ret
      exact ⟨by rw [e]; rfl, rfl⟩
theorem vld_small (e n : Int) : vldW e n = (smB e && smB n) := by
  unfold vldW smB
  rw [Bool.eq_iff_iff]; simp; omega
theorem valid_any (x n : Int) (w : World) :
    Calls Tryd.prog 33 #[.agg #[.int .i64 x, .int .i64 n]] w fun e w' => e = .returned (.bool (vldW x n)) ∧ Below w.heap.size w w' := by
  have hv := Lib.hid (vld_small x n)
  cases hx : smB x <;> cases hn : smB n
  all_goals
    go_enter Tryd.func33, Tryd.ntmps33
    go_wp2_with (go_at_call 64; refine (small_any _ _).mono ?_; rintro e w' ⟨rfl, rfl⟩)
    go_ret
    exact ⟨by rw [hv.out, hx, hn]; rfl, (Below.refl _ _).alloc (Nat.le_refl _) _⟩
theorem speed_any (n : Int) (w : World) :
    Calls Tryd.prog 39 #[.int .i64 n] w fun e w' => e = .returned (.bool (decide (1 ≤ n ∧ n ≤ 4000))) ∧ w = w' := by
  rcases Int.lt_or_le n 1 with h | h
  · have g1 : decide (1 ≤ n) = false := by simp; omega
    have e : decide (1 ≤ n ∧ n ≤ 4000) = false := by simp; omega
    go_enter Tryd.func39, Tryd.ntmps39
    go_wp2
    go_ret
    exact ⟨by rw [e]; rfl, rfl⟩
  · rcases Int.lt_or_le 4000 n with h' | h'
    · have g1 : decide (1 ≤ n) = true := by simp; omega
      have g2 : decide (n ≤ 4000) = false := by simp; omega
      have e : decide (1 ≤ n ∧ n ≤ 4000) = false := by simp; omega
      go_enter Tryd.func39, Tryd.ntmps39
      go_wp2
      go_ret
      exact ⟨by rw [e]; rfl, rfl⟩
    · have g1 : decide (1 ≤ n) = true := by simp; omega
      have g2 : decide (n ≤ 4000) = true := by simp; omega
      have e : decide (1 ≤ n ∧ n ≤ 4000) = true := by simp; omega
      go_enter Tryd.func39, Tryd.ntmps39
      go_wp2
      go_ret
      exact ⟨by rw [e]; rfl, rfl⟩

set_option maxHeartbeats 1000000 in
theorem parts_good (c x n : Int) (w : World) (h0 : -9223372036854775808 ≤ c) (h1 : c ≤ 9223372036854775807) (hv : vldW x n = true) :
    Calls Tryd.prog 19 #[.int .i64 c, .agg #[.int .i64 x, .int .i64 n]] w (Ret3 (partsF c x n) w) := by
  obtain ⟨a, b, d, f⟩ := vldW_iff.1 hv
  obtain ⟨s1, s2⟩ := sinI_range c
  obtain ⟨c1, c2⟩ := cosI_range c
  obtain ⟨p0, p1⟩ := sprod4 a b s1 s2
  obtain ⟨p2, p3⟩ := sprod4 d f c1 c2
  obtain ⟨p4, p5⟩ := sprod4 a b c1 c2
  obtain ⟨p6, p7⟩ := sprod4 d f s1 s2
  go_enter Tryd.func19, Tryd.ntmps19
  go_wp2_with (go_at_call 33; refine (valid_any _ _ _).mono ?_; rintro e w1 ⟨rfl, hb⟩)
  obtain ⟨hc, hf⟩ := bcell hb
  go_wp2_with (first
    | (go_at_call 48; refine (sin_any _ _ h0 h1).mono ?_; rintro e w' ⟨rfl, rfl⟩)
    | (go_at_call 49; refine (cos_any _ _ h0 h1).mono ?_; rintro e w' ⟨rfl, rfl⟩))
  go_quiet ((go_at_call 47; exact quiet_left (shift_any _ _ (by omega) (by omega))))
  go_wp2
  go_ret3
  exact ⟨by unfold partsF; rw [if_pos hv]; rfl, below_drewN (below_box hb) _⟩
theorem parts_bad (c x n : Int) (w : World) (hv : vldW x n = false) :
    Calls Tryd.prog 19 #[.int .i64 c, .agg #[.int .i64 x, .int .i64 n]] w (Ret3 (partsF c x n) w) := by
  go_enter Tryd.func19, Tryd.ntmps19
  go_wp2_with (go_at_call 33; refine (valid_any _ _ _).mono ?_; rintro e w1 ⟨rfl, hb⟩)
  go_ret3
  exact ⟨by unfold partsF; rw [if_neg (by simp [hv])]; rfl, below_box hb⟩
theorem parts_any (c x n : Int) (w : World) (h0 : -9223372036854775808 ≤ c) (h1 : c ≤ 9223372036854775807) :
    Calls Tryd.prog 19 #[.int .i64 c, .agg #[.int .i64 x, .int .i64 n]] w (Ret3 (partsF c x n) w) := by
  cases hv : vldW x n with
  | false => exact parts_bad c x n w hv
  | true => exact parts_good c x n w h0 h1 hv

theorem ground_arg (c t x n : Int) (w : World) (h0 : -9223372036854775808 ≤ c) (h1 : c ≤ 9223372036854775807) (hv : ¬ (vldW x n = true ∧ 1 ≤ t ∧ t ≤ 4000)) :
    Calls Tryd.prog 13 #[.int .i64 c, .int .i64 t, .agg #[.int .i64 x, .int .i64 n]] w (Ret3 (groundF c t x n) w) := by
  have e1 := Lib.hid (show groundF c t x n = (0, 0, 1) by unfold groundF; rw [if_neg hv])
  cases hvv : vldW x n with
  | false =>
    have p1 : partsF c x n = (0, 0, 1) := by unfold partsF; rw [if_neg (by simp [hvv])]
    have P1 := Lib.hid p1
    clear p1 hv
    go_enter Tryd.func13, Tryd.ntmps13
    go_wp2_with (go_at_call 19; refine (parts_any _ _ _ _ h0 h1).mono ?_; rw [P1.out]; rintro e w1 ⟨rfl, hb⟩)
    go_ret3
    exact ⟨by rw [e1.out]; rfl, below_box hb⟩
  | true =>
    have p1 : partsF c x n = (alongI c x n, acrossI c x n, 0) := by unfold partsF; rw [if_pos hvv]
    have P1 := Lib.hid p1
    have s1 : decide (1 ≤ t ∧ t ≤ 4000) = false := decide_eq_false (fun h => hv ⟨hvv, h⟩)
    have S1 := Lib.hid s1
    clear p1 hv s1
    go_enter Tryd.func13, Tryd.ntmps13
    go_wp2_with (first
      | (go_at_call 19; refine (parts_any _ _ _ _ h0 h1).mono ?_; rw [P1.out]; rintro e w1 ⟨rfl, hb⟩)
      | (go_at_call 39; refine (speed_any _ _).mono ?_; rw [S1.out]; rintro e w2 ⟨rfl, rfl⟩))
    go_ret3
    exact ⟨by rw [e1.out]; rfl, below_box hb⟩
set_option maxHeartbeats 1000000 in
theorem ground_in (c t x n : Int) (w : World) (h0 : -9223372036854775808 ≤ c) (h1 : c ≤ 9223372036854775807) (hv : vldW x n = true) (ht : 1 ≤ t) (ht' : t ≤ 4000) :
    Calls Tryd.prog 13 #[.int .i64 c, .int .i64 t, .agg #[.int .i64 x, .int .i64 n]] w (Ret3 (groundF c t x n) w) := by
  have p1 : partsF c x n = (alongI c x n, acrossI c x n, 0) := by unfold partsF; rw [if_pos hv]
  have P1 := Lib.hid p1
  have S1 := Lib.hid (show decide (1 ≤ t ∧ t ≤ 4000) = true from decide_eq_true ⟨ht, ht'⟩)
  obtain ⟨a0, a1⟩ := along_bd (c := c) hv
  obtain ⟨x0, x1⟩ := across_bd (c := c) hv
  have e1 : groundF c t x n = (if t * 1024 ≤ acrossI c x n ∨ t * 1024 ≤ -acrossI c x n then (0, 0, 10)
    else if alongI c x n + isq (t * 1024 * (t * 1024) - acrossI c x n * acrossI c x n) < 1024 then (0, 0, 10)
    else (alongI c x n + isq (t * 1024 * (t * 1024) - acrossI c x n * acrossI c x n), diffI 0 (atanI (-acrossI c x n) (isq (t * 1024 * (t * 1024) - acrossI c x n * acrossI c x n))), 0)) := by unfold groundF; rw [if_pos ⟨hv, ht, ht'⟩]
  have E1 := Lib.hid e1
  clear p1 e1 hv
  generalize alongI c x n = al at *
  generalize acrossI c x n = ac at *
  by_cases f1 : t * 1024 ≤ ac
  · have g1 : decide (t * 1024 ≤ ac) = true := by simpa using f1
    go_enter Tryd.func13, Tryd.ntmps13
    go_wp2_with (first
      | (go_at_call 19; refine (parts_any _ _ _ _ h0 h1).mono ?_; rw [P1.out]; rintro e w1 ⟨rfl, hb⟩)
      | (go_at_call 39; refine (speed_any _ _).mono ?_; rw [S1.out]; rintro e w2 ⟨rfl, rfl⟩))
    go_ret3
    exact ⟨by rw [E1.out, if_pos (.inl f1)]; rfl, below_box hb⟩
  by_cases f2 : t * 1024 ≤ -ac
  · have g1 : decide (t * 1024 ≤ ac) = false := by simpa using f1
    have g2 : decide (t * 1024 ≤ -ac) = true := by simpa using f2
    go_enter Tryd.func13, Tryd.ntmps13
    go_wp2_with (first
      | (go_at_call 19; refine (parts_any _ _ _ _ h0 h1).mono ?_; rw [P1.out]; rintro e w1 ⟨rfl, hb⟩)
      | (go_at_call 39; refine (speed_any _ _).mono ?_; rw [S1.out]; rintro e w2 ⟨rfl, rfl⟩))
    go_ret3
    exact ⟨by rw [E1.out, if_pos (.inr f2)]; rfl, below_box hb⟩
  obtain ⟨u0, u1, u2, u3, u4, u5⟩ := under_bd ht ht' (x := ac) (by omega) (by omega)
  obtain ⟨r0, r1⟩ := root_bd u0 u1
  have g1 : decide (t * 1024 ≤ ac) = false := by simpa using f1
  have g2 : decide (t * 1024 ≤ -ac) = false := by simpa using f2
  obtain ⟨n0, n1⟩ := atanI_range (-ac) (isq (t * 1024 * (t * 1024) - ac * ac))
  by_cases f3 : al + isq (t * 1024 * (t * 1024) - ac * ac) < 1024
  · go_enter Tryd.func13, Tryd.ntmps13
    go_wp2_with (first
      | (go_at_call 19; refine (parts_any _ _ _ _ h0 h1).mono ?_; rw [P1.out]; rintro e w1 ⟨rfl, hb⟩)
      | (go_at_call 39; refine (speed_any _ _).mono ?_; rw [S1.out]; rintro e w2 ⟨rfl, rfl⟩)
      | (go_at_call 40; refine (sqrt_any _ _ (by omega) (by omega)).mono ?_; rintro e w2 ⟨rfl, rfl⟩))
    go_ret3
    exact ⟨by rw [E1.out, if_neg (by omega), if_pos f3]; rfl, below_box hb⟩
  · go_enter Tryd.func13, Tryd.ntmps13
    go_wp2_with (first
      | (go_at_call 19; refine (parts_any _ _ _ _ h0 h1).mono ?_; rw [P1.out]; rintro e w1 ⟨rfl, hb⟩)
      | (go_at_call 39; refine (speed_any _ _).mono ?_; rw [S1.out]; rintro e w2 ⟨rfl, rfl⟩)
      | (go_at_call 40; refine (sqrt_any _ _ (by omega) (by omega)).mono ?_; rintro e w2 ⟨rfl, rfl⟩)
      | (go_at_call 41; refine (atan2_ok _ _ _ (by omega) (by omega) (by omega) (by omega) (.inl (by omega))).mono ?_; rintro e w3 ⟨rfl, hb3⟩)
      | (go_at_call 22; refine (diff_any _ _ _ (by omega) (by omega) (by omega) (by omega)).mono ?_; rintro e w4 ⟨rfl, rfl⟩))
    go_ret3
    exact ⟨by rw [E1.out, if_neg (by omega), if_neg (by omega)]; rfl, (below_box hb).trans (hb3.mono (below_box hb).size)⟩
theorem ground_any (c t x n : Int) (w : World) (h0 : -9223372036854775808 ≤ c) (h1 : c ≤ 9223372036854775807) :
    Calls Tryd.prog 13 #[.int .i64 c, .int .i64 t, .agg #[.int .i64 x, .int .i64 n]] w (Ret3 (groundF c t x n) w) := by
  by_cases hv : vldW x n = true ∧ 1 ≤ t ∧ t ≤ 4000
  · exact ground_in c t x n w h0 h1 hv.1 hv.2.1 hv.2.2
  · exact ground_arg c t x n w h0 h1 hv
theorem track_arg (c t x n : Int) (w : World) (hv : ¬ (vldW x n = true ∧ 1 ≤ t ∧ t ≤ 4000)) :
    Calls Tryd.prog 15 #[.int .i64 c, .int .i64 t, .agg #[.int .i64 x, .int .i64 n]] w (Ret3 (trackF c t x n) w) := by
  have e1 := Lib.hid (show trackF c t x n = (0, 0, 1) by unfold trackF; rw [if_neg hv])
  cases hvv : vldW x n with
  | false =>
    have H := Lib.hid hvv
    clear hv hvv
    go_enter Tryd.func15, Tryd.ntmps15
    go_wp2_with (go_at_call 33; refine (valid_any _ _ _).mono ?_; rw [H.out]; rintro e w1 ⟨rfl, hb⟩)
    go_ret3
    exact ⟨by rw [e1.out]; rfl, below_box hb⟩
  | true =>
    have H := Lib.hid hvv
    have S1 := Lib.hid (show decide (1 ≤ t ∧ t ≤ 4000) = false from decide_eq_false (fun h => hv ⟨hvv, h⟩))
    clear hv hvv
    go_enter Tryd.func15, Tryd.ntmps15
    go_wp2_with (first
      | (go_at_call 33; refine (valid_any _ _ _).mono ?_; rw [H.out]; rintro e w1 ⟨rfl, hb⟩)
      | (go_at_call 39; refine (speed_any _ _).mono ?_; rw [S1.out]; rintro e w2 ⟨rfl, rfl⟩))
    go_ret3
    exact ⟨by rw [e1.out]; rfl, below_box hb⟩
set_option maxHeartbeats 1000000 in
theorem track_in (c t x n : Int) (w : World) (h0 : -9223372036854775808 ≤ c) (h1 : c ≤ 9223372036854775807) (hv : vldW x n = true) (ht : 1 ≤ t) (ht' : t ≤ 4000) :
    Calls Tryd.prog 15 #[.int .i64 c, .int .i64 t, .agg #[.int .i64 x, .int .i64 n]] w (Ret3 (trackF c t x n) w) := by
  have H := Lib.hid hv
  have S1 := Lib.hid (show decide (1 ≤ t ∧ t ≤ 4000) = true from decide_eq_true ⟨ht, ht'⟩)
  obtain ⟨x0, x1, n0, n1⟩ := vldW_iff.1 hv
  obtain ⟨b0, b1, _, _, b4, b5, b6, b7⟩ := track_bd (h := c) ht ht' x0 x1
  obtain ⟨_, _, d2, d3, _, _, _, _⟩ := track_bd (h := c) ht ht' n0 n1
  have e1 : trackF c t x n = (if isq (trackX c t x * trackX c t x + trackY c t n * trackY c t n) < 1024 then (0, 0, 10)
    else (atanI (trackX c t x) (trackY c t n), isq (trackX c t x * trackX c t x + trackY c t n * trackY c t n), 0)) := by unfold trackF; rw [if_pos ⟨hv, ht, ht'⟩]
  have E1 := Lib.hid e1
  clear e1 hv
  have hxe : shf (t * sinI c + x * 1073741824) = trackX c t x := rfl
  have hye : shf (t * cosI c + n * 1073741824) = trackY c t n := rfl
  have HX := Lib.hid hxe
  have HY := Lib.hid hye
  clear hxe hye
  have hz : trackX c t x = 0 → trackY c t n = 0 → isq (trackX c t x * trackX c t x + trackY c t n * trackY c t n) = 0 := by intro h h'; rw [h, h']; decide
  have HZ := Lib.hid hz
  clear hz
  by_cases f : isq (trackX c t x * trackX c t x + trackY c t n * trackY c t n) < 1024
  · go_enter Tryd.func15, Tryd.ntmps15
    go_wp2_with (first
      | (go_at_call 33; refine (valid_any _ _ _).mono ?_; rw [H.out]; rintro e w1 ⟨rfl, hb⟩)
      | (go_at_call 39; refine (speed_any _ _).mono ?_; rw [S1.out]; rintro e w2 ⟨rfl, rfl⟩))
    obtain ⟨hc, hf⟩ := bcell hb
    go_quiet ((first
      | (go_at_call 48; exact quiet_left (sin_any _ _ h0 h1))
      | (go_at_call 47; exact quiet_left (shift_any _ _ (by omega) (by omega)))))
    go_wp2
    go_quiet ((first
      | (go_at_call 49; exact quiet_add_left (cos_any _ _ h0 h1))
      | (go_at_call 47; exact quiet_add_left (shift_any _ _ (by omega) (by omega)))))
    rw [HX.out, HY.out]
    go_wp2_with (go_at_call 50; refine (hypot_ok _ _ _ (by omega) (by omega) (by omega) (by omega)).mono ?_; rintro e w2 ⟨rfl, rfl⟩)
    go_ret3
    exact ⟨by rw [E1.out, if_pos f]; rfl, below_drewN (below_box hb) _⟩
  · go_enter Tryd.func15, Tryd.ntmps15
    go_wp2_with (first
      | (go_at_call 33; refine (valid_any _ _ _).mono ?_; rw [H.out]; rintro e w1 ⟨rfl, hb⟩)
      | (go_at_call 39; refine (speed_any _ _).mono ?_; rw [S1.out]; rintro e w2 ⟨rfl, rfl⟩))
    obtain ⟨hc, hf⟩ := bcell hb
    go_quiet ((first
      | (go_at_call 48; exact quiet_left (sin_any _ _ h0 h1))
      | (go_at_call 47; exact quiet_left (shift_any _ _ (by omega) (by omega)))))
    go_wp2
    go_quiet ((first
      | (go_at_call 49; exact quiet_add_left (cos_any _ _ h0 h1))
      | (go_at_call 47; exact quiet_add_left (shift_any _ _ (by omega) (by omega)))))
    rw [HX.out, HY.out]
    go_wp2_with (first
      | (go_at_call 50; refine (hypot_ok _ _ _ (by omega) (by omega) (by omega) (by omega)).mono ?_; rintro e w2 ⟨rfl, rfl⟩)
      | (go_at_call 41; refine (atan2_ok _ _ _ (by omega) (by omega) (by omega) (by omega) (by have := HZ.out; omega)).mono ?_; rintro e w3 ⟨rfl, hb3⟩))
    go_ret3
    exact ⟨by rw [E1.out, if_neg (by omega)]; rfl, (below_drewN (below_box hb) _).trans (hb3.mono (below_drewN (below_box hb) _).size)⟩
theorem track_any (c t x n : Int) (w : World) (h0 : -9223372036854775808 ≤ c) (h1 : c ≤ 9223372036854775807) :
    Calls Tryd.prog 15 #[.int .i64 c, .int .i64 t, .agg #[.int .i64 x, .int .i64 n]] w (Ret3 (trackF c t x n) w) := by
  by_cases hv : vldW x n = true ∧ 1 ≤ t ∧ t ≤ 4000
  · exact track_in c t x n w h0 h1 hv.1 hv.2.1 hv.2.2
  · exact track_arg c t x n w hv
end Go.Proofs.YtdfpbojlimeccaaDoor
