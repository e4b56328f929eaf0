/-
  The walk of layer 30's crossover altitude: the search over a closure.
-/
import Derived.Test.YtnaokohffelklaaDoorAirSpeed
namespace Go.Proofs.YtnaokohffelklaaDoor
set_option linter.unusedVariables false
open Go.RowKit Sq

theorem cell_keep {w w1 : World} (hb : Below w.heap.size w w1) {b : Nat} (hz : b < w.heap.size) {v : Value} (h : w.cell? ⟨b, 0, none⟩ = some v) : w1.cell? ⟨b, 0, none⟩ = some v :=
  (hb.cell (p := ⟨b, 0, none⟩) hz).trans h
def atB (c m dev i : Int) : Bool := decide (m ≤ machAtI c (-200000 + i) dev)
set_option maxHeartbeats 1000000 in
theorem cross_fn (c m dev i : Int) (b1 b2 b3 : Nat) (w : World) (c0 : 0 ≤ c) (c1 : c ≤ 1000) (hd : DevOk dev) (i0 : 0 ≤ i) (i1 : i < 6200001)
    (z1 : b1 < w.heap.size) (z2 : b2 < w.heap.size) (z3 : b3 < w.heap.size)
    (h1 : w.cell? ⟨b1, 0, none⟩ = some (.int .i64 c)) (h2 : w.cell? ⟨b2, 0, none⟩ = some (.int .i64 dev)) (h3 : w.cell? ⟨b3, 0, none⟩ = some (.int .i64 m)) :
    Calls Tryd.prog 37 #[.int .i64 i, .pointer (some ⟨b1, 0, none⟩), .pointer (some ⟨b2, 0, none⟩), .pointer (some ⟨b3, 0, none⟩)] w fun e w' => e = .returned (.bool (atB c m dev i)) ∧ Below w.heap.size w w' := by
  have ha : AltOk (-200000 + i) := ⟨by omega, by omega⟩
  have hk := chk_of ha hd
  obtain ⟨t0, t1⟩ := tas_bd c0 c1 ha hd
  have ET := Lib.hid (show tasF c (-200000 + i) dev = (tasI c (-200000 + i) dev, 0) by unfold tasF; rw [if_pos (wit_iff.2 ⟨c0, c1⟩), if_pos hk])
  have EM := Lib.hid (show machF (tasI c (-200000 + i) dev) (-200000 + i) dev = (machAtI c (-200000 + i) dev, 0) by unfold machF; rw [if_pos (wit_iff.2 ⟨t0, by omega⟩), if_pos hk]; rfl)
  have E := Lib.hid (show atB c m dev i = decide (m ≤ machAtI c (-200000 + i) dev) from rfl)
  clear hk ha
  generalize tasI c (-200000 + i) dev = t at *
  generalize machAtI c (-200000 + i) dev = q at *
  go_enter Tryd.func37, Tryd.ntmps37
  go_wp2_with fail
  refine (tas_any _ _ _ _).mono ?_
  rw [ET.out]
  rintro e w1 ⟨rfl, hb1⟩
  have k2 := cell_keep hb1 z2 h2
  have k3 := cell_keep hb1 z3 h3
  have y3 : b3 < w1.heap.size := Nat.lt_of_lt_of_le z3 hb1.size
  have H1 := Lib.hid hb1
  clear hb1 h1 h2 h3
  go_wp2_with fail
  refine (mach_any _ _ _ _).mono ?_
  rw [EM.out]
  rintro e w2 ⟨rfl, hb2⟩
  have l3 := cell_keep hb2 y3 k3
  have H2 := Lib.hid hb2
  clear hb2 k2 k3
  go_wp2
  go_ret
  exact ⟨by rw [E.out]; rfl, H1.out.trans (H2.out.mono H1.out.size)⟩
set_option maxHeartbeats 1000000 in
theorem search_cross (pB : Int → Bool) (n : Nat) (a1 a2 a3 : Addr) (w : World) (hn : n < 4611686018427387904)
    (hf : ∀ W, Below w.heap.size w W → ∀ i : Int, 0 ≤ i → i < n → Calls Tryd.prog 37 #[.int .i64 i, .pointer (some a1), .pointer (some a2), .pointer (some a3)] W fun e w' => e = .returned (.bool (pB i)) ∧ Below W.heap.size W w')
    (hmono : ∀ a b : Int, 0 ≤ a → a ≤ b → b < n → pB a = true → pB b = true) :
    Calls Tryd.prog 38 #[.int .i64 n, .func (.func 37) #[] #[.pointer (some a1), .pointer (some a2), .pointer (some a3)]] w (SearchPost pB n w) := by
  have HF := Lib.hid hf
  have M := Lib.hid hmono
  clear hf hmono
  go_enter Tryd.func38, Tryd.ntmps38
  go_wp2
  go_loopg [5, 6] n (fun kx s5 s6 wr => ∃ (lo hi : Nat), s5 = .int .i64 lo ∧ s6 = .int .i64 hi ∧ lo ≤ hi ∧ hi ≤ n ∧ hi - lo ≤ kx ∧ Below w.heap.size w wr ∧ Hid (Around pB n lo hi))
  case atStart => exact ⟨0, n, rfl, rfl, Nat.zero_le _, Nat.le_refl _, by omega, Below.refl _ _, ⟨fun t h0 ht => absurd ht (by omega), fun t h1 h2 => by omega⟩⟩
  case round =>
    obtain ⟨lo, hi, rfl, rfl, hlh, hin, hg, hb, I⟩ := hrel
    by_cases hlt : lo < hi
    · have hc := HF.out _ hb (((lo + hi) / 2 : Nat) : Int) (by omega) (by omega)
      rw [show (((lo + hi) / 2 : Nat) : Int) = ((lo : Int) + (hi : Int)) / 2 by omega] at hc
      cases hp : pB (((lo : Int) + (hi : Int)) / 2) <;> rw [hp] at hc
      · have HP := Lib.hid hp
        clear hp
        go_wp2_with (go_at_call 37; refine hc.mono ?_; rintro e w' ⟨rfl, hb'⟩)
        go_roundg (hi - ((lo + hi) / 2 + 1))
        case measure => omega
        case rel =>
          refine ⟨(lo + hi) / 2 + 1, hi, by rw [show ((lo : Int) + (hi : Int)) / 2 + 1 = (((lo + hi) / 2 + 1 : Nat) : Int) by omega], rfl, by omega, hin, Nat.le_refl _, hb.trans (hb'.mono hb.size), ⟨fun t h0 ht => ?_, I.out.2⟩⟩
          cases h : pB t with
          | false => rfl
          | true =>
            have := M.out t (((lo : Int) + (hi : Int)) / 2) h0 (by omega) (by omega) h
            rw [HP.out] at this; cases this
      · have HP := Lib.hid hp
        clear hp
        go_wp2_with (go_at_call 37; refine hc.mono ?_; rintro e w' ⟨rfl, hb'⟩)
        go_roundg ((lo + hi) / 2 - lo)
        case measure => omega
        case rel =>
          refine ⟨lo, (lo + hi) / 2, rfl, by rw [show ((lo : Int) + (hi : Int)) / 2 = (((lo + hi) / 2 : Nat) : Int) by omega], by omega, by omega, Nat.le_refl _, hb.trans (hb'.mono hb.size), ⟨I.out.1, fun t ht htn => ?_⟩⟩
          exact M.out (((lo : Int) + (hi : Int)) / 2) t (by omega) (by omega) htn HP.out
    · obtain rfl : hi = lo := by omega
      go_wp2
      go_ret
      exact ⟨hi, rfl, ⟨by omega, by omega, I.out.1, I.out.2⟩, hb⟩
/-- .. at the crossover's bound -/
theorem search_at (c m dev : Int) (b1 b2 b3 : Nat) (w : World) (c0 : 0 ≤ c) (c1 : c ≤ 1000) (hd : DevOk dev)
    (z1 : b1 < w.heap.size) (z2 : b2 < w.heap.size) (z3 : b3 < w.heap.size)
    (h1 : w.cell? ⟨b1, 0, none⟩ = some (.int .i64 c)) (h2 : w.cell? ⟨b2, 0, none⟩ = some (.int .i64 dev)) (h3 : w.cell? ⟨b3, 0, none⟩ = some (.int .i64 m)) :
    Calls Tryd.prog 38 #[.int .i64 6200001, .func (.func 37) #[] #[.pointer (some ⟨b1, 0, none⟩), .pointer (some ⟨b2, 0, none⟩), .pointer (some ⟨b3, 0, none⟩)]] w
      fun e w' => e = .returned (.int .i64 (crossI c m dev + 200000)) ∧ Below w.heap.size w w' := by
  refine (search_cross (atB c m dev) 6200001 ⟨b1, 0, none⟩ ⟨b2, 0, none⟩ ⟨b3, 0, none⟩ w (by decide) (fun W hW i i0 i1 => ?_) (fun a b h0 hab hb h => ?_)).mono ?_
  · exact cross_fn c m dev i b1 b2 b3 W c0 c1 hd i0 i1 (Nat.lt_of_lt_of_le z1 hW.size) (Nat.lt_of_lt_of_le z2 hW.size) (Nat.lt_of_lt_of_le z3 hW.size) (cell_keep hW z1 h1) (cell_keep hW z2 h2) (cell_keep hW z3 h3)
  · have hb : b < 6200001 := hb
    have := machAt_up (cas := c) c0 (a := -200000 + a) (b := -200000 + b) ⟨by omega, by omega⟩ ⟨by omega, by omega⟩ (by omega) hd
    have := of_decide_eq_true h
    exact decide_eq_true (by omega)
  · rintro e w' ⟨k, rfl, hk, hb⟩
    have k0 := hk.lo
    have k1 : k ≤ 6200001 := hk.hi
    have hx : IsCross c m dev (k - 200000) := by
      refine ⟨by omega, by omega, fun q => ?_, fun alt h0 h1 => ?_⟩
      · have := of_decide_eq_true (hk.yes k (by omega) (show k < 6200001 by omega))
        rwa [show -200000 + k = k - 200000 by omega] at this
      · have := of_decide_eq_false (hk.no (alt + 200000) (by omega) (by omega))
        rw [show -200000 + (alt + 200000) = alt by omega] at this
        omega
    have := hx.uniq (cross_is (cas := c) (mach := m) c0 hd)
    exact ⟨by rw [← this]; congr 2; omega, hb⟩
set_option maxHeartbeats 2000000 in
theorem cross_any (c m dev : Int) (w : World) :
    Calls Tryd.prog 21 #[.int .i64 c, .int .i64 m, .int .i64 dev] w fun e w' => e = .returned (.tuple #[.int .i64 (crsF c m dev).1, .int .i64 (crsF c m dev).2]) ∧ Below w.heap.size w w' := by
  have HC := fun w => within_any c 1000 w
  have HM := fun w => within_any m 2000 w
  cases hc : witB c 1000 with
  | false =>
    rw [hc] at HC
    have HC1 := Lib.hid HC
    have E := Lib.hid (show crsF c m dev = (0, 1) by unfold crsF; simp [hc])
    clear hc HM HC
    go_enter Tryd.func21, Tryd.ntmps21
    go_wp2_with (go_at_call 29; refine (HC1.out _).mono ?_; rintro e w1 ⟨rfl, rfl⟩)
    go_ret2
    exact ⟨by rw [E.out]; rfl, ((((Below.refl w.heap.size w).alloc (by simp) _).alloc (by simp) _).alloc (by simp; try omega) _)⟩
  | true =>
    obtain ⟨c0, c1⟩ := wit_iff.1 hc
    rw [hc] at HC
    have HC1 := Lib.hid HC
    clear HC
    cases hm : witB m 2000 with
    | false =>
      rw [hm] at HM
      have HM1 := Lib.hid HM
      have E := Lib.hid (show crsF c m dev = (0, 1) by unfold crsF; simp [hc, hm])
      clear hc hm HM
      go_enter Tryd.func21, Tryd.ntmps21
      go_wp2_with (go_at_call 29; first | ((with_reducible refine (HC1.out _).mono ?_); rintro e w1 ⟨rfl, rfl⟩) | ((with_reducible refine (HM1.out _).mono ?_); rintro e w1 ⟨rfl, rfl⟩))
      go_ret2
      exact ⟨by rw [E.out]; rfl, ((((Below.refl w.heap.size w).alloc (by simp) _).alloc (by simp) _).alloc (by simp; try omega) _)⟩
    | true =>
      rw [hm] at HM
      have HM1 := Lib.hid HM
      clear HM
      by_cases hd : -4000 ≤ dev ∧ dev ≤ 4000
      · have g1 : decide (dev < -4000) = false := by simp; omega
        have g2 : decide (4000 < dev) = false := by simp; omega
        have D : DevOk dev := ⟨hd.1, hd.2⟩
        have hx := cross_is (cas := c) (mach := m) c0 D
        have SA := Lib.hid fun b1 b2 b3 w z1 z2 z3 h1 h2 h3 => search_at c m dev b1 b2 b3 w c0 c1 D z1 z2 z3 h1 h2 h3
        have x0 := hx.lo
        have x1 := hx.hi
        have E0 : crsF c m dev = if crossI c m dev = 6000001 then (0, 2) else (crossI c m dev, 0) := by unfold crsF; simp [hc, hm, hd]
        clear hc hm hd hx D
        generalize crossI c m dev = k at *
        by_cases hk : k = 6000001
        · have E := Lib.hid (E0.trans (if_pos hk))
          have g3 : (k + 200000 == 6200001) = true := by simp; omega
          clear E0 hk
          go_enter Tryd.func21, Tryd.ntmps21
          go_wp2_with (first
            | (go_at_call 29; first | ((with_reducible refine (HC1.out _).mono ?_); rintro e w1 ⟨rfl, rfl⟩) | ((with_reducible refine (HM1.out _).mono ?_); rintro e w1 ⟨rfl, rfl⟩))
            | (go_at_call 38; refine (SA.out _ _ _ _ (by simp; try omega) (by simp; try omega) (by simp; try omega) (by go_simp) (by go_simp) (by go_simp)).mono ?_; rintro e w2 ⟨rfl, hb⟩))
          go_ret2
          exact ⟨by rw [E.out]; rfl, (((((Below.refl w.heap.size w).alloc (by simp) _).alloc (by simp) _).alloc (by simp; try omega) _)).trans (hb.mono (by simp; try omega))⟩
        · have E := Lib.hid (E0.trans (if_neg hk))
          have g3 : (k + 200000 == 6200001) = false := by simp; omega
          have g4 : -200000 + (k + 200000) = k := by omega
          clear E0 hk
          go_enter Tryd.func21, Tryd.ntmps21
          go_wp2_with (first
            | (go_at_call 29; first | ((with_reducible refine (HC1.out _).mono ?_); rintro e w1 ⟨rfl, rfl⟩) | ((with_reducible refine (HM1.out _).mono ?_); rintro e w1 ⟨rfl, rfl⟩))
            | (go_at_call 38; refine (SA.out _ _ _ _ (by simp; try omega) (by simp; try omega) (by simp; try omega) (by go_simp) (by go_simp) (by go_simp)).mono ?_; rintro e w2 ⟨rfl, hb⟩))
          go_ret2
          exact ⟨by rw [E.out]; rfl, (((((Below.refl w.heap.size w).alloc (by simp) _).alloc (by simp) _).alloc (by simp; try omega) _)).trans (hb.mono (by simp; try omega))⟩
      · have E := Lib.hid (show crsF c m dev = (0, 1) by unfold crsF; rw [if_pos hc, if_pos hm, if_neg hd])
        clear hc hm
        by_cases h1 : dev < -4000
        · have g1 : decide (dev < -4000) = true := by simpa using h1
          clear hd
          go_enter Tryd.func21, Tryd.ntmps21
          go_wp2_with (go_at_call 29; first | ((with_reducible refine (HC1.out _).mono ?_); rintro e w1 ⟨rfl, rfl⟩) | ((with_reducible refine (HM1.out _).mono ?_); rintro e w1 ⟨rfl, rfl⟩))
          go_ret2
          exact ⟨by rw [E.out]; rfl, ((((Below.refl w.heap.size w).alloc (by simp) _).alloc (by simp) _).alloc (by simp; try omega) _)⟩
        · have g1 : decide (dev < -4000) = false := by simpa using h1
          have g2 : decide (4000 < dev) = true := by simp; omega
          clear hd
          go_enter Tryd.func21, Tryd.ntmps21
          go_wp2_with (go_at_call 29; first | ((with_reducible refine (HC1.out _).mono ?_); rintro e w1 ⟨rfl, rfl⟩) | ((with_reducible refine (HM1.out _).mono ?_); rintro e w1 ⟨rfl, rfl⟩))
          go_ret2
          exact ⟨by rw [E.out]; rfl, ((((Below.refl w.heap.size w).alloc (by simp) _).alloc (by simp) _).alloc (by simp; try omega) _)⟩
end Go.Proofs.YtnaokohffelklaaDoor
