/-
  The walks of the reference's Mach number at an altitude and of its crossover altitude.
-/
import Derived.Test.YtnaokohffelklaaDoorSpeedRef
namespace Go.Proofs.YtnaokohffelklaaDoor
set_option linter.unusedVariables false
open Go.RowKit Sq

theorem rmachAt_any (c alt dev : Int) (w : World) (c0 : 0 ≤ c) (c1 : c ≤ 1000) (ha : AltOk alt) (hd : DevOk dev) :
    Calls Tryd.prog 39 #[.int .i64 c, .int .i64 alt, .int .i64 dev] w fun e w' => e = .returned (.int .i64 (machAtI c alt dev)) ∧ Below w.heap.size w w' := by
  have hk := chk_of ha hd
  obtain ⟨t0, t1⟩ := tas_bd c0 c1 ha hd
  have ET := Lib.hid (show tasF c alt dev = (tasI c alt dev, 0) by unfold tasF; rw [if_pos (wit_iff.2 ⟨c0, c1⟩), if_pos hk])
  have EM := Lib.hid (show machF (tasI c alt dev) alt dev = (machAtI c alt dev, 0) by unfold machF; rw [if_pos (wit_iff.2 ⟨t0, by omega⟩), if_pos hk]; rfl)
  clear hk ha
  generalize tasI c alt dev = t at *
  generalize machAtI c alt dev = q at *
  go_enter Tryd.func39, Tryd.ntmps39
  go_wp2_with (first
    | (go_at_call 12; refine (rtas_any _ _ _ _).mono ?_; rw [ET.out]; rintro e w1 ⟨rfl, hb1⟩)
    | (go_at_call 14; refine (rmach_any _ _ _ _).mono ?_; rw [EM.out]; rintro e w2 ⟨rfl, hb2⟩))
  go_ret
  exact ⟨rfl, hb1.trans (hb2.mono hb1.size)⟩
/-- between lo and hi lies the crossover altitude -/
structure Betw (c m dev lo hi : Int) : Prop where
  no : ∀ alt, -200000 ≤ alt → alt < lo → machAtI c alt dev < m
  yes : m ≤ machAtI c hi dev
def CrsR (c m dev : Int) (w : World) (s8 s9 : Value) (wr : World) : Prop := ∃ lo hi : Int, s8 = .int .i64 lo ∧ s9 = .int .i64 hi ∧ -200000 ≤ lo ∧ lo ≤ hi ∧ hi ≤ 6000000 ∧ Hid (Betw c m dev lo hi) ∧ Below w.heap.size w wr
theorem betw_end {c m dev k : Int} (h : Betw c m dev k k) (c0 : 0 ≤ c) (hd : DevOk dev) (k0 : -200000 ≤ k) (k1 : k ≤ 6000000) : crossI c m dev = k :=
  ((⟨k0, by omega, fun _ => h.yes, h.no⟩ : IsCross c m dev k).uniq (cross_is c0 hd)).symm
theorem betw_up {c m dev lo hi x : Int} (h : Betw c m dev lo hi) (c0 : 0 ≤ c) (hd : DevOk dev) (x0 : -200000 ≤ x) (x1 : x ≤ 6000000) (hx : machAtI c x dev < m) : Betw c m dev (x + 1) hi :=
  ⟨fun alt a0 a1 => by
    have := machAt_up (cas := c) c0 (a := alt) (b := x) ⟨a0, by omega⟩ ⟨x0, x1⟩ (by omega) hd
    omega, h.yes⟩
set_option maxHeartbeats 4000000 in
theorem rcross_any (c m dev : Int) (w : World) :
    Calls Tryd.prog 22 #[.int .i64 c, .int .i64 m, .int .i64 dev] w fun e w' => e = .returned (.tuple #[.int .i64 (crsF c m dev).1, .int .i64 (crsF c m dev).2]) ∧ Below w.heap.size w w' := by
  have HC := fun w => calib_any c w
  cases hc : witB c 1000 with
  | false =>
    rw [hc] at HC
    have HC1 := Lib.hid HC
    have E := Lib.hid (show crsF c m dev = (0, 1) by unfold crsF; simp [hc])
    clear hc HC
    go_enter Tryd.func22, Tryd.ntmps22
    go_wp2_with (go_at_call 31; refine (HC1.out _).mono ?_; rintro e w1 ⟨rfl, rfl⟩)
    go_ret2
    exact ⟨by rw [E.out]; rfl, Below.refl _ _⟩
  | true =>
    obtain ⟨c0, c1⟩ := wit_iff.1 hc
    rw [hc] at HC
    have HC1 := Lib.hid HC
    clear HC
    by_cases hg : (0 ≤ m ∧ m ≤ 2000) ∧ -4000 ≤ dev ∧ dev ≤ 4000
    · obtain ⟨⟨m0, m1⟩, d0, d1⟩ := hg
      have g1 : decide (m < 0) = false := by simp; omega
      have g2 : decide (2000 < m) = false := by simp; omega
      have g3 : decide (dev < -4000) = false := by simp; omega
      have g4 : decide (4000 < dev) = false := by simp; omega
      have D : DevOk dev := ⟨d0, d1⟩
      have hx := cross_is (cas := c) (mach := m) c0 D
      have E0 : crsF c m dev = if crossI c m dev = 6000001 then (0, 2) else (crossI c m dev, 0) := by unfold crsF; rw [if_pos hc, if_pos (wit_iff.2 ⟨m0, m1⟩), if_pos ⟨d0, d1⟩]
      have top := hx.iff (alt := 6000000) c0 ⟨by decide, by decide⟩ D
      have MA := Lib.hid fun alt w (a0 : -200000 ≤ alt) (a1 : alt ≤ 6000000) => rmachAt_any c alt dev w c0 c1 ⟨a0, a1⟩ D
      have END := Lib.hid fun k h k0 k1 => betw_end (c := c) (m := m) (dev := dev) (k := k) h c0 D k0 k1
      have UP := Lib.hid fun lo hi x h x0 x1 hx => betw_up (c := c) (m := m) (dev := dev) (lo := lo) (hi := hi) (x := x) h c0 D x0 x1 hx
      have hh := hx.hi
      clear hc hx D
      by_cases ht : machAtI c 6000000 dev < m
      · have g5 : decide (machAtI c 6000000 dev < m) = true := by simpa using ht
        have e : crossI c m dev = 6000001 := by
          by_cases q : crossI c m dev ≤ 6000000
          · have := top.2 q; omega
          · omega
        have E := Lib.hid (E0.trans (if_pos e))
        clear E0 e top ht hh
        go_enter Tryd.func22, Tryd.ntmps22
        go_wp2_with (first
          | (go_at_call 31; refine (HC1.out _).mono ?_; rintro e w1 ⟨rfl, rfl⟩)
          | (go_at_call 39; refine (MA.out _ _ (by decide) (by decide)).mono ?_; rintro e w2 ⟨rfl, hb⟩))
        go_ret2
        exact ⟨by rw [E.out]; rfl, hb⟩
      · have g5 : decide (machAtI c 6000000 dev < m) = false := by simpa using ht
        have e : ¬ crossI c m dev = 6000001 := fun q => by have := top.1 (by omega); omega
        have E := Lib.hid (E0.trans (if_neg e))
        have B0 := Lib.hid (⟨fun alt a0 a1 => absurd a1 (by omega), by omega⟩ : Betw c m dev (-200000) 6000000)
        clear E0 e top ht hh
        go_enter Tryd.func22, Tryd.ntmps22
        go_wp2_with (first
          | (go_at_call 31; refine (HC1.out _).mono ?_; rintro e w1 ⟨rfl, rfl⟩)
          | (go_at_call 39; refine (MA.out _ _ (by decide) (by decide)).mono ?_; rintro e w2 ⟨rfl, hb⟩))
        have HB := Lib.hid hb
        clear hb
        go_loopw [8, 9] (CrsR c m dev w) (fun a b _ => (intOf b - intOf a).toNat)
        case atStart => exact ⟨-200000, 6000000, rfl, rfl, by decide, by decide, by decide, B0, HB.out⟩
        case round =>
          obtain ⟨lo, hi, rfl, rfl, l0, lh, h1, hB, hbr⟩ := hrel
          have HR := Lib.hid hbr
          clear hbr
          by_cases q : lo < hi
          · have q' : decide (lo < hi) = true := by simpa using q
            obtain ⟨x, hx⟩ : ∃ x, lo + (hi - lo) / 2 = x := ⟨_, rfl⟩
            have x0 : lo ≤ x := by omega
            have x1 : x < hi := by omega
            have HX := Lib.hid hx
            have b1 : 0 ≤ hi - lo := by omega
            have MX := Lib.hid fun w => MA.out x w (by omega) (by omega)
            have BX := Lib.hid fun h => UP.out lo hi x hB.out (by omega) (by omega) h
            have BY := Lib.hid fun (h : m ≤ machAtI c x dev) => (⟨hB.out.no, h⟩ : Betw c m dev lo x)
            generalize machAtI c x dev = p at *
            by_cases r : m ≤ p
            · have r' : decide (m ≤ p) = true := by simpa using r
              have BZ := Lib.hid (BY.out r)
              go_wp2_with (go_at_call 39; refine (MX.out _).mono ?_; rintro e w2 ⟨rfl, hb2⟩)
              go_roundw
              case rel => exact ⟨lo, x, rfl, rfl, l0, x0, by omega, BZ, HR.out.trans (hb2.mono HR.out.size)⟩
              case measure => simp only [intOf]; omega
            · have r' : decide (m ≤ p) = false := by simpa using r
              have BZ := Lib.hid (BX.out (by omega))
              go_wp2_with (go_at_call 39; refine (MX.out _).mono ?_; rintro e w2 ⟨rfl, hb2⟩)
              go_roundw
              case rel => exact ⟨x + 1, hi, rfl, rfl, by omega, by omega, h1, BZ, HR.out.trans (hb2.mono HR.out.size)⟩
              case measure => simp only [intOf]; omega
          · have q' : decide (lo < hi) = false := by simpa using q
            obtain rfl : hi = lo := by omega
            have EE := Lib.hid (END.out _ hB.out l0 h1)
            go_wp2
            go_ret2
            exact ⟨by rw [E.out, EE.out]; rfl, HR.out⟩
    · have hk : crsF c m dev = (0, 1) := by
        unfold crsF
        rw [if_pos hc]
        by_cases hm : witB m 2000 = true
        · rw [if_pos hm, if_neg (fun h => hg ⟨wit_iff.1 hm, h⟩)]
        · rw [if_neg hm]
      have E := Lib.hid hk
      clear hk hc
      by_cases h1 : m < 0
      · have g1 : decide (m < 0) = true := by simpa using h1
        clear hg
        go_enter Tryd.func22, Tryd.ntmps22
        go_wp2_with (go_at_call 31; refine (HC1.out _).mono ?_; rintro e w1 ⟨rfl, rfl⟩)
        go_ret2
        exact ⟨by rw [E.out]; rfl, Below.refl _ _⟩
      · have g1 : decide (m < 0) = false := by simpa using h1
        by_cases h2 : 2000 < m
        · have g2 : decide (2000 < m) = true := by simpa using h2
          clear hg
          go_enter Tryd.func22, Tryd.ntmps22
          go_wp2_with (go_at_call 31; refine (HC1.out _).mono ?_; rintro e w1 ⟨rfl, rfl⟩)
          go_ret2
          exact ⟨by rw [E.out]; rfl, Below.refl _ _⟩
        · have g2 : decide (2000 < m) = false := by simpa using h2
          by_cases h3 : dev < -4000
          · have g3 : decide (dev < -4000) = true := by simpa using h3
            clear hg
            go_enter Tryd.func22, Tryd.ntmps22
            go_wp2_with (go_at_call 31; refine (HC1.out _).mono ?_; rintro e w1 ⟨rfl, rfl⟩)
            go_ret2
            exact ⟨by rw [E.out]; rfl, Below.refl _ _⟩
          · have g3 : decide (dev < -4000) = false := by simpa using h3
            have g4 : decide (4000 < dev) = true := by simp; omega
            clear hg
            go_enter Tryd.func22, Tryd.ntmps22
            go_wp2_with (go_at_call 31; refine (HC1.out _).mono ?_; rintro e w1 ⟨rfl, rfl⟩)
            go_ret2
            exact ⟨by rw [E.out]; rfl, Below.refl _ _⟩
end Go.Proofs.YtnaokohffelklaaDoor
