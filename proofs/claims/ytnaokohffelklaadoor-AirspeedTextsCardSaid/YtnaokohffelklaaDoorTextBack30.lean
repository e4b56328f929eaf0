/-
  The texts of speeds are read back, and an accepted text is the text of its speed. No program in sight.
-/
import Derived.Test.YtnaokohffelklaaDoorMachParse
namespace Go.Proofs.YtnaokohffelklaaDoor
set_option linter.unusedVariables false

theorem dec_four {r : Nat} (h : r < 1000) : Lib.decDigits (1000 + r) = [49, UInt8.ofNat (48 + r / 100), UInt8.ofNat (48 + r / 10 % 10), UInt8.ofNat (48 + r % 10)] := by
  rw [dec_step (by omega), dec_step (by omega), dec_step (by omega), show (1000 + r) / 10 / 10 / 10 = 1 by omega, Lib.decDigits_one (by omega)]
  rw [show (1000 + r) / 10 / 10 % 10 = r / 100 by omega, show (1000 + r) / 10 % 10 = r / 10 % 10 by omega, show (1000 + r) % 10 = r % 10 by omega]
  rfl
/-- the three digits behind the point -/
def restT (m : Int) : List UInt8 := (Lib.decDigits (1000 + m % 1000).toNat).drop 1
theorem rest_is {m : Int} (h0 : 0 ≤ m) : (restT m).length = 3 ∧ (restT m).all isDig = true ∧ valT (restT m) = m % 1000 := by
  unfold restT
  rw [show (1000 + m % 1000).toNat = 1000 + (m % 1000).toNat by omega, dec_four (by omega)]
  have a := dig_byte (k := (m % 1000).toNat / 100) (by omega)
  have b := dig_byte (k := (m % 1000).toNat / 10 % 10) (by omega)
  have c := dig_byte (k := (m % 1000).toNat % 10) (by omega)
  refine ⟨rfl, ?_, ?_⟩
  · simp only [List.drop_succ_cons, List.drop_zero, List.all_cons, List.all_nil, Bool.and_true, Bool.and_eq_true]
    exact ⟨isDig_iff.2 (by omega), isDig_iff.2 (by omega), isDig_iff.2 (by omega)⟩
  · simp only [List.drop_succ_cons, List.drop_zero]
    rw [three_val]
    omega
theorem whole_is {m : Int} (h0 : 0 ≤ m) : (wholeT m).all isDig = true ∧ Lib.hasPrefix (wholeT m) [48] = false ∧ valT (wholeT m) = m / 1000 := by
  unfold wholeT
  split
  · obtain ⟨v, g⟩ := dec_good (m / 1000).toNat
    refine ⟨g.2.1, pre48.2 fun _ e => ?_, by omega⟩
    have := (good_zero g).2 e
    omega
  · refine ⟨rfl, rfl, ?_⟩
    show (0 : Int) = _
    omega
theorem mach_shape {m : Int} (h0 : 0 ≤ m) : ShapeM (wholeT m ++ 46 :: restT m) (wholeT m) (restT m) := by
  obtain ⟨a, b, c⟩ := rest_is h0
  obtain ⟨d, e, f⟩ := whole_is h0
  exact ⟨rfl, a, d, b, e⟩
theorem parse_mach {m : Int} (h0 : 0 ≤ m) (h1 : m ≤ 2000) : parseA (machT m) = (m, true, 0) := by
  show parseA (77 :: (wholeT m ++ 46 :: restT m)) = _
  have v : valM (wholeT m) (restT m) = m := by
    unfold valM
    rw [(rest_is h0).2.2, (whole_is h0).2.2]
    omega
  rw [parse_M, pMach_good (mach_shape h0), v, if_neg (by omega)]
  rfl
theorem cas_head (v : Int) : ((Lib.decDigits v.toNat) ++ [75, 84]).headD 0 ≠ 77 := by
  obtain ⟨x, g0, g1, g2⟩ := dec_good v.toNat
  cases e : Lib.decDigits v.toNat with
  | nil => exact absurd e g0
  | cons c r =>
    rw [e, List.all_cons, Bool.and_eq_true] at g1
    have := isDig_iff.1 g1.1
    intro h
    have h : c = 77 := h
    rw [h] at this
    revert this; decide
theorem parse_cas {v : Int} (h0 : 0 ≤ v) (h1 : v ≤ 1000) : parseA (casT v) = (v, false, 0) := by
  obtain ⟨x, g⟩ := dec_good v.toNat
  unfold casT
  rw [parse_K (cas_head v), pCas_good g, x, if_neg (by omega)]
  show (((v.toNat : Nat) : Int), false, (0 : Int)) = _
  rw [Int.toNat_of_nonneg h0]
/-- the text of what Parse gives -/
def spokenT (mach : Bool) (v : Int) : List UInt8 := if mach = true then machT v else casT v
theorem mach_back {t W R : List UInt8} (h : ShapeM t W R) : 77 :: t = machT (valM W R) := by
  obtain ⟨rfl, h3, hw, hr, h0⟩ := h
  have b := three_bd h3 hr
  have w0 := valT_nonneg hw
  have g := one_good hr
  have e1 := good_dec _ _ rfl g
  rw [one_val h3] at e1
  have er : restT (valM W R) = R := by
    unfold restT
    rw [show valM W R % 1000 = valT R by unfold valM; omega, ← e1]
    rfl
  have ew : wholeT (valM W R) = W := by
    unfold wholeT
    by_cases hn : W = []
    · subst hn
      have z : valT [] = 0 := rfl
      rw [if_neg (by unfold valM; omega)]
    · have h48 := pre48.1 h0 hn
      have gw : GoodD W := ⟨hn, hw, fun e => absurd e h48⟩
      have vz : valT W ≠ 0 := fun e => h48 ((good_zero gw).1 e)
      rw [if_pos (by unfold valM; omega), show valM W R / 1000 = valT W by unfold valM; omega]
      exact (good_dec _ _ rfl gw).symm
  show _ = 77 :: (wholeT (valM W R) ++ 46 :: restT (valM W R))
  rw [er, ew]
/-- an accepted text is in its range, and the text of its speed -/
theorem parse_back {s : List UInt8} (h : (parseA s).2.2 = 0) : 0 ≤ (parseA s).1 ∧ (parseA s).1 ≤ (if (parseA s).2.1 = true then 2000 else 1000) ∧ s = spokenT (parseA s).2.1 (parseA s).1 := by
  by_cases hM : s.headD 0 = 77
  · cases s with
    | nil => exact absurd hM (by decide)
    | cons c t =>
      obtain rfl : c = 77 := hM
      rw [parse_M] at *
      by_cases hs : ∃ W R, ShapeM t W R
      · obtain ⟨W, R, hs⟩ := hs
        rw [pMach_good hs] at *
        by_cases a : 2000 < valM W R
        · rw [if_pos a] at h; cases h
        · rw [if_neg a] at *
          have w0 := valT_nonneg hs.w
          have r0 := valT_nonneg hs.r
          refine ⟨?_, ?_, ?_⟩
          · show 0 ≤ valM W R
            unfold valM; omega
          · show valM W R ≤ 2000
            omega
          · exact mach_back hs
      · rw [pMach_bad (fun W R g => hs ⟨W, R, g⟩)] at h; cases h
  · by_cases hk : ∃ u, s = u ++ [75, 84]
    · obtain ⟨u, rfl⟩ := hk
      rw [parse_K hM] at *
      by_cases g : GoodD u
      · rw [pCas_good g] at *
        by_cases a : 1000 < valT u
        · rw [if_pos a] at h; cases h
        · rw [if_neg a] at *
          refine ⟨valT_nonneg g.2.1, ?_, ?_⟩
          · show valT u ≤ 1000
            omega
          · show u ++ [75, 84] = Lib.decDigits (valT u).toNat ++ [75, 84]
            rw [← good_dec _ _ rfl g]
      · rw [pCas_bad g] at h; cases h
    · rw [parse_no hM (fun u e => hk ⟨u, e⟩)] at h; cases h
/-- a refused text gives the speed 0 that is no Mach number -/
theorem parse_refused {s : List UInt8} (h : (parseA s).2.2 ≠ 0) : (parseA s).2.1 = false := by
  by_cases hM : s.headD 0 = 77
  · cases s with
    | nil => exact absurd hM (by decide)
    | cons c t =>
      obtain rfl : c = 77 := hM
      rw [parse_M] at *
      exact decide_eq_false h
  · by_cases hk : ∃ u, s = u ++ [75, 84]
    · obtain ⟨u, rfl⟩ := hk
      rw [parse_K hM]
    · rw [parse_no hM (fun u e => hk ⟨u, e⟩)]
end Go.Proofs.YtnaokohffelklaaDoor
