/-
  The texts of speeds: how they are written and read, the program's way and the reference's. No program in sight.
-/
import Derived.Test.YtnaokohffelklaaDoorDigPlain
namespace Go.Proofs.YtnaokohffelklaaDoor
set_option linter.unusedVariables false

/-! digits of any number -/
theorem dec_step {n : Nat} (h : 10 ≤ n) : Lib.decDigits n = Lib.decDigits (n / 10) ++ [UInt8.ofNat (48 + n % 10)] := by
  rw [Lib.decDigits, dif_neg (by omega)]
theorem valT_snoc (l : List UInt8) (c : UInt8) : valT (l ++ [c]) = 10 * valT l + ((c.toNat : Int) - 48) := by
  unfold valT; rw [List.foldl_append]; rfl
theorem dig_byte {k : Nat} (h : k < 10) : ((UInt8.ofNat (48 + k)).toNat : Int) = 48 + k := by rw [UInt8.toNat_ofNat']; omega
theorem dec_good (n : Nat) : valT (Lib.decDigits n) = n ∧ GoodD (Lib.decDigits n) := by
  induction n using Nat.strongRecOn with
  | _ n ih =>
    by_cases h : n < 10
    · rw [Lib.decDigits_one h]
      have b := dig_byte h
      refine ⟨?_, by simp, ?_, fun _ => rfl⟩
      · unfold valT; simp only [List.foldl_cons, List.foldl_nil]; omega
      · simp only [List.all_cons, List.all_nil, Bool.and_true]
        exact isDig_iff.2 (by omega)
    · obtain ⟨v, g0, g1, g2⟩ := ih (n / 10) (by omega)
      have b := dig_byte (k := n % 10) (by omega)
      rw [dec_step (by omega)]
      have hz := good_zero ⟨g0, g1, g2⟩
      refine ⟨?_, by simp, ?_, fun e => ?_⟩
      · rw [valT_snoc, v]; omega
      · rw [List.all_append, g1]
        simp only [List.all_cons, List.all_nil, Bool.and_true, Bool.true_and]
        exact isDig_iff.2 (by omega)
      · exfalso
        cases hd : Lib.decDigits (n / 10) with
        | nil => exact g0 hd
        | cons c r =>
          rw [hd] at e hz v
          have e : (c.toNat : Int) = 48 := e
          have := hz.2 e
          omega
/-- a good text is the digits of its value -/
theorem good_dec : ∀ (k : Nat) (l : List UInt8), l.length = k → GoodD l → l = Lib.decDigits (valT l).toNat := by
  intro k
  induction k with
  | zero => intro l hl h; exact absurd (List.eq_nil_of_length_eq_zero hl) h.1
  | succ k ih =>
    intro l hl h
    obtain ⟨r, c, rfl⟩ : ∃ r c, l = r ++ [c] := ⟨l.dropLast, l.getLast h.1, (List.dropLast_concat_getLast h.1).symm⟩
    have hr : r.length = k := by simpa using hl
    obtain ⟨h0, h1, h2⟩ := h
    rw [List.all_append, Bool.and_eq_true] at h1
    have hc : isDig c = true := by simpa using h1.2
    have hc' := isDig_iff.1 hc
    rw [valT_snoc]
    by_cases hn : r = []
    · subst hn
      have e : valT [] = 0 := rfl
      rw [e, Lib.decDigits_one (by omega)]
      simp only [List.nil_append]
      congr 1
      exact (ofNat_back (by omega)).symm
    · have hh : (r ++ [c]).headD 0 = r.headD 0 := by cases r with
        | nil => exact absurd rfl hn
        | cons d t => rfl
      have hp : 0 < r.length := List.length_pos_iff.2 hn
      have hz48 : ((r.headD 0).toNat : Int) ≠ 48 := fun e => by
        have := h2 (by rw [hh]; exact e)
        rw [List.length_append, List.length_singleton] at this
        omega
      have g : GoodD r := ⟨hn, h1.1, fun e => absurd e hz48⟩
      have v0 := valT_nonneg h1.1
      have vz := good_zero g
      have v1 : valT r ≠ 0 := fun e => hz48 (vz.1 e)
      rw [dec_step (by omega), show (10 * valT r + ((c.toNat : Int) - 48)).toNat / 10 = (valT r).toNat by omega, ← ih r hr g, ofNat_back (c := c) (by omega)]

/-! the texts -/
def casT (v : Int) : List UInt8 := Lib.decDigits v.toNat ++ [75, 84]
def wholeT (m : Int) : List UInt8 := if 1000 ≤ m then Lib.decDigits (m / 1000).toNat else []
def machT (m : Int) : List UInt8 := 77 :: (wholeT m ++ 46 :: (Lib.decDigits (1000 + m % 1000).toNat).drop 1)
def pCas (l : List UInt8) : Int × Int :=
  if (digF 10000 l).2 = false ∨ l = [] ∨ (((l.headD 0).toNat : Int) = 48 ∧ 1 < l.length) then (0, 4) else if 1000 < (digF 10000 l).1 then (0, 2) else ((digF 10000 l).1, 0)
def pMachF (W R : List UInt8) (f : Bool) : Int × Int :=
  if f = false ∨ (digF 10000 W).2 = false ∨ (digF 10000 R).2 = false ∨ R.length ≠ 3 ∨ Lib.hasPrefix W [48] = true then (0, 4)
  else if 2000 < 1000 * (digF 10000 W).1 + (digF 10000 R).1 then (0, 2) else (1000 * (digF 10000 W).1 + (digF 10000 R).1, 0)
def pMach (l : List UInt8) : Int × Int := pMachF (Lib.cut l [46]).1 (Lib.cut l [46]).2.1 (Lib.cut l [46]).2.2
def parseA (s : List UInt8) : Int × Bool × Int :=
  if Lib.hasPrefix s [77] = true then ((pMach (Lib.trimPrefix s [77])).1, decide ((pMach (Lib.trimPrefix s [77])).2 = 0), (pMach (Lib.trimPrefix s [77])).2)
  else if Lib.hasSuffix s [75, 84] = true then ((pCas (Lib.trimSuffix s [75, 84])).1, false, (pCas (Lib.trimSuffix s [75, 84])).2)
  else (0, false, 4)
/-- the reference's way -/
def rCas (l : List UInt8) : Int × Bool × Int := if (rDig l).2 = false then (0, false, 4) else if 1000 < (rDig l).1 then (0, false, 2) else ((rDig l).1, false, 0)
def rMach (W R : List UInt8) : Int × Bool × Int :=
  if (rDig (49 :: R)).2 = false then (0, false, 4)
  else if W = [] then (if 2000 < (rDig (49 :: R)).1 - 1000 then (0, false, 2) else ((rDig (49 :: R)).1 - 1000, true, 0))
  else if (rDig W).2 = false ∨ (rDig W).1 = 0 then (0, false, 4)
  else if 2000 < (rDig (49 :: R)).1 - 1000 + (rDig W).1 * 1000 then (0, false, 2) else ((rDig (49 :: R)).1 - 1000 + (rDig W).1 * 1000, true, 0)
def rParseA (s : List UInt8) : Int × Bool × Int :=
  if 2 < s.length ∧ s.drop (s.length - 2) = [75, 84] then rCas (s.take (s.length - 2))
  else if s.length < 5 ∨ s.headD 0 ≠ 77 ∨ s.getD (s.length - 4) 0 ≠ 46 then (0, false, 4)
  else rMach ((s.drop 1).take (s.length - 5)) (s.drop (s.length - 3))

theorem digF_ok {l : List UInt8} (h : l.all isDig = true) : digF 10000 l = (min (valT l) 10000, true) := by
  unfold digF; rw [if_pos h, valD_eq (by decide) h]
theorem digF_no {l : List UInt8} (h : l.all isDig = false) : digF 10000 l = (0, false) := by
  unfold digF; rw [if_neg (by rw [h]; decide)]
theorem rDig_no {l : List UInt8} (h : l.all isDig = false) : rDig l = (0, false) := by
  unfold rDig; rw [if_neg (by rw [h]; decide)]
theorem pCas_bad {l : List UInt8} (h : ¬ GoodD l) : pCas l = (0, 4) := by
  unfold pCas
  refine if_pos ?_
  by_cases a : l.all isDig = true
  · by_cases b : l = []
    · exact .inr (.inl b)
    · refine .inr (.inr ?_)
      have hp : 0 < l.length := List.length_pos_iff.2 b
      by_cases c : ((l.headD 0).toNat : Int) = 48
      · refine ⟨c, ?_⟩
        by_cases d : l.length = 1
        · exact absurd ⟨b, a, fun _ => d⟩ h
        · omega
      · exact absurd ⟨b, a, fun e => absurd e c⟩ h
  · left
    rw [digF_no (by simpa using a)]
theorem pCas_good {l : List UInt8} (h : GoodD l) : pCas l = if 1000 < valT l then (0, 2) else (valT l, 0) := by
  obtain ⟨h0, h1, h2⟩ := h
  unfold pCas
  rw [if_neg, digF_ok h1]
  · by_cases a : 1000 < valT l
    · rw [if_pos a, if_pos (by show 1000 < min (valT l) 10000; omega)]
    · rw [if_neg a, if_neg (by show ¬ 1000 < min (valT l) 10000; omega)]
      show (min (valT l) 10000, (0 : Int)) = _
      rw [show min (valT l) 10000 = valT l by omega]
  · rw [digF_ok h1]
    rintro (a | a | ⟨a, b⟩)
    · cases a
    · exact h0 a
    · have := h2 a; omega
theorem rCas_eq (l : List UInt8) : rCas l = ((pCas l).1, false, (pCas l).2) := by
  unfold rCas
  by_cases g : GoodD l
  · rw [pCas_good g, (rDig_iff l).2 g, rDig_val g, if_neg (by decide)]
    by_cases a : 1000 < valT l
    · rw [if_pos a, if_pos (by omega)]
    · rw [if_neg a, if_neg (by omega), show min (valT l) 1000000000 = valT l by omega]
  · rw [pCas_bad g, if_pos]
    cases e : (rDig l).2
    · rfl
    · exact absurd ((rDig_iff l).1 e) g
end Go.Proofs.YtnaokohffelklaaDoor
