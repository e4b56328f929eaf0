/-
  The texts of speeds: both ways of reading agree, texts are read back, and an accepted text is the text of its speed. No program in sight.
-/
import Derived.Test.YtnaokohffelklaaDoorMachPlain
namespace Go.Proofs.YtnaokohffelklaaDoor
set_option linter.unusedVariables false

structure ShapeM (t W R : List UInt8) : Prop where
  eq : t = W ++ 46 :: R
  len : R.length = 3
  w : W.all isDig = true
  r : R.all isDig = true
  no0 : Lib.hasPrefix W [48] = false
theorem three {R : List UInt8} (h : R.length = 3) : ∃ a b c, R = [a, b, c] := by
  match R, h with
  | [a, b, c], _ => exact ⟨a, b, c, rfl⟩
theorem three_val {a b c : UInt8} : valT [a, b, c] = 100 * ((a.toNat : Int) - 48) + 10 * ((b.toNat : Int) - 48) + ((c.toNat : Int) - 48) := by
  unfold valT; simp only [List.foldl_cons, List.foldl_nil]; omega
theorem three_dig {a b c : UInt8} (h : [a, b, c].all isDig = true) : isDig a = true ∧ isDig b = true ∧ isDig c = true := by
  simpa [Bool.and_eq_true] using h
theorem three_bd {R : List UInt8} (h : R.length = 3) (g : R.all isDig = true) : 0 ≤ valT R ∧ valT R ≤ 999 := by
  obtain ⟨a, b, c, rfl⟩ := three h
  obtain ⟨x, y, z⟩ := three_dig g
  have := isDig_iff.1 x
  have := isDig_iff.1 y
  have := isDig_iff.1 z
  rw [three_val]
  omega
theorem no_point {W : List UInt8} (h : W.all isDig = true) : 46 ∉ W := fun e => by
  have := List.all_eq_true.1 h _ e
  revert this; decide
def valM (W R : List UInt8) : Int := 1000 * valT W + valT R
theorem pMach_good {t W R : List UInt8} (h : ShapeM t W R) : pMach t = if 2000 < valM W R then (0, 2) else (valM W R, 0) := by
  obtain ⟨rfl, h3, hw, hr, h0⟩ := h
  have b := three_bd h3 hr
  have w0 := valT_nonneg hw
  unfold pMach valM
  rw [show W ++ 46 :: R = W ++ [46] ++ R by simp, cut_at W R (no_point hw)]
  show pMachF W R true = _
  unfold pMachF
  rw [if_neg (by rw [digF_ok hw, digF_ok hr, h0]; simp [h3]), digF_ok hw, digF_ok hr]
  by_cases a : 2000 < 1000 * valT W + valT R
  · rw [if_pos a, if_pos (by show 2000 < 1000 * min (valT W) 10000 + min (valT R) 10000; omega)]
  · rw [if_neg a, if_neg (by show ¬ 2000 < 1000 * min (valT W) 10000 + min (valT R) 10000; omega)]
    show (1000 * min (valT W) 10000 + min (valT R) 10000, (0 : Int)) = _
    rw [show min (valT W) 10000 = valT W by omega, show min (valT R) 10000 = valT R by omega]
theorem digF_two {l : List UInt8} (h : (digF 10000 l).2 ≠ false) : l.all isDig = true := by
  cases e : l.all isDig
  · rw [digF_no e] at h; exact absurd rfl h
  · rfl
theorem pMach_bad {t : List UInt8} (h : ∀ W R, ¬ ShapeM t W R) : pMach t = (0, 4) := by
  unfold pMach pMachF
  refine if_pos ?_
  by_cases a : (Lib.cut t [46]).2.2 = false
  · exact .inl a
  by_cases b : (digF 10000 (Lib.cut t [46]).1).2 = false
  · exact .inr (.inl b)
  by_cases c : (digF 10000 (Lib.cut t [46]).2.1).2 = false
  · exact .inr (.inr (.inl c))
  by_cases d : (Lib.cut t [46]).2.1.length = 3
  · by_cases e : Lib.hasPrefix (Lib.cut t [46]).1 [48] = true
    · exact .inr (.inr (.inr (.inr e)))
    · refine absurd ⟨?_, d, digF_two b, digF_two c, by simpa using e⟩ (h (Lib.cut t [46]).1 (Lib.cut t [46]).2.1)
      have := cut_back (l := t) (by simpa using a)
      rw [List.append_assoc] at this
      exact this
  · exact .inr (.inr (.inr (.inl d)))
theorem pre48 {W : List UInt8} : Lib.hasPrefix W [48] = false ↔ (W ≠ [] → ((W.headD 0).toNat : Int) ≠ 48) := by
  cases W with
  | nil => simp [Lib.hasPrefix]
  | cons c r =>
    unfold Lib.hasPrefix
    simp only [List.isPrefixOf, Bool.and_true, beq_eq_false_iff_ne, ne_eq, reduceCtorEq, not_false_eq_true, List.headD_cons, true_imp_iff]
    constructor
    · intro h e
      exact h (UInt8.toNat_inj.1 (show (48 : UInt8).toNat = c.toNat by show 48 = c.toNat; omega))
    · intro h e
      subst e
      exact h rfl
theorem one_val {R : List UInt8} (h : R.length = 3) : valT (49 :: R) = 1000 + valT R := by
  obtain ⟨a, b, c, rfl⟩ := three h
  unfold valT
  simp only [List.foldl_cons, List.foldl_nil]
  have : (49 : UInt8).toNat = 49 := rfl
  omega
theorem one_good {R : List UInt8} (g : R.all isDig = true) : GoodD (49 :: R) :=
  ⟨by simp, by rw [List.all_cons, g]; decide, fun e => absurd e (show ¬ ((49 : UInt8).toNat : Int) = 48 by decide)⟩
theorem one_back {R : List UInt8} (g : GoodD (49 :: R)) : R.all isDig = true := by
  have := g.2.1
  rw [List.all_cons, Bool.and_eq_true] at this
  exact this.2
theorem rMach_good {W R : List UInt8} (h3 : R.length = 3) (hw : W.all isDig = true) (hr : R.all isDig = true) (h0 : Lib.hasPrefix W [48] = false) : rMach W R = if 2000 < valM W R then (0, false, 2) else (valM W R, true, 0) := by
  have b := three_bd h3 hr
  have w0 := valT_nonneg hw
  have g := one_good hr
  have e1 : (rDig (49 :: R)).1 = 1000 + valT R := by rw [rDig_val g, one_val h3]; omega
  have e2 := (rDig_iff _).2 g
  unfold rMach valM
  rw [e1, e2, if_neg (by decide)]
  by_cases hn : W = []
  · subst hn
    have z : valT [] = 0 := rfl
    rw [if_pos rfl, z, if_neg (by omega), if_neg (by omega)]
    rw [show 1000 + valT R - 1000 = 1000 * 0 + valT R by omega]
  · have h48 := pre48.1 h0 hn
    have gw : GoodD W := ⟨hn, hw, fun e => absurd e h48⟩
    have vz : valT W ≠ 0 := fun e => h48 ((good_zero gw).1 e)
    rw [if_neg hn, (rDig_iff W).2 gw, rDig_val gw, if_neg (by rintro (a | a); · cases a
                                                              · omega)]
    by_cases a : 2000 < 1000 * valT W + valT R
    · rw [if_pos a, if_pos (by omega)]
    · rw [if_neg a, if_neg (by omega)]
      rw [show 1000 + valT R - 1000 + min (valT W) 1000000000 * 1000 = 1000 * valT W + valT R by omega]
theorem rMach_bad {W R : List UInt8} (h3 : R.length = 3) (h : ¬ (W.all isDig = true ∧ R.all isDig = true ∧ Lib.hasPrefix W [48] = false)) : rMach W R = (0, false, 4) := by
  unfold rMach
  by_cases a : (rDig (49 :: R)).2 = false
  · rw [if_pos a]
  · have a' : (rDig (49 :: R)).2 = true := by simpa using a
    have hr := one_back ((rDig_iff _).1 a')
    rw [if_neg a]
    by_cases hn : W = []
    · subst hn
      exact absurd ⟨rfl, hr, rfl⟩ h
    · rw [if_neg hn]
      refine if_pos ?_
      by_cases b : (rDig W).2 = false
      · exact .inl b
      · have gw := (rDig_iff W).1 (by simpa using b)
        refine .inr ?_
        rw [rDig_val gw]
        by_cases c : Lib.hasPrefix W [48] = false
        · exact absurd ⟨gw.2.1, hr, c⟩ h
        · have : ((W.headD 0).toNat : Int) = 48 := by
            by_cases e : ((W.headD 0).toNat : Int) = 48
            · exact e
            · exact absurd (pre48.2 fun _ => e) c
          have := (good_zero gw).2 this
          omega
theorem rCas_M (u : List UInt8) : rCas (77 :: u) = (0, false, 4) := by
  unfold rCas
  rw [rDig_no (by rw [List.all_cons]; rfl)]
  rfl
theorem shape_noKT {u W R : List UInt8} (h : ShapeM (u ++ [75, 84]) W R) : False := by
  obtain ⟨a, b, c, e⟩ := three h.len
  have hr := h.r
  rw [e] at hr
  have hc := isDig_iff.1 (three_dig hr).2.2
  have h1 := congrArg List.getLast? h.eq
  rw [e, show u ++ [75, 84] = (u ++ [75]) ++ [84] by simp, show W ++ 46 :: [a, b, c] = (W ++ [46, a, b]) ++ [c] by simp, List.getLast?_concat, List.getLast?_concat] at h1
  have h1 : (84 : UInt8) = c := Option.some.inj h1
  rw [← h1] at hc
  revert hc; decide
theorem suf_of (s : List UInt8) : Lib.hasSuffix s [75, 84] = true ↔ ∃ u, s = u ++ [75, 84] := by
  unfold Lib.hasSuffix
  rw [List.isSuffixOf_iff_suffix]
  exact ⟨fun ⟨u, h⟩ => ⟨u, h.symm⟩, fun ⟨u, h⟩ => ⟨u, h.symm⟩⟩
theorem trim_suf (u : List UInt8) : Lib.trimSuffix (u ++ [75, 84]) [75, 84] = u := by
  unfold Lib.trimSuffix
  rw [if_pos ((suf_of _).2 ⟨u, rfl⟩)]
  simp
theorem pre77 (t : List UInt8) : Lib.hasPrefix (77 :: t) [77] = true ∧ Lib.trimPrefix (77 :: t) [77] = t := by
  unfold Lib.trimPrefix Lib.hasPrefix
  simp
theorem pre77_no {s : List UInt8} (h : s.headD 0 ≠ 77) : Lib.hasPrefix s [77] = false := by
  unfold Lib.hasPrefix
  cases s with
  | nil => rfl
  | cons c r => simp [List.isPrefixOf]; exact fun e => h (by rw [e]; rfl)
theorem parse_M (t : List UInt8) : parseA (77 :: t) = ((pMach t).1, decide ((pMach t).2 = 0), (pMach t).2) := by
  unfold parseA
  rw [if_pos (pre77 t).1, (pre77 t).2]
theorem parse_K {u : List UInt8} (h : (u ++ [75, 84]).headD 0 ≠ 77) : parseA (u ++ [75, 84]) = ((pCas u).1, false, (pCas u).2) := by
  unfold parseA
  rw [if_neg (by rw [pre77_no h]; decide), if_pos ((suf_of _).2 ⟨u, rfl⟩), trim_suf]
theorem parse_no {s : List UInt8} (h : s.headD 0 ≠ 77) (g : ∀ u, s ≠ u ++ [75, 84]) : parseA s = (0, false, 4) := by
  unfold parseA
  rw [if_neg (by rw [pre77_no h]; decide), if_neg (fun e => by obtain ⟨u, e⟩ := (suf_of s).1 e; exact g u e)]
theorem r_shape {t W R : List UInt8} (h : ShapeM t W R) : rParseA (77 :: t) = rMach W R := by
  have hs := h
  obtain ⟨rfl, h3, hw, hr, h0⟩ := h
  have hl : (77 :: (W ++ 46 :: R)).length = W.length + 5 := by simp [h3]
  unfold rParseA
  rw [if_neg, if_neg]
  · rw [hl]
    congr 1
    · simp
    · rw [show W.length + 5 - 3 = (77 :: (W ++ [46])).length by simp, show 77 :: (W ++ 46 :: R) = (77 :: (W ++ [46])) ++ R by simp, List.drop_left]
  · rw [hl]
    rintro (a | a | a)
    · omega
    · exact a rfl
    · apply a
      rw [show W.length + 5 - 4 = W.length + 1 by omega, List.getD_cons_succ, List.getD_eq_getElem?_getD, List.getElem?_append_right (Nat.le_refl _)]
      simp
  · rintro ⟨_, a⟩
    have e : 77 :: (W ++ 46 :: R) = (77 :: (W ++ 46 :: R)).take ((77 :: (W ++ 46 :: R)).length - 2) ++ [75, 84] := by
      conv => lhs; rw [← List.take_append_drop ((77 :: (W ++ 46 :: R)).length - 2) (77 :: (W ++ 46 :: R)), a]
    cases hu : (77 :: (W ++ 46 :: R)).take ((77 :: (W ++ 46 :: R)).length - 2) with
    | nil =>
      have := congrArg List.length hu
      rw [List.length_take, hl] at this
      simp at this
    | cons c u =>
      rw [hu, List.cons_append] at e
      have e2 := (List.cons.inj e).2
      rw [e2] at hs
      exact shape_noKT hs
theorem parse_sameA (s : List UInt8) : rParseA s = parseA s := by
  by_cases k : 2 < s.length ∧ s.drop (s.length - 2) = [75, 84]
  · obtain ⟨u, rfl⟩ : ∃ u, s = u ++ [75, 84] := ⟨s.take (s.length - 2), by rw [← k.2, List.take_append_drop]⟩
    have e : rParseA (u ++ [75, 84]) = rCas u := by
      unfold rParseA
      rw [if_pos k]
      simp
    rw [e]
    cases u with
    | nil => exact absurd k.1 (by decide)
    | cons c r =>
      by_cases hc : c = 77
      · subst hc
        rw [rCas_M, List.cons_append, parse_M, pMach_bad (fun W R h => shape_noKT h)]
        rfl
      · rw [rCas_eq, parse_K (u := c :: r) (by simpa using hc)]
  · by_cases hs : ∃ t W R, s = 77 :: t ∧ ShapeM t W R
    · obtain ⟨t, W, R, rfl, h⟩ := hs
      rw [r_shape h, parse_M, pMach_good h, rMach_good h.len h.w h.r h.no0]
      split <;> rfl
    · have p4 : parseA s = (0, false, 4) := by
        by_cases hM : s.headD 0 = 77
        · cases s with
          | nil => exact absurd hM (by decide)
          | cons c t =>
            obtain rfl : c = 77 := hM
            rw [parse_M, pMach_bad (fun W R h => hs ⟨t, W, R, rfl, h⟩)]
            rfl
        · by_cases hk : ∃ u, s = u ++ [75, 84]
          · obtain ⟨u, rfl⟩ := hk
            cases u with
            | nil => decide
            | cons c r => exact absurd ⟨by simp, by simp⟩ k
          · exact parse_no hM (fun u e => hk ⟨u, e⟩)
      rw [p4]
      unfold rParseA
      rw [if_neg k]
      by_cases q : s.length < 5 ∨ s.headD 0 ≠ 77 ∨ s.getD (s.length - 4) 0 ≠ 46
      · rw [if_pos q]
      · rw [if_neg q]
        have q1 : 5 ≤ s.length := Nat.le_of_not_lt fun e => q (.inl e)
        have q2 : s.headD 0 = 77 := Decidable.byContradiction fun e => q (.inr (.inl e))
        have q3 : s.getD (s.length - 4) 0 = 46 := Decidable.byContradiction fun e => q (.inr (.inr e))
        refine rMach_bad (by rw [List.length_drop]; omega) (fun ⟨a, b, c⟩ => hs ?_)
        cases s with
        | nil => exact absurd q1 (by decide)
        | cons x t =>
          obtain rfl : x = 77 := q2
          refine ⟨t, _, _, rfl, ⟨?_, by rw [List.length_drop]; omega, a, b, c⟩⟩
          rw [List.length_cons] at q1 q3 ⊢
          have e1 : t = t.take (t.length - 4) ++ t.drop (t.length - 4) := (List.take_append_drop _ _).symm
          have e2 : t.drop (t.length - 4) = t[t.length - 4]'(by omega) :: t.drop (t.length - 4 + 1) := List.drop_eq_getElem_cons (by omega)
          have e3 : t[t.length - 4]'(by omega) = 46 := by
            rw [show t.length + 1 - 4 = (t.length - 4) + 1 by omega, List.getD_cons_succ, List.getD_eq_getElem?_getD, List.getElem?_eq_getElem (by omega)] at q3
            exact q3
          rw [e3] at e2
          rw [show t.length + 1 - 3 = (t.length - 4 + 1) + 1 by omega, List.drop_succ_cons, List.drop_succ_cons, List.drop_zero, show t.length + 1 - 5 = t.length - 4 by omega, ← e2]
          exact e1
end Go.Proofs.YtnaokohffelklaaDoor
