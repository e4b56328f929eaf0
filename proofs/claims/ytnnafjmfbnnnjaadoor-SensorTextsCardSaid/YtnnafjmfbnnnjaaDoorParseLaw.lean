/-
  The text of a report is parsed back to it, and an accepted text is the text of its report. No program in sight.
-/
import Derived.Test.YtnnafjmfbnnnjaaDoorParsePlain
import Derived.Test.YtnnafjmfbnnnjaaDoorTextWalk41
import Derived.Test.YtnnafjmfbnnnjaaDoorDecimal41
namespace Go.Proofs.YtnnafjmfbnnnjaaDoor
set_option linter.unusedVariables false

def decI (n : Int) : List UInt8 := Lib.decDigits n.toNat
theorem dg_nat (n : Int) : ((dg n).toNat : Int) = 48 + n % 10 := by
  unfold dg
  rw [UInt8.toNat_ofNat']
  omega
theorem decI_small {n : Int} (h0 : 0 ≤ n) (h1 : n < 10) : decI n = [dg n] := dec_small h0 h1
theorem decI_big {n : Int} (h : 10 ≤ n) : decI n = decI (n / 10) ++ [dg n] := dec_big h
theorem dg_dig (n : Int) : isDig (dg n) = true := by rw [isDig_iff, dg_nat]; omega
theorem decI_facts (k : Nat) : ∀ n : Int, 0 ≤ n → n.toNat ≤ k → valT (decI n) = n ∧ (decI n).all isDig = true ∧ decI n ≠ [] ∧ (1 ≤ n → ((decI n).headD 0).toNat ≠ 48) := by
  induction k with
  | zero =>
    intro n h0 h1
    rw [decI_small h0 (by omega)]
    refine ⟨?_, ?_, by simp, fun h => by omega⟩
    · show 10 * 0 + (((dg n).toNat : Int) - 48) = n
      rw [dg_nat]; omega
    · simp [dg_dig]
  | succ k ih =>
    intro n h0 h1
    by_cases h : n < 10
    · rw [decI_small h0 h]
      refine ⟨?_, ?_, by simp, fun h => ?_⟩
      · show 10 * 0 + (((dg n).toNat : Int) - 48) = n
        rw [dg_nat]; omega
      · simp [dg_dig]
      · show (dg n).toNat ≠ 48
        have := dg_nat n; omega
    · obtain ⟨a, b, c, d⟩ := ih (n / 10) (by omega) (by omega)
      rw [decI_big (by omega)]
      refine ⟨?_, ?_, by simp, fun _ => ?_⟩
      · rw [valT_snoc, a, dg_nat]; omega
      · rw [List.all_append, b]; simp [dg_dig]
      · have hh : (decI (n / 10) ++ [dg n]).headD 0 = (decI (n / 10)).headD 0 := by
          cases hl : decI (n / 10) with
          | nil => exact absurd hl c
          | cons x r => rfl
        rw [hh]
        exact d (by omega)
theorem decI_len (k : Nat) : ∀ n : Int, 0 ≤ n → n < 10 ^ (k + 1) → (decI n).length ≤ k + 1 := by
  induction k with
  | zero => intro n h0 h1; rw [decI_small h0 (by simpa using h1)]; simp
  | succ k ih =>
    intro n h0 h1
    by_cases h : n < 10
    · rw [decI_small h0 h]; simp
    · rw [decI_big (by omega), List.length_append]
      have := ih (n / 10) (by omega) (by
        rw [Int.pow_succ] at h1
        omega)
      simp only [List.length_cons, List.length_nil]
      omega
theorem numD_dec {n : Int} (neg : Bool) (h0 : 0 ≤ n) (h1 : n < 1000000000000000) (hn : neg = true → 1 ≤ n) : numD (decI n) neg = (if neg = true then -n else n, true) := by
  obtain ⟨a, b, c, d⟩ := decI_facts n.toNat n h0 (Nat.le_refl _)
  have hl := decI_len 14 n h0 (by have : (10 : Int) ^ (14 + 1) = 1000000000000000 := by decide
                                  omega)
  have hpos : 1 ≤ (decI n).length := by cases hh : decI n with | nil => exact absurd hh c | cons x r => simp
  unfold numD
  rw [if_neg (by omega)]
  have hz : ¬ (((decI n).headD 0).toNat = (48 : Int) ∧ (1 < (decI n).length ∨ neg = true)) := by
    rintro ⟨g, g2⟩
    by_cases h2 : 1 ≤ n
    · have := d h2; omega
    · obtain rfl : n = 0 := by omega
      rcases g2 with g2 | g2
      · rw [decI_small (by decide) (by decide)] at g2; simp at g2
      · have := hn g2; omega
  rw [if_neg hz, if_pos b, a]
theorem numF_itoa {n : Int} (h0 : -1000000000000000 < n) (h1 : n < 1000000000000000) : numF (Lib.itoa n) = (n, true) := by
  unfold numF Lib.itoa
  by_cases h : n < 0
  · rw [if_pos h, (pre_minus _).1, (pre_minus _).2]
    have := numD_dec (n := -n) true (by omega) (by omega) (fun _ => by omega)
    unfold decI at this
    rw [show n.natAbs = (-n).toNat by omega, this, if_pos rfl]
    simp
  · rw [if_neg h]
    obtain ⟨a, b, c, d⟩ := decI_facts n.toNat n (by omega) (Nat.le_refl _)
    have hne : ∀ r, Lib.decDigits n.toNat ≠ 45 :: r := by
      intro r e
      have b' : (Lib.decDigits n.toNat).all isDig = true := b
      rw [e, List.all_cons] at b'
      simp [isDig] at b'
    rw [(pre_none hne).1, (pre_none hne).2]
    exact numD_dec false (by omega) h1 (fun g => by cases g)
/-- the other way -/
theorem isDig_back {c : UInt8} (h : isDig c = true) : dg ((c.toNat : Int) - 48) = c := by
  have hc := isDig_iff.1 h
  apply UInt8.toNat_inj.1
  have := dg_nat ((c.toNat : Int) - 48)
  omega
theorem dg_add (m d : Int) (h0 : 0 ≤ d) (h1 : d < 10) : dg (10 * m + d) = dg d := by unfold dg; congr 2; omega
theorem valT_pos : ∀ (l : List UInt8), l.all isDig = true → l ≠ [] → (l.headD 0).toNat ≠ 48 → 1 ≤ valT l := by
  intro l h hne hh
  cases l with
  | nil => exact absurd rfl hne
  | cons c r =>
    rw [List.all_cons, Bool.and_eq_true] at h
    have hc := isDig_iff.1 h.1
    have hc2 : (c.toNat : Int) ≠ 48 := by
      intro e; apply hh; show c.toNat = 48; omega
    have key : ∀ (r : List UInt8) (n : Int), r.all isDig = true → 1 ≤ n → 1 ≤ r.foldl (fun n c => 10 * n + ((c.toNat : Int) - 48)) n := by
      intro r
      induction r with
      | nil => intro n _ h; exact h
      | cons c r ih =>
        intro n h hn
        rw [List.all_cons, Bool.and_eq_true] at h
        have := isDig_iff.1 h.1
        refine ih _ h.2 ?_
        show 1 ≤ 10 * n + ((c.toNat : Int) - 48)
        omega
    refine key r _ h.2 ?_
    show 1 ≤ 10 * 0 + ((c.toNat : Int) - 48)
    omega
theorem decI_back (k : Nat) : ∀ l : List UInt8, l.length = k + 1 → l.all isDig = true → ((l.headD 0).toNat = 48 → l.length = 1) → decI (valT l) = l := by
  induction k with
  | zero =>
    intro l hl hd _
    match l, hl with
    | [c], _ =>
      rw [List.all_cons, Bool.and_eq_true] at hd
      have hc := isDig_iff.1 hd.1
      have e : valT [c] = (c.toNat : Int) - 48 := by show 10 * 0 + ((c.toNat : Int) - 48) = _; omega
      rw [e, decI_small (by omega) (by omega), isDig_back hd.1]
  | succ k ih =>
    intro l hl hd hz
    have hne : l ≠ [] := by intro e; rw [e] at hl; simp at hl
    obtain ⟨l', c, rfl⟩ : ∃ l' c, l = l' ++ [c] := ⟨l.dropLast, l.getLast hne, (List.dropLast_concat_getLast hne).symm⟩
    rw [List.length_append, List.length_cons, List.length_nil] at hl
    rw [List.all_append, Bool.and_eq_true] at hd
    have hc : isDig c = true := by simpa using hd.2
    have hcb := isDig_iff.1 hc
    have hl'ne : l' ≠ [] := by intro e; rw [e] at hl; simp at hl
    have hh : (l' ++ [c]).headD 0 = l'.headD 0 := by cases l' with | nil => exact absurd rfl hl'ne | cons x r => rfl
    have hz' : (l'.headD 0).toNat ≠ 48 := by
      intro e
      have := hz (by rw [hh]; exact e)
      rw [List.length_append, List.length_cons, List.length_nil] at this
      omega
    have hp := valT_pos l' hd.1 hl'ne hz'
    rw [valT_snoc, decI_big (by omega), dg_add _ _ (by omega) (by omega), isDig_back hc]
    rw [show (10 * valT l' + ((c.toNat : Int) - 48)) / 10 = valT l' by omega]
    rw [ih l' (by omega) hd.1 (fun e => absurd e hz')]
theorem numF_back {f : List UInt8} (h : (numF f).2 = true) : Lib.itoa (numF f).1 = f := by
  have key : ∀ (d : List UInt8) (neg : Bool), (numD d neg).2 = true → d ≠ [] ∧ d.all isDig = true ∧ ((d.headD 0).toNat = 48 → d.length = 1 ∧ neg = false) ∧ (numD d neg).1 = if neg = true then -valT d else valT d := by
    intro d neg
    unfold numD
    split
    · intro g; cases g
    · rename_i h1
      split
      · intro g; cases g
      · rename_i h2
        split
        · rename_i h3
          intro _
          refine ⟨by intro e; rw [e] at h1; simp at h1, h3, fun e => ?_, rfl⟩
          have h4 : ¬ (1 < d.length ∨ neg = true) := fun g => h2 ⟨by omega, g⟩
          refine ⟨by omega, ?_⟩
          cases neg
          · rfl
          · exact absurd (.inr rfl) h4
        · intro g; cases g
  unfold numF at h ⊢
  by_cases hm : ∃ r, f = 45 :: r
  · obtain ⟨r, rfl⟩ := hm
    rw [(pre_minus r).1, (pre_minus r).2] at h ⊢
    obtain ⟨a, b, c, d⟩ := key r true h
    rw [d, if_pos rfl]
    have hz : (r.headD 0).toNat ≠ 48 := fun e => by have := (c e).2; cases this
    have hv := valT_pos r b a hz
    unfold Lib.itoa
    rw [if_pos (by omega), show (-valT r).natAbs = (valT r).toNat by omega]
    obtain ⟨k, hk⟩ : ∃ k, r.length = k + 1 := ⟨r.length - 1, by cases r with | nil => exact absurd rfl a | cons x y => simp⟩
    have := decI_back k r hk b (fun e => absurd e hz)
    unfold decI at this
    rw [this]
  · have hn := pre_none (l := f) (fun r e => hm ⟨r, e⟩)
    rw [hn.1, hn.2] at h ⊢
    obtain ⟨a, b, c, d⟩ := key f false h
    rw [d, if_neg (by decide)]
    have hv : 0 ≤ valT f := (fold_bd f 0 b (Int.le_refl 0)).1
    unfold Lib.itoa
    rw [if_neg (by omega)]
    obtain ⟨k, hk⟩ : ∃ k, f.length = k + 1 := ⟨f.length - 1, by cases f with | nil => exact absurd rfl a | cons x y => simp⟩
    exact decI_back k f hk b (fun e => (c e).1)
/-- blanks and fields -/
def unfl : List (List UInt8) → List UInt8
  | [] => []
  | [f] => f
  | f :: g :: r => f ++ 32 :: unfl (g :: r)
theorem unfl_fields (k : Nat) : ∀ l : List UInt8, l.count 32 = k → unfl (fieldsL l) = l ∧ fieldsL l ≠ [] := by
  induction k with
  | zero => intro l h; rw [fields_none (List.count_eq_zero.1 h)]; exact ⟨rfl, by simp⟩
  | succ k ih =>
    intro l h
    obtain ⟨a, b, rfl, ha⟩ := List.eq_append_cons_of_mem (show (32 : UInt8) ∈ l from List.count_pos_iff.1 (by omega))
    have hc : b.count 32 = k := by rw [List.count_append, List.count_eq_zero.2 ha, List.count_cons_self] at h; omega
    obtain ⟨p, q⟩ := ih b hc
    rw [fields_cut ha]
    refine ⟨?_, by simp⟩
    cases hb : fieldsL b with
    | nil => exact absurd hb q
    | cons x y => rw [hb] at p; show a ++ 32 :: unfl (x :: y) = _; rw [p]
theorem itoa_no32 (n : Int) : (32 : UInt8) ∉ Lib.itoa n := by
  have key : ∀ m : Int, 0 ≤ m → (32 : UInt8) ∉ decI m := by
    intro m hm hmem
    obtain ⟨-, b, -, -⟩ := decI_facts m.toNat m hm (Nat.le_refl _)
    have := List.all_eq_true.1 b 32 hmem
    simp [isDig] at this
  unfold Lib.itoa
  split
  · rename_i h
    have := key (-n) (by omega)
    unfold decI at this
    rw [show n.natAbs = (-n).toNat by omega]
    simp only [List.mem_cons, not_or]
    exact ⟨by decide, this⟩
  · exact key n (by omega)
theorem textL_fields (s k x y v b wt t : Int) : fieldsL (textL s k x y v b wt t) = [Lib.itoa s, [letterK k], Lib.itoa x, Lib.itoa y, Lib.itoa v, Lib.itoa b, Lib.itoa wt, Lib.itoa t] := by
  have e : textL s k x y v b wt t = Lib.itoa s ++ 32 :: ([letterK k] ++ 32 :: (Lib.itoa x ++ 32 :: (Lib.itoa y ++ 32 :: (Lib.itoa v ++ 32 :: (Lib.itoa b ++ 32 :: (Lib.itoa wt ++ 32 :: Lib.itoa t)))))) := by
    simp [textL, joinN]
  have hl : (32 : UInt8) ∉ [letterK k] := by
    unfold letterK
    split
    · decide
    · split <;> decide
  rw [e, fields_cut (itoa_no32 _), fields_cut hl, fields_cut (itoa_no32 _), fields_cut (itoa_no32 _), fields_cut (itoa_no32 _), fields_cut (itoa_no32 _), fields_cut (itoa_no32 _), fields_none (itoa_no32 _)]
theorem kind_letter {k : Int} (h : k = 1 ∨ k = 2 ∨ k = 3) : kindC (letterK k) = k := by
  rcases h with rfl | rfl | rfl <;> decide
theorem letter_kind {c : UInt8} (h : kindC c ≠ 0) : letterK (kindC c) = c := by
  unfold kindC at h ⊢
  by_cases h1 : c = 80
  · rw [if_pos h1, h1]; decide
  · rw [if_neg h1] at h ⊢
    by_cases h2 : c = 82
    · rw [if_pos h2, h2]; decide
    · rw [if_neg h2] at h ⊢
      by_cases h3 : c = 66
      · rw [if_pos h3, h3]; decide
      · rw [if_neg h3] at h; exact absurd rfl h
/-- the text of a good report is parsed back -/
theorem parse_text {s k x y v b wt t : Int} (h : checkI s k x y v b wt t = 0) : parse41 (textL s k x y v b wt t) = (⟨s, k, x, y, v, b, wt, t⟩, 0) := by
  obtain ⟨⟨s0, s1⟩, hk, ⟨x0, x1, y0, y1⟩, ⟨v0, v1⟩, ⟨b0, b1⟩, ⟨t0, t1⟩, u0, u1⟩ := check_bd h
  have hkz : kindC (letterK k) ≠ 0 := by rw [kind_letter hk]; omega
  unfold parse41
  rw [textL_fields, pF_pK]
  unfold pK okNums
  rw [if_neg hkz, kind_letter hk, numF_itoa (n := s) (by omega) (by omega), numF_itoa (n := x) (by omega) (by omega), numF_itoa (n := y) (by omega) (by omega), numF_itoa (n := v) (by omega) (by omega), numF_itoa (n := b) (by omega) (by omega), numF_itoa (n := wt) (by omega) (by omega), numF_itoa (n := t) (by omega) (by omega)]
  rw [if_pos (by rfl)]
  unfold checkedF
  rw [if_pos h]
theorem parse_nil : parse41 [] = (rp0, 4) := pF_len (F := fieldsL []) (by decide)
/-- an accepted text is the text of its report -/
theorem text_parse {l : List UInt8} {r : Rp} (h : parse41 l = (r, 0)) : textF r.s r.k r.x r.y r.v r.b r.w r.t = l ∧ 0 ≤ r.k ∧ r.k ≤ 255 := by
  unfold parse41 pF at h
  split at h
  · rename_i f0 c f2 f3 f4 f5 f6 f7 he
    unfold pK at h
    split at h
    · cases h
    · rename_i hk
      split at h
      · rename_i ho
        unfold checkedF at h
        split at h
        · rename_i hc
          simp only [Prod.mk.injEq, and_true] at h
          subst h
          unfold okNums at ho
          simp only [Bool.and_eq_true] at ho
          obtain ⟨⟨⟨⟨⟨⟨o0, o2⟩, o3⟩, o4⟩, o5⟩, o6⟩, o7⟩ := ho
          have hb := kindC_bd c
          refine ⟨?_, by simp only; omega, by simp only; omega⟩
          unfold textF
          rw [if_pos hc]
          have hu := (unfl_fields _ l rfl).1
          rw [he] at hu
          rw [← hu]
          simp only [textL, joinN, letter_kind hk, numF_back o0, numF_back o2, numF_back o3, numF_back o4, numF_back o5, numF_back o6, numF_back o7, unfl, List.foldl_cons, List.foldl_nil, List.append_assoc, List.cons_append, List.nil_append]
        · rename_i hc
          simp only [Prod.mk.injEq] at h
          exact absurd h.2 hc
      · cases h
  · cases h
end Go.Proofs.YtnnafjmfbnnnjaaDoor
