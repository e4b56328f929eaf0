/-
  The texts of winds, plain: the reference's digits and parse, and that texts and winds answer each other. No program in sight.
-/
import Derived.Test.YtdfpbojlimeccaaDoorWindParse
namespace Go.Proofs.YtdfpbojlimeccaaDoor
set_option linter.unusedVariables false
open Tr Sq

/-- the reference's Digits -/
def rDig (l : List UInt8) : Int × Bool := if l.all isDig = true then (valD 1000000000 l, decide (l.length = 1) || (decide (1 < l.length) && !decide (((l.headD 0).toNat : Int) = 48))) else (0, false)
/-- the reference's number -/
def rNum (l : List UInt8) : Int × Bool := if 0 < l.length ∧ ((l.headD 0).toNat : Int) = 45 then (-(rDig (l.drop 1)).1, (rDig (l.drop 1)).2 && !decide ((rDig (l.drop 1)).1 = 0)) else rDig l
def rParse (s : List UInt8) : Int × Int × Int :=
  if (Lib.cut s [44]).2.2 = true ∧ (rNum (Lib.cut s [44]).1).2 = true ∧ (rNum (Lib.cut s [44]).2.1).2 = true then
    if vldW (rNum (Lib.cut s [44]).1).1 (rNum (Lib.cut s [44]).2.1).1 = true then ((rNum (Lib.cut s [44]).1).1, (rNum (Lib.cut s [44]).2.1).1, 0) else (0, 0, 2)
  else (0, 0, 4)
/-- the value, not cut -/
def valT (l : List UInt8) : Int := l.foldl (fun n c => 10 * n + ((c.toNat : Int) - 48)) 0
theorem isDig_iff {c : UInt8} : isDig c = true ↔ (48 ≤ (c.toNat : Int) ∧ (c.toNat : Int) ≤ 57) := by unfold isDig; simp
theorem fold_min (cap : Int) (hcap : 0 ≤ cap) : ∀ (l : List UInt8) (n : Int), l.all isDig = true → 0 ≤ n → l.foldl (valStep cap) (min n cap) = min (l.foldl (fun n c => 10 * n + ((c.toNat : Int) - 48)) n) cap := by
  intro l
  induction l with
  | nil => intro n _ _; rfl
  | cons c r ih =>
    intro n h h0
    rw [List.all_cons, Bool.and_eq_true] at h
    have hc := isDig_iff.1 h.1
    simp only [List.foldl_cons]
    have e : valStep cap (min n cap) c = min (10 * n + ((c.toNat : Int) - 48)) cap := by unfold valStep; omega
    rw [e]
    exact ih _ h.2 (by omega)
theorem valD_eq {cap : Int} (hcap : 0 ≤ cap) {l : List UInt8} (h : l.all isDig = true) : valD cap l = min (valT l) cap := by
  have := fold_min cap hcap l 0 h (Int.le_refl 0)
  rw [Int.min_eq_left hcap] at this
  exact this
theorem valT_nonneg {l : List UInt8} (h : l.all isDig = true) : 0 ≤ valT l := by
  have key : ∀ (l : List UInt8) (n : Int), l.all isDig = true → 0 ≤ n → 0 ≤ l.foldl (fun n c => 10 * n + ((c.toNat : Int) - 48)) n := by
    intro l
    induction l with
    | nil => intro n _ h; exact h
    | cons c r ih =>
      intro n h h0
      rw [List.all_cons, Bool.and_eq_true] at h
      have hc := isDig_iff.1 h.1
      simp only [List.foldl_cons]
      exact ih _ h.2 (by omega)
  exact key l 0 h (Int.le_refl 0)
/-- a number with a first digit that is not 0 is at least a power of ten -/
theorem valT_ge : ∀ (r : List UInt8) (n : Int), r.all isDig = true → 1 ≤ n → n * 10 ^ r.length ≤ r.foldl (fun n c => 10 * n + ((c.toNat : Int) - 48)) n := by
  intro r
  induction r with
  | nil => intro n _ h; simp
  | cons c r ih =>
    intro n h h0
    rw [List.all_cons, Bool.and_eq_true] at h
    have hc := isDig_iff.1 h.1
    simp only [List.foldl_cons, List.length_cons]
    have := ih (10 * n + ((c.toNat : Int) - 48)) h.2 (by omega)
    refine Int.le_trans ?_ this
    rw [Int.pow_succ, Int.mul_comm (10 ^ r.length) 10, ← Int.mul_assoc]
    have hp : (0 : Int) ≤ 10 ^ r.length := Int.pow_nonneg (by decide)
    exact Int.mul_le_mul_of_nonneg_right (by omega) hp

/-- what follows an optional minus sign -/
theorem pre_minus (r : List UInt8) : Lib.hasPrefix (45 :: r) [45] = true ∧ Lib.trimPrefix (45 :: r) [45] = r := by
  unfold Lib.trimPrefix Lib.hasPrefix
  simp
theorem pre_none {l : List UInt8} (h : ∀ r, l ≠ 45 :: r) : Lib.hasPrefix l [45] = false ∧ Lib.trimPrefix l [45] = l := by
  have e : Lib.hasPrefix l [45] = false := by
    unfold Lib.hasPrefix
    cases l with
    | nil => rfl
    | cons c r =>
      by_cases hc : c = 45
      · subst hc; exact absurd rfl (h r)
      · simp [List.isPrefixOf]; exact fun e => absurd e.symm hc
  refine ⟨e, ?_⟩
  unfold Lib.trimPrefix
  rw [e]; rfl
theorem comp_minus (r : List UInt8) : compS (45 :: r) = compF r true := by unfold compS; rw [(pre_minus r).1, (pre_minus r).2]
theorem comp_plus {l : List UInt8} (h : ∀ r, l ≠ 45 :: r) : compS l = compF l false := by unfold compS; rw [(pre_none h).1, (pre_none h).2]
theorem byte45 {c : UInt8} (h : (c.toNat : Int) = 45) : c = 45 := by
  apply UInt8.toNat_inj.1
  show c.toNat = 45
  omega
theorem num_minus (r : List UInt8) : rNum (45 :: r) = (-(rDig r).1, (rDig r).2 && !decide ((rDig r).1 = 0)) := by
  unfold rNum
  rw [if_pos ⟨by simp, rfl⟩]
  rfl
theorem num_plus {l : List UInt8} (h : ∀ r, l ≠ 45 :: r) : rNum l = rDig l := by
  unfold rNum
  rw [if_neg]
  rintro ⟨h1, h2⟩
  cases l with
  | nil => simp at h1
  | cons c r => exact h r (by rw [byte45 (c := c) h2])
/-- a text of digits with a good first one -/
def GoodD (l : List UInt8) : Prop := l ≠ [] ∧ l.all isDig = true ∧ (((l.headD 0).toNat : Int) = 48 → l.length = 1)
theorem compF_iff (l : List UInt8) (neg : Bool) : (compF l neg).2 = true ↔ (GoodD l ∧ ¬(neg = true ∧ ((l.headD 0).toNat : Int) = 48)) := by
  unfold compF GoodD
  by_cases h0 : l = []
  · rw [if_pos h0]; simp [h0]
  · rw [if_neg h0]
    by_cases h1 : ((l.headD 0).toNat : Int) = 48 ∧ (1 < l.length ∨ neg = true)
    · rw [if_pos h1]
      simp only [Bool.false_eq_true, false_iff]
      rintro ⟨⟨_, _, h4⟩, h5⟩
      rcases h1.2 with h2 | h2
      · have := h4 h1.1; omega
      · exact h5 ⟨h2, h1.1⟩
    · rw [if_neg h1]
      by_cases h2 : l.all isDig = true
      · rw [if_pos h2]
        simp only [true_iff]
        refine ⟨⟨h0, h2, fun h3 => ?_⟩, fun h3 => h1 ⟨h3.2, .inr h3.1⟩⟩
        have : ¬ 1 < l.length := fun h4 => h1 ⟨h3, .inl h4⟩
        have : 0 < l.length := List.length_pos_iff.2 h0
        omega
      · rw [if_neg h2]
        simp [h2]
theorem compF_val {l : List UInt8} {neg : Bool} (h : (compF l neg).2 = true) : (compF l neg).1 = if neg = true then -min (valT l) 1000 else min (valT l) 1000 := by
  have hg := (compF_iff l neg).1 h
  unfold compF
  rw [if_neg hg.1.1, if_neg]
  · rw [if_pos hg.1.2.1, valD_eq (by decide) hg.1.2.1]
  · rintro ⟨h1, h2 | h2⟩
    · have := hg.1.2.2 h1; omega
    · exact hg.2 ⟨h2, h1⟩
theorem rDig_iff (l : List UInt8) : (rDig l).2 = true ↔ GoodD l := by
  unfold rDig GoodD
  by_cases h : l.all isDig = true
  · rw [if_pos h]
    simp only [Bool.or_eq_true, Bool.and_eq_true, decide_eq_true_iff, Bool.not_eq_true', decide_eq_false_iff_not]
    constructor
    · rintro (h1 | ⟨h1, h2⟩)
      · exact ⟨fun e => by rw [e] at h1; simp at h1, h, fun _ => h1⟩
      · exact ⟨fun e => by rw [e] at h1; simp at h1, h, fun e => absurd e h2⟩
    · rintro ⟨h1, _, h3⟩
      have : 0 < l.length := List.length_pos_iff.2 h1
      by_cases h4 : l.length = 1
      · exact .inl h4
      · exact .inr ⟨by omega, fun e => h4 (h3 e)⟩
  · rw [if_neg h]; simp [h]
theorem rDig_val {l : List UInt8} (h : GoodD l) : (rDig l).1 = min (valT l) 1000000000 := by
  unfold rDig
  rw [if_pos h.2.1]
  exact valD_eq (by decide) h.2.1
/-- a good text has the value 0 only if it is 0 -/
theorem good_zero {l : List UInt8} (h : GoodD l) : valT l = 0 ↔ ((l.headD 0).toNat : Int) = 48 := by
  obtain ⟨h0, h1, h2⟩ := h
  cases l with
  | nil => exact absurd rfl h0
  | cons c r =>
    rw [List.all_cons, Bool.and_eq_true] at h1
    have hc := isDig_iff.1 h1.1
    constructor
    · intro hv
      by_cases hz : (c.toNat : Int) = 48
      · exact hz
      · have := valT_ge r ((c.toNat : Int) - 48) h1.2 (by omega)
        have hp : (1 : Int) ≤ 10 ^ r.length := by
          have : (0 : Int) < 10 ^ r.length := Int.pow_pos (by decide)
          omega
        have hm : (1 : Int) * 1 ≤ ((c.toNat : Int) - 48) * 10 ^ r.length := Int.mul_le_mul (by omega) hp (by decide) (by omega)
        have e : valT (c :: r) = r.foldl (fun n c => 10 * n + ((c.toNat : Int) - 48)) ((c.toNat : Int) - 48) := by unfold valT; rw [List.foldl_cons]; congr 1; omega
        omega
    · intro hz
      have hz : (c.toNat : Int) = 48 := hz
      have := h2 hz
      have hr : r = [] := by cases r with
        | nil => rfl
        | cons d r' => simp at this
      subst hr
      unfold valT
      simp only [List.foldl_cons, List.foldl_nil]
      omega
/-- the two readings of a number agree, but for what is out of range -/
theorem num_same (l : List UInt8) : (rNum l).2 = (compS l).2 ∧ ((compS l).2 = true → ∃ t : Int, 0 ≤ t ∧ (((rNum l).1 = min t 1000000000 ∧ (compS l).1 = min t 1000) ∨ ((rNum l).1 = -min t 1000000000 ∧ (compS l).1 = -min t 1000))) := by
  by_cases hm : ∃ r, l = 45 :: r
  · obtain ⟨r, rfl⟩ := hm
    rw [num_minus, comp_minus]
    have hi := compF_iff r true
    have hd := rDig_iff r
    by_cases hg : GoodD r
    · have hv := rDig_val hg
      have hz := good_zero hg
      have hn := valT_nonneg hg.2.1
      constructor
      · rw [Bool.eq_iff_iff, hi, Bool.and_eq_true, hd, Bool.not_eq_true', decide_eq_false_iff_not]
        constructor
        · rintro ⟨_, h2⟩
          exact ⟨hg, fun h3 => h2 (by have := hz.2 h3.2; omega)⟩
        · rintro ⟨_, h2⟩
          exact ⟨hg, fun h3 => h2 ⟨rfl, hz.1 (by omega)⟩⟩
      · intro h
        have := compF_val h
        exact ⟨valT r, hn, .inr ⟨by show -(rDig r).1 = _; rw [hv], by rw [this]; rfl⟩⟩
    · have h1 : (rDig r).2 = false := by cases h : (rDig r).2; rfl; exact absurd (hd.1 h) hg
      have h2 : (compF r true).2 = false := by cases h : (compF r true).2; rfl; exact absurd (hi.1 h).1 hg
      rw [h1, h2]
      exact ⟨rfl, fun h => by cases h⟩
  · have hm : ∀ r, l ≠ 45 :: r := fun r e => hm ⟨r, e⟩
    rw [num_plus hm, comp_plus hm]
    have hi := compF_iff l false
    have hd := rDig_iff l
    by_cases hg : GoodD l
    · have h1 := hd.2 hg
      have h2 := hi.2 ⟨hg, by simp⟩
      rw [h1, h2]
      refine ⟨rfl, fun _ => ⟨valT l, valT_nonneg hg.2.1, .inl ⟨rDig_val hg, ?_⟩⟩⟩
      rw [compF_val h2]; rfl
    · have h1 : (rDig l).2 = false := by cases h : (rDig l).2; rfl; exact absurd (hd.1 h) hg
      have h2 : (compF l false).2 = false := by cases h : (compF l false).2; rfl; exact absurd (hi.1 h).1 hg
      rw [h1, h2]
      exact ⟨rfl, fun h => by cases h⟩
theorem parse_same (s : List UInt8) : rParse s = parseF s := by
  unfold rParse parseF
  obtain ⟨a1, a2⟩ := num_same (Lib.cut s [44]).1
  obtain ⟨b1, b2⟩ := num_same (Lib.cut s [44]).2.1
  rw [a1, b1]
  by_cases h : (Lib.cut s [44]).2.2 = true ∧ (compS (Lib.cut s [44]).1).2 = true ∧ (compS (Lib.cut s [44]).2.1).2 = true
  · rw [if_pos h, if_pos h]
    obtain ⟨t, t0, ht⟩ := a2 h.2.1
    obtain ⟨u, u0, hu⟩ := b2 h.2.2
    generalize (rNum (Lib.cut s [44]).1).1 = p at *
    generalize (compS (Lib.cut s [44]).1).1 = q at *
    generalize (rNum (Lib.cut s [44]).2.1).1 = p' at *
    generalize (compS (Lib.cut s [44]).2.1).1 = q' at *
    have hv : vldW p p' = true ↔ vldW q q' = true := by rw [vldW_iff, vldW_iff]; omega
    by_cases hq : vldW q q' = true
    · rw [if_pos (hv.2 hq), if_pos hq]
      have := vldW_iff.1 hq
      rw [show p = q by omega, show p' = q' by omega]
    · rw [if_neg (fun g => hq (hv.1 g)), if_neg hq]
  · rw [if_neg h, if_neg h]

/-- the digits of a number below 1000 -/
def digs (u : Nat) : List UInt8 := if u < 10 then [UInt8.ofNat (48 + u)] else if u < 100 then [UInt8.ofNat (48 + u / 10), UInt8.ofNat (48 + u % 10)] else [UInt8.ofNat (48 + u / 100), UInt8.ofNat (48 + u / 10 % 10), UInt8.ofNat (48 + u % 10)]
theorem dec_digs {u : Nat} (h : u < 1000) : Lib.decDigits u = digs u := by
  unfold digs
  by_cases h1 : u < 10
  · rw [if_pos h1]; exact Lib.decDigits_one h1
  · rw [if_neg h1]
    by_cases h2 : u < 100
    · rw [if_pos h2]; exact Lib.decDigits_two h1 h2
    · rw [if_neg h2, Lib.decDigits, dif_neg (by omega), Lib.decDigits_two (by omega) (by omega)]
      rw [show u / 10 / 10 = u / 100 by omega]
      rfl
def itoS (x : Int) : List UInt8 := if x < 0 then 45 :: digs x.natAbs else digs x.toNat
theorem itoa_digs {x : Int} (h0 : -400 ≤ x) (h1 : x ≤ 400) : Lib.itoa x = itoS x := by
  unfold Lib.itoa itoS
  split
  · rw [dec_digs (by omega)]
  · rw [dec_digs (by omega)]
def okIto (k : Nat) : Bool := decide (compS (itoS ((k : Int) - 400)) = ((k : Int) - 400, true)) && !(itoS ((k : Int) - 400)).contains 44
theorem okIto_all : ∀ k : Fin 801, okIto k.val = true := by decide +kernel
theorem comp_itoa {x : Int} (h0 : -400 ≤ x) (h1 : x ≤ 400) : compS (Lib.itoa x) = (x, true) ∧ 44 ∉ Lib.itoa x := by
  have h := okIto_all ⟨(x + 400).toNat, by omega⟩
  unfold okIto at h
  have e : (((x + 400).toNat : Nat) : Int) - 400 = x := by omega
  rw [Bool.and_eq_true, decide_eq_true_iff] at h
  simp only [e] at h
  rw [itoa_digs h0 h1]
  refine ⟨h.1, fun hm => ?_⟩
  have := h.2
  rw [Bool.not_eq_true', ← Bool.not_eq_true] at this
  exact this (List.contains_iff_mem.2 hm)
/-- the cut at the first comma -/
theorem idx_at : ∀ (a b : List UInt8), 44 ∉ a → Lib.indexByte (a ++ 44 :: b) 44 = a.length
  | [], b, _ => by simp [Lib.indexByte]
  | c :: r, b, h => by
    have h1 : c ≠ 44 := fun e => h (by rw [e]; exact List.mem_cons_self)
    have h2 : 44 ∉ r := fun e => h (List.mem_cons_of_mem _ e)
    have ih := idx_at r b h2
    rw [List.cons_append]
    unfold Lib.indexByte
    rw [ih]
    have e1 : (c == 44) = false := by simpa using h1
    have e2 : (((r.length : Nat) : Int) == -1) = false := by simp
    rw [e1, e2]
    simp
theorem cut_at (a b : List UInt8) (h : 44 ∉ a) : Lib.cut (a ++ [44] ++ b) [44] = (a, b, true) := by
  have e : a ++ [44] ++ b = a ++ 44 :: b := by simp
  rw [e]
  unfold Lib.cut
  rw [Lib.index_one, idx_at a b h, if_pos (by omega)]
  simp
theorem cut_back {l : List UInt8} (h : (Lib.cut l [44]).2.2 = true) : l = (Lib.cut l [44]).1 ++ [44] ++ (Lib.cut l [44]).2.1 := by
  unfold Lib.cut at *
  by_cases hi : 0 ≤ Lib.index l [44]
  · rw [if_pos hi] at *
    obtain ⟨o, ho⟩ := Int.eq_ofNat_of_zero_le hi
    rw [Lib.index_one] at ho
    have := (Lib.indexByte_some ho).1
    rw [Lib.index_one, ho]
    simp only [Int.toNat_natCast, List.length_singleton]
    have hlt : o < l.length := by
      rcases Nat.lt_or_ge o l.length with h1 | h1
      · exact h1
      · rw [List.getElem?_eq_none h1] at this; cases this
    rw [List.getElem?_eq_getElem hlt] at this
    have hc : l[o] = 44 := Option.some.inj this
    have e1 : l = l.take o ++ l.drop o := (List.take_append_drop o l).symm
    have e2 : l.drop o = l[o] :: l.drop (o + 1) := List.drop_eq_getElem_cons hlt
    rw [hc] at e2
    conv => lhs; rw [e1, e2]
    simp
  · rw [if_neg hi] at h; cases h
theorem ofNat_back {c : UInt8} {u : Nat} (h : c.toNat = u) : UInt8.ofNat u = c := by
  subst h; exact UInt8.ofNat_toNat
/-- a good text with a value of at most 400 is the digits of that value -/
theorem good_digs {l : List UInt8} (h : GoodD l) (hv : valT l ≤ 400) : l = digs (valT l).toNat := by
  obtain ⟨h0, h1, h2⟩ := h
  match l, h0 with
  | [a], _ =>
    simp only [List.all_cons, List.all_nil, Bool.and_true] at h1
    have ha := isDig_iff.1 h1
    have e : valT [a] = (a.toNat : Int) - 48 := by unfold valT; simp only [List.foldl_cons, List.foldl_nil]; omega
    rw [e]
    unfold digs
    rw [if_pos (by omega)]
    congr 1
    exact (ofNat_back (by omega)).symm
  | [a, b], _ =>
    simp only [List.all_cons, List.all_nil, Bool.and_true, Bool.and_eq_true] at h1
    have ha := isDig_iff.1 h1.1
    have hb := isDig_iff.1 h1.2
    have hz : (a.toNat : Int) ≠ 48 := fun e => by have := h2 e; simp at this
    have e : valT [a, b] = 10 * ((a.toNat : Int) - 48) + ((b.toNat : Int) - 48) := by unfold valT; simp only [List.foldl_cons, List.foldl_nil]; omega
    rw [e]
    unfold digs
    rw [if_neg (by omega), if_pos (by omega)]
    rw [ofNat_back (c := a) (by omega), ofNat_back (c := b) (by omega)]
  | [a, b, c], _ =>
    simp only [List.all_cons, List.all_nil, Bool.and_true, Bool.and_eq_true] at h1
    have ha := isDig_iff.1 h1.1
    have hb := isDig_iff.1 h1.2.1
    have hc := isDig_iff.1 h1.2.2
    have hz : (a.toNat : Int) ≠ 48 := fun e => by have := h2 e; simp at this
    have e : valT [a, b, c] = 100 * ((a.toNat : Int) - 48) + 10 * ((b.toNat : Int) - 48) + ((c.toNat : Int) - 48) := by unfold valT; simp only [List.foldl_cons, List.foldl_nil]; omega
    rw [e]
    unfold digs
    rw [if_neg (by omega), if_neg (by omega)]
    rw [ofNat_back (c := a) (by omega), ofNat_back (c := b) (by omega), ofNat_back (c := c) (by omega)]
  | a :: b :: c :: d :: r, _ =>
    exfalso
    rw [List.all_cons, Bool.and_eq_true] at h1
    have ha := isDig_iff.1 h1.1
    have hz : (a.toNat : Int) ≠ 48 := fun e => by have := h2 e; simp at this
    have := valT_ge (b :: c :: d :: r) ((a.toNat : Int) - 48) h1.2 (by omega)
    have e : valT (a :: b :: c :: d :: r) = (b :: c :: d :: r).foldl (fun n c => 10 * n + ((c.toNat : Int) - 48)) ((a.toNat : Int) - 48) := by unfold valT; rw [List.foldl_cons]; congr 1; omega
    have hp : (1000 : Int) ≤ 10 ^ (b :: c :: d :: r).length := by
      have h3 : (b :: c :: d :: r).length = r.length + 3 := by simp
      rw [h3, Int.pow_add]
      have : (0 : Int) < 10 ^ r.length := Int.pow_pos (by decide)
      have h4 : (10 : Int) ^ 3 = 1000 := by decide
      rw [h4]; omega
    have hm : (1 : Int) * 1000 ≤ ((a.toNat : Int) - 48) * 10 ^ (b :: c :: d :: r).length := Int.mul_le_mul (by omega) hp (by decide) (by omega)
    omega
theorem comp_back {l : List UInt8} {x : Int} (h : compS l = (x, true)) (h0 : -400 ≤ x) (h1 : x ≤ 400) : l = Lib.itoa x := by
  rw [itoa_digs h0 h1]
  by_cases hm : ∃ r, l = 45 :: r
  · obtain ⟨r, rfl⟩ := hm
    rw [comp_minus] at h
    have hok : (compF r true).2 = true := by rw [h]
    have hg := (compF_iff r true).1 hok
    have hv := compF_val hok
    rw [h] at hv
    have hv : x = -min (valT r) 1000 := hv
    have hz := good_zero hg.1
    have hn := valT_nonneg hg.1.2.1
    have hne : valT r ≠ 0 := fun e => hg.2 ⟨rfl, hz.1 e⟩
    have := good_digs hg.1 (by omega)
    unfold itoS
    rw [if_pos (by omega), show x.natAbs = (valT r).toNat by omega, ← this]
  · have hm : ∀ r, l ≠ 45 :: r := fun r e => hm ⟨r, e⟩
    rw [comp_plus hm] at h
    have hok : (compF l false).2 = true := by rw [h]
    have hg := (compF_iff l false).1 hok
    have hv := compF_val hok
    rw [h] at hv
    have hv : x = min (valT l) 1000 := hv
    have hn := valT_nonneg hg.1.2.1
    have := good_digs hg.1 (by omega)
    unfold itoS
    rw [if_neg (by omega), show x.toNat = (valT l).toNat by omega, ← this]
/-- a wind's text is read back -/
theorem parse_text {x n : Int} (h : vldW x n = true) : parseF (Lib.itoa x ++ [44] ++ Lib.itoa n) = (x, n, 0) := by
  obtain ⟨a, b, c, d⟩ := vldW_iff.1 h
  obtain ⟨e1, e2⟩ := comp_itoa a b
  obtain ⟨f1, _⟩ := comp_itoa c d
  unfold parseF
  rw [cut_at _ _ e2]
  simp only [e1, f1]
  rw [if_pos (by simp), if_pos h]
/-- an accepted text is the text of its wind -/
theorem text_parse {s : List UInt8} {x n : Int} (h : parseF s = (x, n, 0)) : vldW x n = true ∧ Lib.itoa x ++ [44] ++ Lib.itoa n = s := by
  unfold parseF at h
  split at h
  · rename_i hok
    split at h
    · rename_i hv
      simp only [Prod.mk.injEq] at h
      obtain ⟨rfl, rfl, _⟩ := h
      refine ⟨hv, ?_⟩
      obtain ⟨a, b, c, d⟩ := vldW_iff.1 hv
      have h1 := comp_back (l := (Lib.cut s [44]).1) (Prod.ext rfl hok.2.1) a b
      have h2 := comp_back (l := (Lib.cut s [44]).2.1) (Prod.ext rfl hok.2.2) c d
      rw [← h1, ← h2]
      exact (cut_back hok.1).symm
    · simp at h
  · simp at h
end Go.Proofs.YtdfpbojlimeccaaDoor
