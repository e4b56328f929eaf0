/-
  Decimal digits read and written: values, cut values, good texts, and the digits of small numbers. No program in sight.
-/
import Derived.Lib.Hide
import Derived.Lib.SlBytesConst
import Derived.Laws.IdiomStrings
import Derived.Lib.ItoaLen
import Derived.Lib.Strings
import Derived.Lib.IndexMore
namespace Go.Proofs.YtnaokohffelklaaDoor
set_option linter.unusedVariables false

def isDig (c : UInt8) : Bool := decide (48 ≤ (c.toNat : Int) ∧ (c.toNat : Int) ≤ 57)
def valStep (cap : Int) (n : Int) (c : UInt8) : Int := min (10 * n + ((c.toNat : Int) - 48)) cap
def valD (cap : Int) (l : List UInt8) : Int := l.foldl (valStep cap) 0
/-- digits read: the number, and whether all are digits -/
def digF (cap : Int) (l : List UInt8) : Int × Bool := if l.all isDig = true then (valD cap l, true) else (0, false)
theorem valStep_bd {cap n : Int} {c : UInt8} (hc : isDig c = true) (h0 : 0 ≤ n) (h1 : n ≤ cap) (hcap : 0 ≤ cap) : 0 ≤ valStep cap n c ∧ valStep cap n c ≤ cap := by
  unfold isDig at hc
  have := of_decide_eq_true hc
  unfold valStep
  omega
theorem valD_snoc (cap : Int) (l : List UInt8) (c : UInt8) : valD cap (l ++ [c]) = valStep cap (valD cap l) c := by
  unfold valD; rw [List.foldl_append]; rfl
theorem valD_bd {cap : Int} (hcap : 0 ≤ cap) (l : List UInt8) (h : l.all isDig = true) : 0 ≤ valD cap l ∧ valD cap l ≤ cap := by
  have key : ∀ (l : List UInt8) (n : Int), l.all isDig = true → 0 ≤ n → n ≤ cap → 0 ≤ l.foldl (valStep cap) n ∧ l.foldl (valStep cap) n ≤ cap := by
    intro l
    induction l with
    | nil => intro n _ h0 h1; exact ⟨h0, h1⟩
    | cons c r ih =>
      intro n h h0 h1
      rw [List.all_cons, Bool.and_eq_true] at h
      have := valStep_bd h.1 h0 h1 hcap
      exact ih _ h.2 this.1 this.2
  exact key l 0 h (Int.le_refl 0) hcap
theorem take_snoc (s : ByteArray) (k : Nat) (h : k < s.size) : s.data.toList.take (k + 1) = s.data.toList.take k ++ [s[k]] := by
  rw [List.take_succ_eq_append_getElem (by simpa using h)]; rfl

theorem ba_eta (t : ByteArray) : (⟨t.data.toList.toArray⟩ : ByteArray) = t := by cases t; simp
theorem len_data (t : ByteArray) : t.data.toList.length = t.size := by rw [Array.length_toList]; rfl
theorem head_of (t : ByteArray) (h : 0 < t.size) : t.data.toList.headD 0 = t[0] := by
  have : t.data.toList = t.data.toList.take (0 + 1) ++ t.data.toList.drop 1 := (List.take_append_drop 1 _).symm
  rw [this, take_snoc t 0 h]; rfl
theorem notall (t : ByteArray) (k : Nat) (hk : k < t.size) (h : isDig t[k] = false) : t.data.toList.all isDig = false := by
  have e : t.data.toList = t.data.toList.take (k + 1) ++ t.data.toList.drop (k + 1) := (List.take_append_drop _ _).symm
  rw [e, take_snoc t k hk, List.all_append, List.all_append]
  simp [h]
/-- the reference's Digits -/
def rDig (l : List UInt8) : Int × Bool := if l.all isDig = true then (valD 1000000000 l, decide (l.length = 1) || (decide (1 < l.length) && !decide (((l.headD 0).toNat : Int) = 48))) else (0, false)
/-- the value, not cut -/
def valT (l : List UInt8) : Int := l.foldl (fun n c => 10 * n + ((c.toNat : Int) - 48)) 0
theorem isDig_iff {c : UInt8} : isDig c = true ↔ (48 ≤ (c.toNat : Int) ∧ (c.toNat : Int) ≤ 57) := by unfold isDig; simp
theorem fold_min (cap : Int) (hcap : 0 ≤ cap) : ∀ (l : List UInt8) (n : Int), l.all isDig = true → 0 ≤ n → l.foldl (valStep cap) (min n cap) = min (l.foldl (fun n c => 10 * n + ((c.toNat : Int) - 48)) n) cap := by
  intro l
  induction l with
  | nil => intro n _ _; rfl
  | cons c r ih =>
    intro n h h0
    rw [List.all_cons, Bool.and_eq_true] at h
    have hc := isDig_iff.1 h.1
    simp only [List.foldl_cons]
    have e : valStep cap (min n cap) c = min (10 * n + ((c.toNat : Int) - 48)) cap := by unfold valStep; omega
    rw [e]
    exact ih _ h.2 (by omega)
theorem valD_eq {cap : Int} (hcap : 0 ≤ cap) {l : List UInt8} (h : l.all isDig = true) : valD cap l = min (valT l) cap := by
  have := fold_min cap hcap l 0 h (Int.le_refl 0)
  rw [Int.min_eq_left hcap] at this
  exact this
theorem valT_nonneg {l : List UInt8} (h : l.all isDig = true) : 0 ≤ valT l := by
  have key : ∀ (l : List UInt8) (n : Int), l.all isDig = true → 0 ≤ n → 0 ≤ l.foldl (fun n c => 10 * n + ((c.toNat : Int) - 48)) n := by
    intro l
    induction l with
    | nil => intro n _ h; exact h
    | cons c r ih =>
      intro n h h0
      rw [List.all_cons, Bool.and_eq_true] at h
      have hc := isDig_iff.1 h.1
      simp only [List.foldl_cons]
      exact ih _ h.2 (by omega)
  exact key l 0 h (Int.le_refl 0)
/-- a number with a first digit that is not 0 is at least a power of ten -/
theorem valT_ge : ∀ (r : List UInt8) (n : Int), r.all isDig = true → 1 ≤ n → n * 10 ^ r.length ≤ r.foldl (fun n c => 10 * n + ((c.toNat : Int) - 48)) n := by
  intro r
  induction r with
  | nil => intro n _ h; simp
  | cons c r ih =>
    intro n h h0
    rw [List.all_cons, Bool.and_eq_true] at h
    have hc := isDig_iff.1 h.1
    simp only [List.foldl_cons, List.length_cons]
    have := ih (10 * n + ((c.toNat : Int) - 48)) h.2 (by omega)
    refine Int.le_trans ?_ this
    rw [Int.pow_succ, Int.mul_comm (10 ^ r.length) 10, ← Int.mul_assoc]
    have hp : (0 : Int) ≤ 10 ^ r.length := Int.pow_nonneg (by decide)
    exact Int.mul_le_mul_of_nonneg_right (by omega) hp

/-- a text of digits with a good first one -/
def GoodD (l : List UInt8) : Prop := l ≠ [] ∧ l.all isDig = true ∧ (((l.headD 0).toNat : Int) = 48 → l.length = 1)
theorem rDig_iff (l : List UInt8) : (rDig l).2 = true ↔ GoodD l := by
  unfold rDig GoodD
  by_cases h : l.all isDig = true
  · rw [if_pos h]
    simp only [Bool.or_eq_true, Bool.and_eq_true, decide_eq_true_iff, Bool.not_eq_true', decide_eq_false_iff_not]
    constructor
    · rintro (h1 | ⟨h1, h2⟩)
      · exact ⟨fun e => by rw [e] at h1; simp at h1, h, fun _ => h1⟩
      · exact ⟨fun e => by rw [e] at h1; simp at h1, h, fun e => absurd e h2⟩
    · rintro ⟨h1, _, h3⟩
      have : 0 < l.length := List.length_pos_iff.2 h1
      by_cases h4 : l.length = 1
      · exact .inl h4
      · exact .inr ⟨by omega, fun e => h4 (h3 e)⟩
  · rw [if_neg h]; simp [h]
theorem rDig_val {l : List UInt8} (h : GoodD l) : (rDig l).1 = min (valT l) 1000000000 := by
  unfold rDig
  rw [if_pos h.2.1]
  exact valD_eq (by decide) h.2.1
/-- a good text has the value 0 only if it is 0 -/
theorem good_zero {l : List UInt8} (h : GoodD l) : valT l = 0 ↔ ((l.headD 0).toNat : Int) = 48 := by
  obtain ⟨h0, h1, h2⟩ := h
  cases l with
  | nil => exact absurd rfl h0
  | cons c r =>
    rw [List.all_cons, Bool.and_eq_true] at h1
    have hc := isDig_iff.1 h1.1
    constructor
    · intro hv
      by_cases hz : (c.toNat : Int) = 48
      · exact hz
      · have := valT_ge r ((c.toNat : Int) - 48) h1.2 (by omega)
        have hp : (1 : Int) ≤ 10 ^ r.length := by
          have : (0 : Int) < 10 ^ r.length := Int.pow_pos (by decide)
          omega
        have hm : (1 : Int) * 1 ≤ ((c.toNat : Int) - 48) * 10 ^ r.length := Int.mul_le_mul (by omega) hp (by decide) (by omega)
        have e : valT (c :: r) = r.foldl (fun n c => 10 * n + ((c.toNat : Int) - 48)) ((c.toNat : Int) - 48) := by unfold valT; rw [List.foldl_cons]; congr 1; omega
        omega
    · intro hz
      have hz : (c.toNat : Int) = 48 := hz
      have := h2 hz
      have hr : r = [] := by cases r with
        | nil => rfl
        | cons d r' => simp at this
      subst hr
      unfold valT
      simp only [List.foldl_cons, List.foldl_nil]
      omega
/-- the digits of a number below 1000 -/
def digs (u : Nat) : List UInt8 := if u < 10 then [UInt8.ofNat (48 + u)] else if u < 100 then [UInt8.ofNat (48 + u / 10), UInt8.ofNat (48 + u % 10)] else [UInt8.ofNat (48 + u / 100), UInt8.ofNat (48 + u / 10 % 10), UInt8.ofNat (48 + u % 10)]
theorem dec_digs {u : Nat} (h : u < 1000) : Lib.decDigits u = digs u := by
  unfold digs
  by_cases h1 : u < 10
  · rw [if_pos h1]; exact Lib.decDigits_one h1
  · rw [if_neg h1]
    by_cases h2 : u < 100
    · rw [if_pos h2]; exact Lib.decDigits_two h1 h2
    · rw [if_neg h2, Lib.decDigits, dif_neg (by omega), Lib.decDigits_two (by omega) (by omega)]
      rw [show u / 10 / 10 = u / 100 by omega]
      rfl
theorem ofNat_back {c : UInt8} {u : Nat} (h : c.toNat = u) : UInt8.ofNat u = c := by
  subst h; exact UInt8.ofNat_toNat
/-- a good text with a value of at most 400 is the digits of that value -/
theorem good_digs {l : List UInt8} (h : GoodD l) (hv : valT l ≤ 400) : l = digs (valT l).toNat := by
  obtain ⟨h0, h1, h2⟩ := h
  match l, h0 with
  | [a], _ =>
    simp only [List.all_cons, List.all_nil, Bool.and_true] at h1
    have ha := isDig_iff.1 h1
    have e : valT [a] = (a.toNat : Int) - 48 := by unfold valT; simp only [List.foldl_cons, List.foldl_nil]; omega
    rw [e]
    unfold digs
    rw [if_pos (by omega)]
    congr 1
    exact (ofNat_back (by omega)).symm
  | [a, b], _ =>
    simp only [List.all_cons, List.all_nil, Bool.and_true, Bool.and_eq_true] at h1
    have ha := isDig_iff.1 h1.1
    have hb := isDig_iff.1 h1.2
    have hz : (a.toNat : Int) ≠ 48 := fun e => by have := h2 e; simp at this
    have e : valT [a, b] = 10 * ((a.toNat : Int) - 48) + ((b.toNat : Int) - 48) := by unfold valT; simp only [List.foldl_cons, List.foldl_nil]; omega
    rw [e]
    unfold digs
    rw [if_neg (by omega), if_pos (by omega)]
    rw [ofNat_back (c := a) (by omega), ofNat_back (c := b) (by omega)]
  | [a, b, c], _ =>
    simp only [List.all_cons, List.all_nil, Bool.and_true, Bool.and_eq_true] at h1
    have ha := isDig_iff.1 h1.1
    have hb := isDig_iff.1 h1.2.1
    have hc := isDig_iff.1 h1.2.2
    have hz : (a.toNat : Int) ≠ 48 := fun e => by have := h2 e; simp at this
    have e : valT [a, b, c] = 100 * ((a.toNat : Int) - 48) + 10 * ((b.toNat : Int) - 48) + ((c.toNat : Int) - 48) := by unfold valT; simp only [List.foldl_cons, List.foldl_nil]; omega
    rw [e]
    unfold digs
    rw [if_neg (by omega), if_neg (by omega)]
    rw [ofNat_back (c := a) (by omega), ofNat_back (c := b) (by omega), ofNat_back (c := c) (by omega)]
  | a :: b :: c :: d :: r, _ =>
    exfalso
    rw [List.all_cons, Bool.and_eq_true] at h1
    have ha := isDig_iff.1 h1.1
    have hz : (a.toNat : Int) ≠ 48 := fun e => by have := h2 e; simp at this
    have := valT_ge (b :: c :: d :: r) ((a.toNat : Int) - 48) h1.2 (by omega)
    have e : valT (a :: b :: c :: d :: r) = (b :: c :: d :: r).foldl (fun n c => 10 * n + ((c.toNat : Int) - 48)) ((a.toNat : Int) - 48) := by unfold valT; rw [List.foldl_cons]; congr 1; omega
    have hp : (1000 : Int) ≤ 10 ^ (b :: c :: d :: r).length := by
      have h3 : (b :: c :: d :: r).length = r.length + 3 := by simp
      rw [h3, Int.pow_add]
      have : (0 : Int) < 10 ^ r.length := Int.pow_pos (by decide)
      have h4 : (10 : Int) ^ 3 = 1000 := by decide
      rw [h4]; omega
    have hm : (1 : Int) * 1000 ≤ ((a.toNat : Int) - 48) * 10 ^ (b :: c :: d :: r).length := Int.mul_le_mul (by omega) hp (by decide) (by omega)
    omega
/-- the cut at the first point -/
theorem idx_at : ∀ (a b : List UInt8), 46 ∉ a → Lib.indexByte (a ++ 46 :: b) 46 = a.length
  | [], b, _ => by simp [Lib.indexByte]
  | c :: r, b, h => by
    have h1 : c ≠ 46 := fun e => h (by rw [e]; exact List.mem_cons_self)
    have h2 : 46 ∉ r := fun e => h (List.mem_cons_of_mem _ e)
    have ih := idx_at r b h2
    rw [List.cons_append]
    unfold Lib.indexByte
    rw [ih]
    have e1 : (c == 46) = false := by simpa using h1
    have e2 : (((r.length : Nat) : Int) == -1) = false := by simp
    rw [e1, e2]
    simp
theorem cut_at (a b : List UInt8) (h : 46 ∉ a) : Lib.cut (a ++ [46] ++ b) [46] = (a, b, true) := by
  have e : a ++ [46] ++ b = a ++ 46 :: b := by simp
  rw [e]
  unfold Lib.cut
  rw [Lib.index_one, idx_at a b h, if_pos (by omega)]
  simp
theorem cut_back {l : List UInt8} (h : (Lib.cut l [46]).2.2 = true) : l = (Lib.cut l [46]).1 ++ [46] ++ (Lib.cut l [46]).2.1 := by
  unfold Lib.cut at *
  by_cases hi : 0 ≤ Lib.index l [46]
  · rw [if_pos hi] at *
    obtain ⟨o, ho⟩ := Int.eq_ofNat_of_zero_le hi
    rw [Lib.index_one] at ho
    have := (Lib.indexByte_some ho).1
    rw [Lib.index_one, ho]
    simp only [Int.toNat_natCast, List.length_singleton]
    have hlt : o < l.length := by
      rcases Nat.lt_or_ge o l.length with h1 | h1
      · exact h1
      · rw [List.getElem?_eq_none h1] at this; cases this
    rw [List.getElem?_eq_getElem hlt] at this
    have hc : l[o] = 46 := Option.some.inj this
    have e1 : l = l.take o ++ l.drop o := (List.take_append_drop o l).symm
    have e2 : l.drop o = l[o] :: l.drop (o + 1) := List.drop_eq_getElem_cons hlt
    rw [hc] at e2
    conv => lhs; rw [e1, e2]
    simp
  · rw [if_neg hi] at h; cases h
end Go.Proofs.YtnaokohffelklaaDoor
