/-
  Numbers of fields: an optional minus sign and 1 to 15 digits, the first of which is 0 only for the number 0. No program in sight.
-/
import Derived.Lib.Hide
import Derived.Lib.SlBytesConst
namespace Go.Proofs.YtnnafjmfbnnnjaaDoor
set_option linter.unusedVariables false

def isDig (c : UInt8) : Bool := decide (48 ≤ (c.toNat : Int) ∧ (c.toNat : Int) ≤ 57)
def valT (l : List UInt8) : Int := l.foldl (fun n c => 10 * n + ((c.toNat : Int) - 48)) 0
def numD (d : List UInt8) (neg : Bool) : Int × Bool :=
  if d.length < 1 ∨ 15 < d.length then (0, false) else if ((d.headD 0).toNat : Int) = 48 ∧ (1 < d.length ∨ neg = true) then (0, false)
  else if d.all isDig = true then (if neg = true then -valT d else valT d, true) else (0, false)
theorem isDig_iff {c : UInt8} : isDig c = true ↔ (48 ≤ (c.toNat : Int) ∧ (c.toNat : Int) ≤ 57) := by unfold isDig; simp
theorem valT_snoc (l : List UInt8) (c : UInt8) : valT (l ++ [c]) = 10 * valT l + ((c.toNat : Int) - 48) := by
  unfold valT; rw [List.foldl_append]; rfl
theorem fold_bd : ∀ (l : List UInt8) (n : Int), l.all isDig = true → 0 ≤ n → 0 ≤ l.foldl (fun n c => 10 * n + ((c.toNat : Int) - 48)) n ∧ l.foldl (fun n c => 10 * n + ((c.toNat : Int) - 48)) n + 1 ≤ (n + 1) * 10 ^ l.length := by
  intro l
  induction l with
  | nil => intro n _ h; simp; omega
  | cons c r ih =>
    intro n h hn
    rw [List.all_cons, Bool.and_eq_true] at h
    have hc := isDig_iff.1 h.1
    obtain ⟨a, b⟩ := ih (10 * n + ((c.toNat : Int) - 48)) h.2 (by omega)
    refine ⟨a, Int.le_trans b ?_⟩
    rw [List.length_cons, Int.pow_succ, Int.mul_comm (10 ^ r.length) 10, ← Int.mul_assoc]
    exact Int.mul_le_mul_of_nonneg_right (by omega) (Int.pow_nonneg (by decide))
theorem valT_bd {l : List UInt8} (h : l.all isDig = true) (hl : l.length ≤ 15) : 0 ≤ valT l ∧ valT l < 1000000000000000 := by
  obtain ⟨a, b⟩ := fold_bd l 0 h (Int.le_refl 0)
  refine ⟨a, ?_⟩
  have hp : (10 : Int) ^ l.length ≤ 10 ^ 15 := by
    have := Nat.pow_le_pow_right (show 1 ≤ 10 by decide) hl
    exact_mod_cast this
  have e : (10 : Int) ^ 15 = 1000000000000000 := by decide
  unfold valT
  omega
theorem take_snoc (s : ByteArray) (k : Nat) (h : k < s.size) : s.data.toList.take (k + 1) = s.data.toList.take k ++ [s[k]] := by
  rw [List.take_succ_eq_append_getElem (by simpa using h)]; rfl
theorem len_data (t : ByteArray) : t.data.toList.length = t.size := by rw [Array.length_toList]; rfl
theorem head_of (t : ByteArray) (h : 0 < t.size) : t.data.toList.headD 0 = t[0] := by
  have : t.data.toList = t.data.toList.take (0 + 1) ++ t.data.toList.drop 1 := (List.take_append_drop 1 _).symm
  rw [this, take_snoc t 0 h]; rfl
theorem notall (t : ByteArray) (k : Nat) (hk : k < t.size) (h : isDig t[k] = false) : t.data.toList.all isDig = false := by
  have e : t.data.toList = t.data.toList.take (k + 1) ++ t.data.toList.drop (k + 1) := (List.take_append_drop _ _).symm
  rw [e, take_snoc t k hk, List.all_append, List.all_append]
  simp [h]
theorem numD_len (t : ByteArray) (neg : Bool) (h : t.size < 1 ∨ 15 < t.size) : numD t.data.toList neg = (0, false) := by
  unfold numD; rw [if_pos (by rw [len_data]; exact h)]
theorem numD_zero (t : ByteArray) (neg : Bool) (h : 0 < t.size) (h2 : t.size ≤ 15) (h0 : (t[0].toNat : Int) = 48) (h1 : 1 < t.size ∨ neg = true) : numD t.data.toList neg = (0, false) := by
  unfold numD; rw [if_neg (by rw [len_data]; omega), head_of t h, if_pos ⟨h0, by rw [len_data]; exact h1⟩]
theorem numD_bad (t : ByteArray) (neg : Bool) (k : Nat) (hk : k < t.size) (h : isDig t[k] = false) : numD t.data.toList neg = (0, false) := by
  unfold numD
  have := notall t k hk h
  split
  · rfl
  · split
    · rfl
    · rw [this]; rfl
theorem numD_good (t : ByteArray) (neg : Bool) (h : 0 < t.size) (h2 : t.size ≤ 15) (h1 : ¬ ((t[0].toNat : Int) = 48 ∧ (1 < t.size ∨ neg = true))) (ha : t.data.toList.all isDig = true) :
    numD t.data.toList neg = (if neg = true then -valT t.data.toList else valT t.data.toList, true) := by
  unfold numD
  rw [if_neg (by rw [len_data]; omega), head_of t h, if_neg (by rw [len_data]; exact h1), if_pos ha]
end Go.Proofs.YtnnafjmfbnnnjaaDoor
