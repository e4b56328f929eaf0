/-
  Of the text SensorPlain: what is wanted here.
-/
import Derived.Test.YtajmjkliblippaaGreatDoorSnTrigPlain
import Derived.Test.YtajmjkliblippaaGreatDoorSnSqrtPlain
import Derived.Test.YtajmjkliblippaaGreatDoorFixPlain
namespace Go.Proofs.YtajmjkliblippaaGreatDoor.S41
set_option linter.unusedVariables false
open Tr Sq
def fromB (x lo hi : Int) : Bool := decide (lo ≤ x) && decide (x ≤ hi)
theorem fromB_iff {x lo hi : Int} : fromB x lo hi = true ↔ (lo ≤ x ∧ x ≤ hi) := by unfold fromB; simp
def pvB (x y : Int) : Bool := decide (-2000000 ≤ x) && decide (x ≤ 2000000) && decide (-2000000 ≤ y) && decide (y ≤ 2000000)
theorem pvB_iff {x y : Int} : pvB x y = true ↔ (-2000000 ≤ x ∧ x ≤ 2000000 ∧ -2000000 ≤ y ∧ y ≤ 2000000) := by unfold pvB; simp [and_assoc]
def maxV (k : Int) : Int := if k = 2 then 8000000 else if k = 3 then 129599999 else 0
def maxBd (k : Int) : Int := if k = 3 then 3600000 else 600000
/-- the first part of a report's check, and the second -/
def okA (s k x y w : Int) : Bool := fromB s 1 8 && decide (1 ≤ k) && decide (k ≤ 3) && pvB x y && fromB w 1 16
def okR (k v b t : Int) : Bool := fromB t 0 1099511627776 && fromB b 0 (maxBd k) && fromB v 0 (maxV k)
def checkI (s k x y v b w t : Int) : Int := if okA s k x y w = true then (if okR k v b t = true then 0 else 2) else 1
theorem okA_iff {s k x y w : Int} : okA s k x y w = true ↔ ((1 ≤ s ∧ s ≤ 8) ∧ 1 ≤ k ∧ k ≤ 3 ∧ (-2000000 ≤ x ∧ x ≤ 2000000 ∧ -2000000 ≤ y ∧ y ≤ 2000000) ∧ 1 ≤ w ∧ w ≤ 16) := by
  unfold okA; simp only [Bool.and_eq_true, fromB_iff, pvB_iff, decide_eq_true_iff, and_assoc]
theorem okR_iff {k v b t : Int} : okR k v b t = true ↔ ((0 ≤ t ∧ t ≤ 1099511627776) ∧ (0 ≤ b ∧ b ≤ maxBd k) ∧ 0 ≤ v ∧ v ≤ maxV k) := by
  unfold okR; simp only [Bool.and_eq_true, fromB_iff, and_assoc]
theorem check_ok {s k x y v b w t : Int} : checkI s k x y v b w t = 0 ↔ (okA s k x y w = true ∧ okR k v b t = true) := by
  unfold checkI
  split <;> rename_i h
  · split <;> rename_i h2
    · simp [h, h2]
    · simp [h2]
  · simp [h]
theorem check_err (s k x y v b w t : Int) : checkI s k x y v b w t = 0 ∨ checkI s k x y v b w t = 1 ∨ checkI s k x y v b w t = 2 := by
  unfold checkI
  split
  · split
    · exact .inl rfl
    · exact .inr (.inr rfl)
  · exact .inr (.inl rfl)
/-- what a good report's numbers are -/
theorem check_bd {s k x y v b w t : Int} (h : checkI s k x y v b w t = 0) :
    (1 ≤ s ∧ s ≤ 8) ∧ (k = 1 ∨ k = 2 ∨ k = 3) ∧ (-2000000 ≤ x ∧ x ≤ 2000000 ∧ -2000000 ≤ y ∧ y ≤ 2000000) ∧ (0 ≤ v ∧ v ≤ 129599999) ∧ (0 ≤ b ∧ b ≤ 3600000) ∧ (1 ≤ w ∧ w ≤ 16) ∧ (0 ≤ t ∧ t ≤ 1099511627776) := by
  obtain ⟨h1, h2⟩ := check_ok.1 h
  have a := okA_iff.1 h1
  have c := okR_iff.1 h2
  unfold maxBd maxV at c
  split at c <;> split at c <;> omega
def boxV (cx cy bx b2 : Int) : Bool := pvB cx cy && fromB bx 0 2000000 && fromB b2 0 2000000
theorem boxV_iff {cx cy bx b2 : Int} : boxV cx cy bx b2 = true ↔ ((-2000000 ≤ cx ∧ cx ≤ 2000000 ∧ -2000000 ≤ cy ∧ cy ≤ 2000000) ∧ (0 ≤ bx ∧ bx ≤ 2000000) ∧ 0 ≤ b2 ∧ b2 ≤ 2000000) := by
  unfold boxV; simp only [Bool.and_eq_true, pvB_iff, fromB_iff, and_assoc]
/-- the root, rounded up -/
def sqU (n : Int) : Int := if 0 < n ∧ isq n * isq n < n then isq n + 1 else isq n
def radI (cx cy bx b2 : Int) : Int := if boxV cx cy bx b2 = true then sqU (bx * bx + b2 * b2) else 0
def insB (cx cy bx b2 px py : Int) : Bool := boxV cx cy bx b2 && fromB px (cx - bx) (cx + bx) && fromB py (cy - b2) (cy + b2)
theorem insB_iff {cx cy bx b2 px py : Int} : insB cx cy bx b2 px py = true ↔ (boxV cx cy bx b2 = true ∧ (cx - bx ≤ px ∧ px ≤ cx + bx) ∧ cy - b2 ≤ py ∧ py ≤ cy + b2) := by
  unfold insB; simp only [Bool.and_eq_true, fromB_iff, and_assoc]
def d2 (x y p q : Int) : Int := (p - x) * (p - x) + (q - y) * (q - y)
def distI (x y p q : Int) : Int := if (pvB x y && pvB p q) = true then isq (d2 x y p q) else 0
/-- course and error -/
def courseF (x y p q : Int) : Int × Int := if (pvB x y && pvB p q) = true then (if x = p ∧ y = q then (0, 10) else (atanI (p - x) (q - y), 0)) else (0, 1)
theorem pv2 {x y p q : Int} (h : (pvB x y && pvB p q) = true) : (-2000000 ≤ x ∧ x ≤ 2000000 ∧ -2000000 ≤ y ∧ y ≤ 2000000) ∧ (-2000000 ≤ p ∧ p ≤ 2000000 ∧ -2000000 ≤ q ∧ q ≤ 2000000) := by
  rw [Bool.and_eq_true] at h
  exact ⟨pvB_iff.1 h.1, pvB_iff.1 h.2⟩
theorem sq_bd {x k : Int} (h0 : -k ≤ x) (h1 : x ≤ k) : 0 ≤ x * x ∧ x * x ≤ k * k := by
  refine ⟨Sq.sq_nonneg x, ?_⟩
  rcases Int.le_total 0 x with h | h
  · exact sq_le h h1
  · have := sq_le (a := -x) (b := k) (by omega) (by omega)
    rwa [Int.neg_mul_neg] at this
theorem d2_bd {x y p q : Int} (h : (pvB x y && pvB p q) = true) : 0 ≤ d2 x y p q ∧ d2 x y p q ≤ 32000000000000 ∧ 0 ≤ (p - x) * (p - x) ∧ (p - x) * (p - x) ≤ 16000000000000 ∧ 0 ≤ (q - y) * (q - y) ∧ (q - y) * (q - y) ≤ 16000000000000 := by
  obtain ⟨a, b⟩ := pv2 h
  have h1 := sq_bd (x := p - x) (k := 4000000) (by omega) (by omega)
  have h2 := sq_bd (x := q - y) (k := 4000000) (by omega) (by omega)
  unfold d2
  omega
def agrP (x y b px py : Int) : Bool := decide (absI (px - x) ≤ b) && decide (absI (py - y) ≤ b)
def agrR (x y v b px py : Int) : Bool := decide (d2 x y px py ≤ (v + b) * (v + b)) && (decide (v - b ≤ 0) || decide ((v - b) * (v - b) ≤ d2 x y px py))
def agrC (x y v b px py : Int) : Bool := decide ((courseF x y px py).2 = 0) && decide (absI (diffI v (courseF x y px py).1) ≤ b - 2)
def agrB (s k x y v b w t px py : Int) : Bool := decide (checkI s k x y v b w t = 0) && pvB px py && (if k = 1 then agrP x y b px py else if k = 2 then agrR x y v b px py else agrC x y v b px py)
end Go.Proofs.YtajmjkliblippaaGreatDoor.S41
