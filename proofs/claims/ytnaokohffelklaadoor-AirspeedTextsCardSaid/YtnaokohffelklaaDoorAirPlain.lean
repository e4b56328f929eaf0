/-
  Tables of the atmosphere read by segments, and how their values rise or fall. No program in sight.
-/
import Derived.Test.YtnaokohffelklaaDoorFixPlain
import Derived.Test.YtnaokohffelklaaDoorSqrtPlain
namespace Go.Proofs.YtnaokohffelklaaDoor
set_option linter.unusedVariables false
open Sq

def ftA (T : List (Int × Int)) (i : Nat) : Int := (T.getD i (0, 0)).1
def vlA (T : List (Int × Int)) (i : Nat) : Int := (T.getD i (0, 0)).2
/-- k is the segment of an altitude -/
structure IsSeg (T : List (Int × Int)) (alt : Int) (k : Nat) : Prop where
  pos : 1 ≤ k
  lt : k < T.length
  below : ∀ i, 1 ≤ i → i < k → ftA T i * 100 < alt
  above : alt ≤ ftA T k * 100
theorem IsSeg.uniq {T : List (Int × Int)} {alt : Int} {k l : Nat} (h : IsSeg T alt k) (g : IsSeg T alt l) : k = l := by
  rcases Nat.lt_trichotomy k l with e | e | e
  · have := g.below k h.pos e; have := h.above; omega
  · exact e
  · have := h.below l g.pos e; have := g.above; omega
def segN (T : List (Int × Int)) (alt : Int) : Nat := (T.drop 1).findIdx (fun r => decide (alt ≤ r.1 * 100)) + 1
/-- the value on segment k -/
def valS (T : List (Int × Int)) (alt : Int) (k : Nat) : Int := vlA T (k - 1) + floorI ((vlA T k - vlA T (k - 1)) * (alt - ftA T (k - 1) * 100)) ((ftA T k - ftA T (k - 1)) * 100)
def valI (T : List (Int × Int)) (alt : Int) : Int := valS T alt (segN T alt)
theorem seg_is {T : List (Int × Int)} {alt : Int} (h2 : 2 ≤ T.length) (ha : alt ≤ ftA T (T.length - 1) * 100) : IsSeg T alt (segN T alt) := by
  have hex : ∃ x ∈ T.drop 1, decide (alt ≤ x.1 * 100) = true := by
    refine ⟨T[T.length - 1]'(by omega), ?_, ?_⟩
    · rw [List.mem_drop_iff_getElem]
      exact ⟨T.length - 2, by omega, by congr 1; omega⟩
    · unfold ftA at ha
      rw [List.getD_eq_getElem?_getD, List.getElem?_eq_getElem (by omega)] at ha
      simpa using ha
  have hlt := List.findIdx_lt_length_of_exists hex
  rw [List.length_drop] at hlt
  refine ⟨by unfold segN; omega, by unfold segN; omega, ?_, ?_⟩
  · intro i h1 hi
    unfold segN at hi
    have := List.not_of_lt_findIdx (p := fun r : Int × Int => decide (alt ≤ r.1 * 100)) (xs := T.drop 1) (i := i - 1) (by omega)
    rw [List.getElem_drop] at this
    unfold ftA
    rw [List.getD_eq_getElem?_getD, List.getElem?_eq_getElem (by omega)]
    simp only [show 1 + (i - 1) = i by omega] at this
    simp at this ⊢
    omega
  · have := List.findIdx_getElem (p := fun r : Int × Int => decide (alt ≤ r.1 * 100)) (xs := T.drop 1) (w := by rw [List.length_drop]; exact hlt)
    rw [List.getElem_drop] at this
    unfold ftA segN
    rw [List.getD_eq_getElem?_getD, List.getElem?_eq_getElem (by omega)]
    simp only [Nat.add_comm 1] at this
    simpa using this
/-- the altitudes rise -/
def FtUp (T : List (Int × Int)) : Prop := ∀ i, i + 1 < T.length → ftA T i < ftA T (i + 1)
def VlUp (T : List (Int × Int)) : Prop := ∀ i, i + 1 < T.length → vlA T i ≤ vlA T (i + 1)
def VlDn (T : List (Int × Int)) : Prop := ∀ i, i + 1 < T.length → vlA T (i + 1) ≤ vlA T i
theorem up_le {T : List (Int × Int)} (h : VlUp T) : ∀ (d i : Nat), i + d < T.length → vlA T i ≤ vlA T (i + d)
  | 0, i, _ => Int.le_refl _
  | d + 1, i, hi => Int.le_trans (up_le h d i (by omega)) (h (i + d) (by omega))
theorem dn_le {T : List (Int × Int)} (h : VlDn T) : ∀ (d i : Nat), i + d < T.length → vlA T (i + d) ≤ vlA T i
  | 0, i, _ => Int.le_refl _
  | d + 1, i, hi => Int.le_trans (h (i + d) (by omega)) (dn_le h d i (by omega))
theorem seg_low {T : List (Int × Int)} {alt : Int} {k : Nat} (h : IsSeg T alt k) (h0 : ftA T 0 * 100 ≤ alt) : ftA T (k - 1) * 100 ≤ alt := by
  by_cases e : k = 1
  · rw [e]; exact h0
  · exact Int.le_of_lt (h.below (k - 1) (by have := h.pos; omega) (by have := h.pos; omega))
/-- on a segment that rises, the value lies between the ends' -/
theorem seg_up {T : List (Int × Int)} {alt : Int} {k : Nat} (hf : FtUp T) (hv : VlUp T) (h : IsSeg T alt k) (h0 : ftA T 0 * 100 ≤ alt) : vlA T (k - 1) ≤ valS T alt k ∧ valS T alt k ≤ vlA T k := by
  have hl := seg_low h h0
  have ha := h.above
  have hp := h.pos
  have f := hf (k - 1) (by have := h.lt; omega)
  have v := hv (k - 1) (by have := h.lt; omega)
  rw [show k - 1 + 1 = k by omega] at f v
  unfold valS floorI
  have hd : 0 < (ftA T k - ftA T (k - 1)) * 100 := by omega
  have a := Int.ediv_nonneg (Int.mul_nonneg (show 0 ≤ vlA T k - vlA T (k - 1) by omega) (show 0 ≤ alt - ftA T (k - 1) * 100 by omega)) (Int.le_of_lt hd)
  have b := Int.ediv_le_ediv hd (Int.mul_le_mul_of_nonneg_left (show alt - ftA T (k - 1) * 100 ≤ (ftA T k - ftA T (k - 1)) * 100 by omega) (show 0 ≤ vlA T k - vlA T (k - 1) by omega))
  rw [Int.mul_ediv_cancel _ (by omega)] at b
  omega
theorem seg_dn {T : List (Int × Int)} {alt : Int} {k : Nat} (hf : FtUp T) (hv : VlDn T) (h : IsSeg T alt k) (h0 : ftA T 0 * 100 ≤ alt) : vlA T k ≤ valS T alt k ∧ valS T alt k ≤ vlA T (k - 1) := by
  have hl := seg_low h h0
  have ha := h.above
  have hp := h.pos
  have f := hf (k - 1) (by have := h.lt; omega)
  have v := hv (k - 1) (by have := h.lt; omega)
  rw [show k - 1 + 1 = k by omega] at f v
  unfold valS floorI
  have hd : 0 < (ftA T k - ftA T (k - 1)) * 100 := by omega
  have e1 : (vlA T k - vlA T (k - 1)) * (alt - ftA T (k - 1) * 100) ≤ 0 := by
    have := Int.mul_nonneg (show 0 ≤ -(vlA T k - vlA T (k - 1)) by omega) (show 0 ≤ alt - ftA T (k - 1) * 100 by omega)
    rw [Int.neg_mul] at this
    omega
  have a := Int.ediv_le_ediv hd e1
  rw [Int.zero_ediv] at a
  have e2 : (vlA T k - vlA T (k - 1)) * ((ftA T k - ftA T (k - 1)) * 100) ≤ (vlA T k - vlA T (k - 1)) * (alt - ftA T (k - 1) * 100) := by
    have := Int.mul_le_mul_of_nonneg_left (show alt - ftA T (k - 1) * 100 ≤ (ftA T k - ftA T (k - 1)) * 100 by omega) (show 0 ≤ -(vlA T k - vlA T (k - 1)) by omega)
    rw [Int.neg_mul, Int.neg_mul] at this
    omega
  have b := Int.ediv_le_ediv hd e2
  rw [Int.mul_ediv_cancel _ (by omega)] at b
  omega
theorem seg_mono {T : List (Int × Int)} {a b : Int} {k l : Nat} (h : IsSeg T a k) (g : IsSeg T b l) (hab : a ≤ b) : k ≤ l := by
  refine Nat.le_of_not_lt fun e => ?_
  have := h.below l g.pos e
  have := g.above
  omega
theorem val_up {T : List (Int × Int)} {a b : Int} (h2 : 2 ≤ T.length) (hf : FtUp T) (hv : VlUp T) (h0 : ftA T 0 * 100 ≤ a) (hab : a ≤ b) (hb : b ≤ ftA T (T.length - 1) * 100) : valI T a ≤ valI T b := by
  have h := seg_is (T := T) (alt := a) h2 (by omega)
  have g := seg_is (T := T) (alt := b) h2 hb
  have m := seg_mono h g hab
  unfold valI
  generalize segN T a = k at *
  generalize segN T b = l at *
  by_cases e : k = l
  · subst e
    have f := hf (k - 1) (by have := h.lt; have := h.pos; omega)
    have v := hv (k - 1) (by have := h.lt; have := h.pos; omega)
    rw [show k - 1 + 1 = k by have := h.pos; omega] at f v
    unfold valS floorI
    have := Int.ediv_le_ediv (show 0 < (ftA T k - ftA T (k - 1)) * 100 by omega) (Int.mul_le_mul_of_nonneg_left (show a - ftA T (k - 1) * 100 ≤ b - ftA T (k - 1) * 100 by omega) (show 0 ≤ vlA T k - vlA T (k - 1) by omega))
    omega
  · have u := (seg_up hf hv h h0).2
    have w := (seg_up hf hv g (by omega)).1
    have := up_le hv (l - 1 - k) k (by have := g.lt; omega)
    rw [show k + (l - 1 - k) = l - 1 by omega] at this
    omega
theorem val_dn {T : List (Int × Int)} {a b : Int} (h2 : 2 ≤ T.length) (hf : FtUp T) (hv : VlDn T) (h0 : ftA T 0 * 100 ≤ a) (hab : a ≤ b) (hb : b ≤ ftA T (T.length - 1) * 100) : valI T b ≤ valI T a := by
  have h := seg_is (T := T) (alt := a) h2 (by omega)
  have g := seg_is (T := T) (alt := b) h2 hb
  have m := seg_mono h g hab
  unfold valI
  generalize segN T a = k at *
  generalize segN T b = l at *
  by_cases e : k = l
  · subst e
    have f := hf (k - 1) (by have := h.lt; have := h.pos; omega)
    have v := hv (k - 1) (by have := h.lt; have := h.pos; omega)
    rw [show k - 1 + 1 = k by have := h.pos; omega] at f v
    unfold valS floorI
    have hm : (vlA T k - vlA T (k - 1)) * (b - ftA T (k - 1) * 100) ≤ (vlA T k - vlA T (k - 1)) * (a - ftA T (k - 1) * 100) := by
      have := Int.mul_le_mul_of_nonneg_left (show a - ftA T (k - 1) * 100 ≤ b - ftA T (k - 1) * 100 by omega) (show 0 ≤ -(vlA T k - vlA T (k - 1)) by omega)
      rw [Int.neg_mul, Int.neg_mul] at this
      omega
    have := Int.ediv_le_ediv (show 0 < (ftA T k - ftA T (k - 1)) * 100 by omega) hm
    omega
  · have u := (seg_dn hf hv h h0).1
    have w := (seg_dn hf hv g (by omega)).2
    have := dn_le hv (l - 1 - k) k (by have := g.lt; omega)
    rw [show k + (l - 1 - k) = l - 1 by omega] at this
    omega
def ratT : List (Int × Int) := [(-2000, 971400), (0, 1000000), (5000, 1077300), (10000, 1163700), (15000, 1260600), (20000, 1370000), (25000, 1493800), (30000, 1634900), (35000, 1796400), (40000, 2015500), (45000, 2272700), (50000, 2562800), (55000, 2890100), (60000, 3259100)]
def tmpT : List (Int × Int) := [(-2000, 29211), (0, 28815), (36089, 21665), (60000, 21665)]
def upB (T : List (Int × Int)) (f : List (Int × Int) → Nat → Int) : Bool := (List.range (T.length - 1)).all fun i => decide (f T i ≤ f T (i + 1))
theorem rat_ft : FtUp ratT := by
  intro i hi
  have : ∀ j : Fin 13, ftA ratT j.val < ftA ratT (j.val + 1) := by decide
  exact this ⟨i, by simp [ratT] at hi; omega⟩
theorem rat_up : VlUp ratT := by
  intro i hi
  have : ∀ j : Fin 13, vlA ratT j.val ≤ vlA ratT (j.val + 1) := by decide
  exact this ⟨i, by simp [ratT] at hi; omega⟩
theorem tmp_ft : FtUp tmpT := by
  intro i hi
  have : ∀ j : Fin 3, ftA tmpT j.val < ftA tmpT (j.val + 1) := by decide
  exact this ⟨i, by simp [tmpT] at hi; omega⟩
theorem tmp_dn : VlDn tmpT := by
  intro i hi
  have : ∀ j : Fin 3, vlA tmpT (j.val + 1) ≤ vlA tmpT j.val := by decide
  exact this ⟨i, by simp [tmpT] at hi; omega⟩
theorem rat_mono {a b : Int} (h0 : -200000 ≤ a) (hab : a ≤ b) (h1 : b ≤ 6000000) : valI ratT a ≤ valI ratT b :=
  val_up (by decide) rat_ft rat_up (by simpa [ftA, ratT] using h0) hab (by simpa [ftA, ratT] using h1)
theorem tmp_anti {a b : Int} (h0 : -200000 ≤ a) (hab : a ≤ b) (h1 : b ≤ 6000000) : valI tmpT b ≤ valI tmpT a :=
  val_dn (by decide) tmp_ft tmp_dn (by simpa [ftA, tmpT] using h0) hab (by simpa [ftA, tmpT] using h1)
theorem rat_bd {a : Int} (h0 : -200000 ≤ a) (h1 : a ≤ 6000000) : 971400 ≤ valI ratT a ∧ valI ratT a ≤ 3259100 := by
  have x := rat_mono (Int.le_refl (-200000)) h0 h1
  have y := rat_mono h0 h1 (Int.le_refl 6000000)
  have e1 : valI ratT (-200000) = 971400 := by decide
  have e2 : valI ratT 6000000 = 3259100 := by decide
  omega
theorem tmp_bd {a : Int} (h0 : -200000 ≤ a) (h1 : a ≤ 6000000) : 21665 ≤ valI tmpT a ∧ valI tmpT a ≤ 29211 := by
  have x := tmp_anti (Int.le_refl (-200000)) h0 h1
  have y := tmp_anti h0 h1 (Int.le_refl 6000000)
  have e1 : valI tmpT (-200000) = 29211 := by decide
  have e2 : valI tmpT 6000000 = 21665 := by decide
  omega
end Go.Proofs.YtnaokohffelklaaDoor
