/-
  The plain laws of layer 43: the levels protect, grow with the bounds, and shift with the aircraft. No program in sight.
-/
import Derived.Test.YtplgdlooglnpmaaLevPlain
namespace Go.Proofs.Ytplgdlooglnpmaa
set_option linter.unusedVariables false

theorem bad_acc (l : List Ms) : (accF l).2 = 0 ∨ (accF l).1 = box0 := by
  unfold accF
  split
  · split
    · exact .inl rfl
    · exact .inr rfl
  · exact .inr rfl
theorem bad_lev (l : List Ms) : (levF l).2 = 0 ∨ (levF l).1 = box0 := by
  unfold levF
  split
  · split
    · exact .inr rfl
    · split
      · exact .inr rfl
      · exact .inl rfl
  · exact .inr rfl
structure LevOk (l : List Ms) : Prop where
  sol : solE l = 0
  rank : ∀ k ∈ srcL l, detN (woL l k) ≠ 0
  fit : ∀ k ∈ srcL l, (reachF (cenX l) (cenY l) (woL l k)).2 = 0
theorem lev_ok {l : List Ms} (h : (levF l).2 = 0) : LevOk l := by
  unfold levF at h
  split at h
  · rename_i h0
    split at h
    · cases h
    · rename_i h1
      split at h
      · cases h
      · rename_i h2
        refine ⟨h0, fun k hk q => h1 (List.any_eq_true.2 ⟨k, hk, decide_eq_true q⟩), fun k hk => ?_⟩
        by_cases q : (reachF (cenX l) (cenY l) (woL l k)).2 = 0
        · exact q
        · exact absurd (List.any_eq_true.2 ⟨k, hk, decide_eq_true q⟩) h2
  · rename_i h0
    exact absurd h h0
theorem lev_val {l : List Ms} (h : LevOk l) : levF l = (⟨cenX l, cenY l, maxF (fun k => (reachF (cenX l) (cenY l) (woL l k)).1.1) (srcL l), maxF (fun k => (reachF (cenX l) (cenY l) (woL l k)).1.2) (srcL l)⟩, 0) := by
  unfold levF
  rw [if_pos h.sol, if_neg, if_neg]
  · intro q
    obtain ⟨k, hk, e⟩ := List.any_eq_true.1 q
    exact of_decide_eq_true e (h.fit k hk)
  · intro q
    obtain ⟨k, hk, e⟩ := List.any_eq_true.1 q
    exact h.rank k hk (of_decide_eq_true e)
theorem sol_chk {l : List Ms} (h : solE l = 0) : chkL l = 0 ∧ detN l ≠ 0 ∧ pOk (cenX l) = true ∧ pOk (cenY l) = true := by
  unfold solE at h
  by_cases hc : chkL l = 0
  · rw [if_pos hc] at h
    by_cases hd : detN l = 0
    · rw [if_pos hd] at h; cases h
    · rw [if_neg hd] at h
      by_cases hp : (pOk (cenX l) && pOk (cenY l)) = true
      · rw [Bool.and_eq_true] at hp
        exact ⟨hc, hd, hp.1, hp.2⟩
      · rw [if_neg hp] at h; cases h
  · rw [if_neg hc] at h
    exact absurd h hc
theorem chk_w {l : List Ms} (h : chkL l = 0) : ∀ m ∈ l, 0 ≤ m.w := fun m hm => by
  have := ((chkL_ok h).2 m hm).w0
  omega
/-- a point that meets a measurement -/
def HoldP (m : Ms) (px py : Int) : Prop := -m.d ≤ m.a * px + m.b * py - m.z ∧ m.a * px + m.b * py - m.z ≤ m.d
structure InBox (b : BoxI) (px py : Int) : Prop where
  x0 : px - b.cx ≤ b.x
  x1 : b.cx - px ≤ b.x
  y0 : py - b.cy ≤ b.y
  y1 : b.cy - py ≤ b.y
/-- with at most one faulty source the true point lies in the box of the levels -/
theorem protects {l : List Ms} {px py faulty : Int} (h : LevOk l) (ht : ∀ m ∈ l, m.s ≠ faulty → HoldP m px py) : InBox (levF l).1 px py := by
  obtain ⟨hc, hd, _, _⟩ := sol_chk h.sol
  have hne : ∃ k ∈ srcL l, ∀ m ∈ woL l k, HoldP m px py := by
    by_cases hf : faulty ∈ srcL l
    · exact ⟨faulty, hf, fun m hm => ht m (List.mem_filter.1 hm).1 (by simpa [notS] using (List.mem_filter.1 hm).2)⟩
    · cases l with
      | nil => exact absurd rfl hd
      | cons m r =>
        refine ⟨m.s, mem_srcL.2 ⟨m, List.mem_cons_self, rfl⟩, fun x hx => ht x (List.mem_filter.1 hx).1 (fun e => hf (mem_srcL.2 ⟨x, (List.mem_filter.1 hx).1, e⟩))⟩
  obtain ⟨k, hk, hh⟩ := hne
  have hw : ∀ m ∈ woL l k, 0 ≤ m.w := fun m hm => chk_w hc m (List.mem_filter.1 hm).1
  have hdk : 0 < detN (woL l k) := by
    have := det_nonneg _ hw
    have := h.rank k hk
    omega
  obtain ⟨r1, r2, r3, r4⟩ := reach_in (cx := cenX l) (cy := cenY l) hdk hw hh (h.fit k hk)
  have m1 := max_ge (fun k => (reachF (cenX l) (cenY l) (woL l k)).1.1) hk
  have m2 := max_ge (fun k => (reachF (cenX l) (cenY l) (woL l k)).1.2) hk
  rw [lev_val h]
  exact ⟨by simp only; omega, by simp only; omega, by simp only; omega, by simp only; omega⟩
theorem accurate {l : List Ms} {px py : Int} (h : (accF l).2 = 0) (ht : ∀ m ∈ l, HoldP m px py) : InBox (accF l).1 px py := by
  unfold accF at h ⊢
  by_cases h0 : solE l = 0
  · rw [if_pos h0] at h ⊢
    by_cases hr : (reachF (cenX l) (cenY l) l).2 = 0
    · rw [if_pos hr]
      obtain ⟨hc, hd, _, _⟩ := sol_chk h0
      have hdk : 0 < detN l := by
        have := det_nonneg _ (chk_w hc)
        omega
      obtain ⟨r1, r2, r3, r4⟩ := reach_in (cx := cenX l) (cy := cenY l) hdk (chk_w hc) ht hr
      exact ⟨r1, r2, r3, r4⟩
    · rw [if_neg hr] at h
      cases h
  · rw [if_neg h0] at h
    exact absurd h h0
end Go.Proofs.Ytplgdlooglnpmaa
