/-
  What the laws of layer 44 say of a point that meets measurements: plain laws.
-/
import Derived.Test.YtmlopbolekddnaaLawHolds
namespace Go.Proofs.Ytmlopbolekddnaa
set_option linter.unusedVariables false
open Go.RowKit

theorem bad_con (l : List Ms) : (conF l).2 = 0 ∨ (conF l).1 = false := by
  unfold conF
  split
  · split
    · exact .inl rfl
    · exact .inr rfl
  · exact .inr rfl
theorem bad_verd (c : Nat) (r : List Int) : (verd c r).2 = 0 ∨ (verd c r).1 = 0 := by
  unfold verd
  split
  · exact .inl rfl
  · split
    · exact .inr rfl
    · split
      · exact .inr rfl
      · exact .inl rfl
theorem bad_flt (l : List Ms) : (fltF l).2 = 0 ∨ (fltF l).1 = 0 := by
  unfold fltF
  split
  · split
    · split
      · exact bad_verd _ _
      · exact .inr rfl
    · exact .inr rfl
  · exact .inr rfl
theorem absI_le {x d : Int} (h : absI x ≤ d) : x ≤ d ∧ -x ≤ d := by
  unfold absI at h
  split at h <;> omega
theorem hld_in {m : Ms} {x y : Int} (h : hldB m x y = true) : In1 m x y 1 := by
  unfold hldB at h
  simp only [Bool.and_eq_true, decide_eq_true_eq] at h
  obtain ⟨_, _, h⟩ := h
  obtain ⟨h1, h2⟩ := absI_le h
  unfold missI at h1 h2
  constructor <;> (unfold gI; omega)
theorem all_in {l : List Ms} {x y but : Int} (h : allB l x y but = true) : In (woL l but) x y 1 := fun m hm => by
  obtain ⟨h1, h2⟩ := List.mem_filter.1 hm
  have := List.all_eq_true.1 h m h1
  unfold notS at h2
  have hne := of_decide_eq_true h2
  rw [decide_eq_false hne, Bool.false_or] at this
  exact hld_in this
theorem wo_zero {l : List Ms} (h : ∀ m ∈ l, OkM m) : woL l 0 = l := by
  unfold woL
  rw [List.filter_eq_self]
  intro m hm
  have := (h m hm).s0
  unfold notS
  exact decide_eq_true (by omega)
theorem all_in0 {l : List Ms} {x y : Int} (hc : chkL l = 0) (h : allB l x y 0 = true) : In l x y 1 := by
  have := all_in h
  rwa [wo_zero (chkL_ok hc).2] at this
theorem cor_pos {l : List Ms} {x y : Int} (h : In l x y 1) (hf : fullB l = true) : 0 < (corL l).length := by
  obtain ⟨p, hp⟩ := corner_ex (by omega) h (fullB_iff.1 hf)
  exact List.length_pos_of_mem (mem_corL.2 hp)
theorem good_con {l : List Ms} {x y : Int} (hc : chkL l = 0) (h : allB l x y 0 = true) : conF l = (true, 0) ∨ conF l = (false, 14) := by
  unfold conF
  rw [if_pos hc]
  by_cases hf : fullB l = true
  · rw [if_pos hf, decide_eq_true (cor_pos (all_in0 hc h) hf)]
    exact .inl rfl
  · rw [if_neg hf]
    exact .inr rfl
theorem good_flt {l : List Ms} {x y : Int} (hc : chkL l = 0) (h : allB l x y 0 = true) : fltF l = (0, 0) ∨ fltF l = (0, 14) := by
  unfold fltF
  rw [if_pos hc]
  by_cases hf : fullB l = true
  · rw [if_pos hf]
    split
    · unfold verd
      rw [if_pos (cor_pos (all_in0 hc h) hf)]
      exact .inl rfl
    · exact .inr rfl
  · rw [if_neg hf]
    exact .inr rfl
/-- with at most one faulty source none but that one is excluded -/
theorem only_flt {l : List Ms} {x y but : Int} (hc : chkL l = 0) (h : allB l x y but = true) :
    (fltF l).2 ≠ 11 ∧ ((fltF l).1 = 0 ∨ (fltF l).1 = but) ∧ ((fltF l).2 = 0 ∨ (fltF l).2 = 14 ∨ (fltF l).2 = 8) := by
  unfold fltF
  rw [if_pos hc]
  by_cases hf : fullB l = true
  · rw [if_pos hf]
    by_cases ha : (srcL l).all (fuS l) = true
    · rw [if_pos ha]
      unfold verd
      by_cases h0 : 0 < (corL l).length
      · rw [if_pos h0]; exact ⟨by simp, .inl rfl, .inl rfl⟩
      · rw [if_neg h0]
        have hin := all_in h
        have hbut : but ∈ srcL l := by
          rw [mem_srcL]
          apply Classical.byContradiction
          intro hn
          have e : woL l but = l := by
            unfold woL
            rw [List.filter_eq_self]
            intro m hm
            unfold notS
            exact decide_eq_true fun e => hn ⟨m, hm, e⟩
          rw [e] at hin
          exact h0 (cor_pos hin hf)
        have hfb : fullB (woL l but) = true := List.all_eq_true.1 ha but hbut
        have hmem : but ∈ (srcL l).filter (okS l) := List.mem_filter.2 ⟨hbut, decide_eq_true (cor_pos hin hfb)⟩
        rw [if_neg (by have := List.length_pos_of_mem hmem; omega)]
        by_cases h1 : 1 < ((srcL l).filter (okS l)).length
        · rw [if_pos h1]; exact ⟨by simp, .inl rfl, .inr (.inr rfl)⟩
        · rw [if_neg h1]
          refine ⟨by simp, .inr ?_, .inl rfl⟩
          generalize (srcL l).filter (okS l) = r at *
          match r, hmem, h1 with
          | [z], hm, _ => exact (List.mem_singleton.1 hm).symm
          | z :: z' :: r, _, h1 => exact absurd (show 1 < (z :: z' :: r).length by simp) h1
    · rw [if_neg ha]; exact ⟨by simp, .inl rfl, .inr (.inl rfl)⟩
  · rw [if_neg hf]; exact ⟨by simp, .inl rfl, .inr (.inl rfl)⟩
end Go.Proofs.Ytmlopbolekddnaa
