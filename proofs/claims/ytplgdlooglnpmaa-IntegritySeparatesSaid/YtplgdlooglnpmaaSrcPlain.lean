/-
  The sources of measurements, ascending, each once: plain laws.
-/
import Derived.Test.YtplgdlooglnpmaaGeoPlain
import Derived.Lib.SlicesCompact
import Derived.Lib.RowBridge
namespace Go.Proofs.Ytplgdlooglnpmaa
set_option linter.unusedVariables false

def srtL (l : List Ms) : List Int := (l.map Ms.s).mergeSort fun x y => decide (x ≤ y)
def srcL (l : List Ms) : List Int := Lib.compact (srtL l)
theorem toArr (zs : List Int) {i : Nat} (h : i < zs.length) : zs.toArray[i]! = zs[i] := by
  rw [getElem!_pos zs.toArray i (by simpa using h)]
  rfl
theorem mem_compact {zs : List Int} {x : Int} : x ∈ Lib.compact zs ↔ x ∈ zs := by
  unfold Lib.compact Lib.compactUpTo
  rw [List.mem_map]
  constructor
  · rintro ⟨j, hj, rfl⟩
    have h := List.mem_range.1 (List.mem_filter.1 hj).1
    rw [toArr zs h]
    exact List.getElem_mem h
  · intro hx
    obtain ⟨i, hi, rfl⟩ := List.getElem_of_mem hx
    have key : ∀ n : Nat, n < zs.length → ∃ j, j < zs.length ∧ Lib.keeps zs.toArray j = true ∧ zs.toArray[j]! = zs.toArray[n]! := by
      intro n
      induction n with
      | zero => exact fun h => ⟨0, h, Lib.keeps_lt_one _ 0 (by omega), rfl⟩
      | succ n ih =>
        intro h
        by_cases e : zs.toArray[n + 1]! = zs.toArray[n]!
        · obtain ⟨j, h1, h2, h3⟩ := ih (by omega)
          exact ⟨j, h1, h2, h3.trans e.symm⟩
        · exact ⟨n + 1, h, Lib.keeps_pos (by simpa using e), rfl⟩
    obtain ⟨j, h1, h2, h3⟩ := key i hi
    exact ⟨j, List.mem_filter.2 ⟨List.mem_range.2 h1, h2⟩, by rw [h3, toArr zs hi]⟩
theorem compact_lt {zs : List Int} (h : zs.Pairwise (· ≤ ·)) : (Lib.compact zs).Pairwise (· < ·) := by
  unfold Lib.compact Lib.compactUpTo
  rw [List.pairwise_map, List.pairwise_filter]
  refine List.pairwise_lt_range.imp_of_mem ?_
  intro i j hi hj hij ki kj
  have hi' := List.mem_range.1 hi
  have hj' := List.mem_range.1 hj
  have hk : zs.toArray[j]! ≠ zs.toArray[j - 1]! := by
    unfold Lib.keeps at kj
    rcases of_decide_eq_true kj with h | h
    · omega
    · exact h
  rw [toArr zs hj', toArr zs (show j - 1 < zs.length by omega)] at hk
  rw [toArr zs hi', toArr zs hj']
  rw [List.pairwise_iff_getElem] at h
  have h1 : zs[j - 1] ≤ zs[j] := h (j - 1) j (by omega) hj' (by omega)
  have h2 : zs[i] ≤ zs[j - 1] := by
    by_cases e : i = j - 1
    · subst e; exact Int.le_refl _
    · exact h i (j - 1) hi' (by omega) (by omega)
  omega
theorem srt_le (l : List Ms) : (srtL l).Pairwise (· ≤ ·) := by
  have := List.pairwise_mergeSort (le := fun x y : Int => decide (x ≤ y)) (fun a b c h1 h2 => by simp at *; omega) (fun a b => by simp; omega) (l.map Ms.s)
  exact this.imp fun h => by simpa using h
theorem srt_len (l : List Ms) : (srtL l).length = l.length := by
  unfold srtL
  rw [List.length_mergeSort, List.length_map]
theorem src_len (l : List Ms) : (srcL l).length ≤ l.length := by
  have := Lib.compact_length_le (srtL l)
  rw [srt_len] at this
  exact this
theorem mem_srcL {l : List Ms} {x : Int} : x ∈ srcL l ↔ ∃ m ∈ l, m.s = x := by
  unfold srcL
  rw [mem_compact]
  unfold srtL
  rw [List.mem_mergeSort, List.mem_map]
theorem srcL_lt (l : List Ms) : (srcL l).Pairwise (· < ·) := compact_lt (srt_le l)
/-- a strictly ascending list is known by its members -/
theorem asc_uniq : ∀ (a b : List Int), a.Pairwise (· < ·) → b.Pairwise (· < ·) → (∀ x, x ∈ a ↔ x ∈ b) → a = b
  | [], [], _, _, _ => rfl
  | [], y :: b, _, _, h => absurd ((h y).2 List.mem_cons_self) (by simp)
  | x :: a, [], _, _, h => absurd ((h x).1 List.mem_cons_self) (by simp)
  | x :: a, y :: b, ha, hb, h => by
    rw [List.pairwise_cons] at ha hb
    have e : x = y := by
      have h1 := (h x).1 List.mem_cons_self
      have h2 := (h y).2 List.mem_cons_self
      rw [List.mem_cons] at h1 h2
      rcases h1 with h1 | h1
      · exact h1
      · rcases h2 with h2 | h2
        · exact h2.symm
        · have := hb.1 x h1
          have := ha.1 y h2
          omega
    subst e
    congr 1
    refine asc_uniq a b ha.2 hb.2 fun z => ⟨fun hz => ?_, fun hz => ?_⟩
    · have := (h z).1 (List.mem_cons_of_mem _ hz)
      rw [List.mem_cons] at this
      rcases this with rfl | g
      · exact absurd (ha.1 z hz) (by omega)
      · exact g
    · have := (h z).2 (List.mem_cons_of_mem _ hz)
      rw [List.mem_cons] at this
      rcases this with rfl | g
      · exact absurd (hb.1 z hz) (by omega)
      · exact g
end Go.Proofs.Ytplgdlooglnpmaa
