/-
  slices.Equal of two slices of the call's own that hold the same integers.
-/
import Derived.Test.YtplgdlooglnpmaaSrc43
namespace Go.Proofs.Ytplgdlooglnpmaa
set_option linter.unusedVariables false
open Go.RowKit

theorem eqi_same (l : List Int) (B B' : Nat) (v v' : Value) (w : World) (h1 : OI B w v l) (h2 : OI B' w v' l) :
    Calls Try.prog 18 #[v, v'] w fun e w' => e = .returned (.bool true) ∧ Below w.heap.size w w' := by
  rcases oi_cases h1 with ⟨rfl, e⟩ | ⟨g, cap, rfl, q1, q2, _, q4⟩
  · subst e
    rcases oi_cases h2 with ⟨rfl, _⟩ | ⟨g', cap', rfl, r1, r2, _, r4⟩
    · exact (Try.slices_Equal_int_empty none none 0 0 0 w (by omega)).mono fun e w' ⟨a, b⟩ => ⟨a, by rw [b]; exact Below.refl _ _⟩
    · exact (Try.slices_Equal_int_empty none _ 0 0 cap' w (by omega)).mono fun e w' ⟨a, b⟩ => ⟨a, by rw [b]; exact Below.refl _ _⟩
  · rcases oi_cases h2 with ⟨rfl, e⟩ | ⟨g', cap', rfl, r1, r2, _, r4⟩
    · subst e
      exact (Try.slices_Equal_int_empty _ none cap 0 0 w (by omega)).mono fun e w' ⟨a, b⟩ => ⟨a, by rw [b]; exact Below.refl _ _⟩
    · refine (Try.slices_Equal_int g 0 l.length cap g' 0 l.length cap' l l w (Nat.le_refl _) (Nat.le_refl _) (by omega) (by omega) (fun j hj => by rw [Nat.zero_add]; exact q4.c j hj) (fun j hj => by rw [Nat.zero_add]; exact r4.c j hj)).mono ?_
      rintro e w' ⟨rfl, n, rfl⟩
      exact ⟨by simp, below_drewN (Below.refl _ _) n⟩
end Go.Proofs.Ytplgdlooglnpmaa
