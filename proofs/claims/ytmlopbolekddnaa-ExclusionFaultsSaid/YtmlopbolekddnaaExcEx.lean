/-
  The chapter's examples of layer 44: what the functions answer there.
-/
import Derived.Test.YtmlopbolekddnaaExcDet
namespace Go.Proofs.Ytmlopbolekddnaa
set_option linter.unusedVariables false
open Go.RowKit

def posL (s x y b : Int) : List Ms := [⟨s, 256, 0, 256 * x, 256 * b, 1⟩, ⟨s, 0, 256, 256 * y, 256 * b, 1⟩]
def threeL (b : Int) : List Ms := posL 1 0 0 b ++ posL 2 100 0 b ++ posL 3 20 60 b
theorem src_three (b : Int) : srcL (threeL b) = [1, 2, 3] := by
  refine asc_uniq _ _ (srcL_lt _) (by decide) fun x => ?_
  rw [mem_srcL]
  unfold threeL posL
  simp only [List.cons_append, List.nil_append, List.mem_cons, List.not_mem_nil, or_false]
  constructor
  · rintro ⟨m, rfl | rfl | rfl | rfl | rfl | rfl, rfl⟩ <;> simp
  · rintro (rfl | rfl | rfl)
    · exact ⟨_, .inl rfl, rfl⟩
    · exact ⟨_, .inr (.inr (.inl rfl)), rfl⟩
    · exact ⟨_, .inr (.inr (.inr (.inr (.inl rfl)))), rfl⟩
theorem ex_con : conF (threeL 10) = (false, 0) := by decide +kernel
theorem ex_flt1 : fltF (threeL 10) = (0, 11) := by
  unfold fltF
  rw [src_three]
  decide +kernel
theorem ex_flt3 : fltF (threeL 30) = (2, 0) := by
  unfold fltF
  rw [src_three]
  decide +kernel
theorem ex_det : detF ((threeL 10).take 4) 1 = (7680, 0) := by decide +kernel
theorem ex_rng : rngF (((threeL 10).take 4).drop 2) 1 (-2) = ((70, 130), 0) := by decide +kernel
end Go.Proofs.Ytmlopbolekddnaa
