/-
  The chapter's example of layer 43: its levels, its accuracy. No program in sight.
-/
import Derived.Test.YtplgdlooglnpmaaProtPlain
namespace Go.Proofs.Ytplgdlooglnpmaa
set_option linter.unusedVariables false

def posL (s x y : Int) : List Ms := [⟨s, 256, 0, 256 * x, 2560, 1⟩, ⟨s, 0, 256, 256 * y, 2560, 1⟩]
def thrL : List Ms := [⟨1, 256, 0, 0, 2560, 1⟩, ⟨1, 0, 256, 0, 2560, 1⟩, ⟨2, 256, 0, 25600, 2560, 1⟩, ⟨2, 0, 256, 0, 2560, 1⟩, ⟨3, 256, 0, 5120, 2560, 1⟩, ⟨3, 0, 256, 15360, 2560, 1⟩]
theorem thr_app : posL 1 0 0 ++ posL 2 100 0 ++ posL 3 20 60 = thrL := rfl
theorem src_thr : srcL thrL = [1, 2, 3] := by
  refine asc_uniq _ _ (srcL_lt _) (by decide) fun x => ?_
  rw [mem_srcL]
  unfold thrL
  simp only [List.mem_cons, List.not_mem_nil, or_false]
  constructor
  · rintro ⟨m, (rfl | rfl | rfl | rfl | rfl | rfl), rfl⟩ <;> simp
  · rintro (rfl | rfl | rfl)
    · exact ⟨_, .inl rfl, rfl⟩
    · exact ⟨_, .inr (.inr (.inl rfl)), rfl⟩
    · exact ⟨_, .inr (.inr (.inr (.inr (.inl rfl)))), rfl⟩
theorem src_two : srcL (thrL.take 2) = [1] := by
  refine asc_uniq _ _ (srcL_lt _) (by decide) fun x => ?_
  rw [mem_srcL]
  unfold thrL
  simp only [List.take_succ_cons, List.take_zero, List.mem_cons, List.not_mem_nil, or_false]
  constructor
  · rintro ⟨m, (rfl | rfl), rfl⟩ <;> simp
  · rintro rfl
    exact ⟨_, .inl rfl, rfl⟩
theorem lev_thr : levF thrL = (⟨40, 20, 40, 30⟩, 0) := by
  unfold levF
  rw [src_thr]
  rfl
theorem acc_thr : accF thrL = (⟨40, 20, 10, 10⟩, 0) := by rfl
theorem lev_two : (levF (thrL.take 2)).2 = 14 := by
  unfold levF
  rw [src_two]
  rfl
/-- how far the solution without a source is from the solution -/
def sepF (l : List Ms) (s : Int) : (Int × Int) × Int :=
  if solE l = 0 then (if (woL l s).length = l.length then ((0, 0), 6) else if detN (woL l s) = 0 then ((0, 0), 14) else
    pairF (apartI (cenX l) (solX (woL l s)) (detN (woL l s))) (apartI (cenY l) (solY (woL l s)) (detN (woL l s))) (detN (woL l s))) else ((0, 0), solE l)
theorem sep_thr : sepF thrL 2 = ((30, 10), 0) := by rfl
def noiF (l : List Ms) : (Int × Int) × Int := if solE l = 0 then pairF (noiX l) (noiY l) (detN l) else ((0, 0), solE l)
end Go.Proofs.Ytplgdlooglnpmaa
