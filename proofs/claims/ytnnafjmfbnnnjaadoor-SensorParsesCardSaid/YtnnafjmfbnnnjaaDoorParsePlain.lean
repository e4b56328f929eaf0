/-
  What Parse answers, plain. No program in sight.
-/
import Derived.Test.YtnnafjmfbnnnjaaDoorFldPlain
import Derived.Test.YtnnafjmfbnnnjaaDoorNumber
import Derived.Test.YtnnafjmfbnnnjaaDoorAged
namespace Go.Proofs.YtnnafjmfbnnnjaaDoor
set_option linter.unusedVariables false

def kindC (c : UInt8) : Int := if c = 80 then 1 else if c = 82 then 2 else if c = 66 then 3 else 0
def checkedF (r : Rp) : Rp × Int := if checkI r.s r.k r.x r.y r.v r.b r.w r.t = 0 then (r, 0) else (rp0, checkI r.s r.k r.x r.y r.v r.b r.w r.t)
def okNums (f0 f2 f3 f4 f5 f6 f7 : List UInt8) : Bool := (numF f0).2 && (numF f2).2 && (numF f3).2 && (numF f4).2 && (numF f5).2 && (numF f6).2 && (numF f7).2
def pK (c : UInt8) (f0 f2 f3 f4 f5 f6 f7 : List UInt8) : Rp × Int :=
  if kindC c = 0 then (rp0, 4) else if okNums f0 f2 f3 f4 f5 f6 f7 = true then checkedF ⟨(numF f0).1, kindC c, (numF f2).1, (numF f3).1, (numF f4).1, (numF f5).1, (numF f6).1, (numF f7).1⟩ else (rp0, 4)
def pF (F : List (List UInt8)) : Rp × Int :=
  match F with
  | [f0, [c], f2, f3, f4, f5, f6, f7] => pK c f0 f2 f3 f4 f5 f6 f7
  | _ => (rp0, 4)
/-- what Parse answers -/
def parse41 (s : List UInt8) : Rp × Int := pF (fieldsL s)
theorem pF_len {F : List (List UInt8)} (h : F.length ≠ 8) : pF F = (rp0, 4) := by
  unfold pF
  split
  · exact absurd rfl h
  · rfl
theorem pF_kind {f0 f1 f2 f3 f4 f5 f6 f7 : List UInt8} (h : f1.length ≠ 1) : pF [f0, f1, f2, f3, f4, f5, f6, f7] = (rp0, 4) := by
  unfold pF
  split
  · rename_i he
    simp only [List.cons.injEq] at he
    rw [he.2.1] at h
    exact absurd rfl h
  · rfl
theorem pF_pK {c : UInt8} {f0 f2 f3 f4 f5 f6 f7 : List UInt8} : pF [f0, [c], f2, f3, f4, f5, f6, f7] = pK c f0 f2 f3 f4 f5 f6 f7 := rfl
theorem kindC_bd (c : UInt8) : 0 ≤ kindC c ∧ kindC c ≤ 3 := by
  unfold kindC; split <;> (try split) <;> (try split) <;> omega
theorem idx_kind (c : UInt8) : Lib.indexByte [80, 82, 66] c = kindC c - 1 := by
  unfold kindC
  by_cases h : c = 80
  · subst h; rfl
  · by_cases h2 : c = 82
    · subst h2; rfl
    · by_cases h3 : c = 66
      · subst h3; rfl
      · rw [if_neg h, if_neg h2, if_neg h3]
        simp [Lib.indexByte, Ne.symm h, Ne.symm h2, Ne.symm h3]
theorem numD_bd (d : List UInt8) (neg : Bool) : -1000000000000000 ≤ (numD d neg).1 ∧ (numD d neg).1 ≤ 1000000000000000 := by
  unfold numD
  split
  · simp
  · split
    · simp
    · split
      · rename_i h1 h2 h3
        have := valT_bd h3 (by omega)
        simp only
        split <;> omega
      · simp
theorem numF_bd (f : List UInt8) : -1000000000000000 ≤ (numF f).1 ∧ (numF f).1 ≤ 1000000000000000 := numD_bd _ _
end Go.Proofs.YtnnafjmfbnnnjaaDoor
