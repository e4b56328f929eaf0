/-
  States in texts: what is accepted, and that texts are read back. No program in sight.
-/
import Derived.Test.YtajmjkliblippaaGreatDoorText46T
import Derived.Test.YtajmjkliblippaaGreatDoorTy1
namespace Go.Proofs.YtajmjkliblippaaGreatDoor
set_option linter.unusedVariables false
open Go.RowKit Tx Ty

def ns0 : Bx4 × Int × Int := (⟨0, 0, 0, 0⟩, 0, 0)
/-- a state, if it is valid -/
def chkd (b : Bx4) (t m : Int) : (Bx4 × Int × Int) × Int := if chkS b t m = 0 then ((b, t, m), 0) else (ns0, chkS b t m)
def pS (F : List (List UInt8)) : (Bx4 × Int × Int) × Int :=
  match F with
  | [f0, f1, f2, f3, f4, f5] => if ((numF f0).2 && (numF f1).2 && (numF f2).2 && (numF f3).2 && (numF f4).2 && (numF f5).2) = true then chkd ⟨(numF f0).1, (numF f1).1, (numF f2).1, (numF f3).1⟩ (numF f4).1 (numF f5).1 else (ns0, 4)
  | _ => (ns0, 4)
def parseS (l : List UInt8) : (Bx4 × Int × Int) × Int := pS (fieldsL l)
theorem pS_len {F : List (List UInt8)} (h : F.length ≠ 6) : pS F = (ns0, 4) := by
  unfold pS
  split
  · exact absurd rfl h
  · rfl
theorem chkd_ok {b b' : Bx4} {t m t' m' : Int} (h : chkd b t m = ((b', t', m'), 0)) : chkS b t m = 0 ∧ b = b' ∧ t = t' ∧ m = m' := by
  unfold chkd at h
  split at h
  · rename_i q
    simp only [Prod.mk.injEq] at h
    exact ⟨q, h.1.1, h.1.2.1, h.1.2.2⟩
  · rename_i q
    exact absurd (Prod.mk.inj h).2 q
def RetS (r : (Bx4 × Int × Int) × Int) (w : World) (e : Ending) (w' : World) : Prop := e = .returned (.tuple #[.agg #[.int .i64 r.1.1.cx, .int .i64 r.1.1.cy, .int .i64 r.1.1.x, .int .i64 r.1.1.y, .int .i64 r.1.2.1, .int .i64 r.1.2.2], .int .i64 r.2]) ∧ Below w.heap.size w w'
theorem txN_fields (a b c d e f : Int) : fieldsL (txN [a, b, c, d, e, f]) = [Lib.itoa a, Lib.itoa b, Lib.itoa c, Lib.itoa d, Lib.itoa e, Lib.itoa f] := by
  show fieldsL ((((((Lib.itoa a ++ [32] ++ Lib.itoa b) ++ [32] ++ Lib.itoa c) ++ [32] ++ Lib.itoa d) ++ [32] ++ Lib.itoa e) ++ [32] ++ Lib.itoa f)) = _
  simp only [List.append_assoc, List.cons_append, List.nil_append]
  rw [fields_cut (itoa_no32 a), fields_cut (itoa_no32 b), fields_cut (itoa_no32 c), fields_cut (itoa_no32 d), fields_cut (itoa_no32 e), fields_none (itoa_no32 f)]
theorem parse_textS {b : Bx4} {t m : Int} (h : chkS b t m = 0) : parseS (textS b t m) = ((b, t, m), 0) := by
  obtain ⟨hv, ⟨t0, t1⟩, m0, m1⟩ := chkS_ok h
  have v := bxV_iff.1 hv
  unfold parseS textS
  rw [if_pos h, txN_fields]
  unfold pS
  simp only
  rw [numF_itoa (by omega) (by omega), numF_itoa (by omega) (by omega), numF_itoa (by omega) (by omega), numF_itoa (by omega) (by omega), numF_itoa (by omega) (by omega), numF_itoa (by omega) (by omega)]
  unfold chkd
  rw [if_pos (by rfl), if_pos h]
theorem parse_nilS : parseS [] = (ns0, 4) := pS_len (F := fieldsL []) (by decide)
theorem text_parseS {l : List UInt8} {b : Bx4} {t m : Int} (h : parseS l = ((b, t, m), 0)) : textS b t m = l := by
  obtain ⟨u, hne⟩ := unfl_fields (l.count 32) l rfl
  clear hne
  unfold parseS at h
  generalize fieldsL l = F at *
  unfold pS at h
  split at h
  · rename_i f0 f1 f2 f3 f4 f5
    split at h
    · rename_i ok
      simp only [Bool.and_eq_true] at ok
      obtain ⟨⟨⟨⟨⟨k0, k1⟩, k2⟩, k3⟩, k4⟩, k5⟩ := ok
      obtain ⟨hc, rfl, rfl, rfl⟩ := chkd_ok h
      unfold textS
      rw [if_pos hc]
      show (((((Lib.itoa (numF f0).1 ++ [32] ++ Lib.itoa (numF f1).1) ++ [32] ++ Lib.itoa (numF f2).1) ++ [32] ++ Lib.itoa (numF f3).1) ++ [32] ++ Lib.itoa (numF f4).1) ++ [32] ++ Lib.itoa (numF f5).1) = l
      rw [numF_back k0, numF_back k1, numF_back k2, numF_back k3, numF_back k4, numF_back k5, ← u]
      simp [unfl]
    · simp at h
  · simp at h
end Go.Proofs.YtajmjkliblippaaGreatDoor
