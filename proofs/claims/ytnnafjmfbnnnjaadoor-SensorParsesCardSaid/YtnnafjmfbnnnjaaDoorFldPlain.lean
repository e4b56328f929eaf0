/-
  Fields between single blanks, read from the left. No program in sight.
-/
import Derived.Test.YtnnafjmfbnnnjaaDoorNumPlain
import Derived.Lib.SplitLaws
namespace Go.Proofs.YtnnafjmfbnnnjaaDoor
set_option linter.unusedVariables false

def fstep (st : List (List UInt8) × List UInt8) (c : UInt8) : List (List UInt8) × List UInt8 := if c = 32 then (st.1 ++ [st.2], []) else (st.1, st.2 ++ [c])
def fpart (l : List UInt8) : List (List UInt8) × List UInt8 := l.foldl fstep ([], [])
def fieldsL (l : List UInt8) : List (List UInt8) := (fpart l).1 ++ [(fpart l).2]
theorem fpart_snoc (l : List UInt8) (c : UInt8) : fpart (l ++ [c]) = fstep (fpart l) c := by
  unfold fpart; rw [List.foldl_append]; rfl
theorem ffold_pre (l : List UInt8) : ∀ (p : List (List UInt8)) (q : List UInt8), l.foldl fstep (p, q) = (p ++ (l.foldl fstep ([], q)).1, (l.foldl fstep ([], q)).2) := by
  induction l with
  | nil => intro p q; simp
  | cons c r ih =>
    intro p q
    simp only [List.foldl_cons]
    by_cases h : c = 32
    · have e1 : fstep (p, q) c = (p ++ [q], []) := by unfold fstep; rw [if_pos h]
      have e2 : fstep ([], q) c = ([q], []) := by unfold fstep; rw [if_pos h]; rfl
      rw [e1, e2, ih (p ++ [q]) [], ih [q] []]
      simp
    · have e1 : fstep (p, q) c = (p, q ++ [c]) := by unfold fstep; rw [if_neg h]
      have e2 : fstep ([], q) c = ([], q ++ [c]) := by unfold fstep; rw [if_neg h]
      rw [e1, e2, ih p (q ++ [c])]
theorem ffold_none (l : List UInt8) (h : 32 ∉ l) : ∀ q : List UInt8, l.foldl fstep ([], q) = ([], q ++ l) := by
  induction l with
  | nil => intro q; simp
  | cons c r ih =>
    intro q
    simp only [List.mem_cons, not_or] at h
    rw [List.foldl_cons]
    have e2 : fstep ([], q) c = ([], q ++ [c]) := by unfold fstep; rw [if_neg (fun e => h.1 e.symm)]
    rw [e2, ih h.2]
    simp
theorem fields_none {l : List UInt8} (h : 32 ∉ l) : fieldsL l = [l] := by
  unfold fieldsL fpart; rw [ffold_none l h]; rfl
theorem fields_cut {a b : List UInt8} (h : 32 ∉ a) : fieldsL (a ++ 32 :: b) = a :: fieldsL b := by
  unfold fieldsL fpart
  rw [List.foldl_append, ffold_none a h, List.foldl_cons]
  have e : fstep ([], [] ++ a) 32 = ([a], []) := by unfold fstep; rw [if_pos rfl]; rfl
  rw [e, ffold_pre b [a] []]
  simp
theorem fields_len (l : List UInt8) : (fieldsL l).length ≤ l.length + 1 := by
  have key : ∀ (l : List UInt8) (p : List (List UInt8)) (q : List UInt8), (l.foldl fstep (p, q)).1.length ≤ p.length + l.length := by
    intro l
    induction l with
    | nil => intro p q; simp
    | cons c r ih =>
      intro p q
      rw [List.foldl_cons]
      by_cases h : c = 32
      · have e1 : fstep (p, q) c = (p ++ [q], []) := by unfold fstep; rw [if_pos h]
        rw [e1]; have := ih (p ++ [q]) []; simp only [List.length_append, List.length_cons, List.length_nil] at this ⊢; omega
      · have e1 : fstep (p, q) c = (p, q ++ [c]) := by unfold fstep; rw [if_neg h]
        rw [e1]; have := ih p (q ++ [c]); simp only [List.length_cons] at this ⊢; omega
  have := key l [] []
  unfold fieldsL fpart
  simp only [List.length_append, List.length_cons, List.length_nil] at this ⊢
  omega
theorem idx_at (b : List UInt8) : ∀ a : List UInt8, 32 ∉ a → Lib.index (a ++ 32 :: b) [32] = (a.length : Int)
  | [], _ => by rw [List.nil_append, Lib.index]; simp [List.isPrefixOf]
  | c :: r, h => by
    simp only [List.mem_cons, not_or] at h
    have hp : ([32] : List UInt8).isPrefixOf (c :: (r ++ 32 :: b)) = false := by simp [List.isPrefixOf]; exact h.1
    have ih := idx_at b r h.2
    have hix : Lib.index (c :: (r ++ 32 :: b)) [32] = if Lib.index (r ++ 32 :: b) [32] == -1 then -1 else Lib.index (r ++ 32 :: b) [32] + 1 := by rw [Lib.index, hp]; simp
    rw [List.cons_append, hix, ih, if_neg (by simp)]
    simp
theorem split_fields : ∀ (k : Nat) (l : List UInt8), l.count 32 = k → Lib.splitK [32] 0 k l = fieldsL l
  | 0, l, h => by
    rw [fields_none (List.count_eq_zero.1 h)]; rfl
  | k + 1, l, h => by
    have hm : (32 : UInt8) ∈ l := List.count_pos_iff.1 (by omega)
    obtain ⟨a, b, rfl, ha⟩ := List.eq_append_cons_of_mem hm
    have hc : b.count 32 = k := by
      rw [List.count_append, List.count_eq_zero.2 ha, List.count_cons_self] at h; omega
    rw [fields_cut ha, Lib.splitK, idx_at b a ha, if_neg (by simp)]
    rw [show ((a.length : Int).toNat + 0) = a.length by omega, show ((a.length : Int).toNat + ([32] : List UInt8).length) = a.length + 1 by simp]
    rw [List.take_left, ← split_fields k b hc]
    congr 2
    rw [List.drop_append]
    simp
/-- the pieces of Split are the fields -/
theorem splitB_fields (s : ByteArray) : (Lib.splitB ⟨#[32]⟩ 0 (Lib.countB s ⟨#[32]⟩) s).map (·.data.toList) = fieldsL s.data.toList ∧ (Lib.splitB ⟨#[32]⟩ 0 (Lib.countB s ⟨#[32]⟩) s).length = Lib.countB s ⟨#[32]⟩ + 1 := by
  refine ⟨?_, Lib.splitB_all _ (by decide) 0 _ s rfl⟩
  rw [Lib.splitB_data]
  have e : Lib.countB s ⟨#[32]⟩ = s.data.toList.count 32 := Lib.count_one 32 s.data.toList
  rw [e]
  exact split_fields _ _ rfl
end Go.Proofs.YtnnafjmfbnnnjaaDoor
