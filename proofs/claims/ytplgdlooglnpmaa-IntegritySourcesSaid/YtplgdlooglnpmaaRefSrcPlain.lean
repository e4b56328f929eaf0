/-
  The sources of measurements by insertion: the same list. No program in sight.
-/
import Derived.Test.YtplgdlooglnpmaaSrcPlain
import Derived.Test.YtplgdlooglnpmaaMeasBase
namespace Go.Proofs.Ytplgdlooglnpmaa
set_option linter.unusedVariables false

def insI : List Int → Int → List Int
  | [], x => [x]
  | y :: r, x => if y < x then y :: insI r x else if y = x then y :: r else x :: y :: r
theorem mem_ins {x z : Int} : ∀ {out : List Int}, z ∈ insI out x ↔ z ∈ out ∨ z = x
  | [] => by unfold insI; simp
  | y :: r => by
    unfold insI
    split
    · rw [List.mem_cons, List.mem_cons, mem_ins (out := r)]
      constructor
      · rintro (h | h | h)
        · exact .inl (.inl h)
        · exact .inl (.inr h)
        · exact .inr h
      · rintro ((h | h) | h)
        · exact .inl h
        · exact .inr (.inl h)
        · exact .inr (.inr h)
    · split
      · rename_i h
        subst h
        constructor
        · exact .inl
        · rintro (h | rfl)
          · exact h
          · exact List.mem_cons_self
      · rw [List.mem_cons]
        constructor
        · rintro (h | h)
          · exact .inr h
          · exact .inl h
        · rintro (h | h)
          · exact .inr h
          · exact .inl h
theorem ins_lt {x : Int} : ∀ {out : List Int}, out.Pairwise (· < ·) → (insI out x).Pairwise (· < ·)
  | [], _ => by unfold insI; simp
  | y :: r, h => by
    rw [List.pairwise_cons] at h
    unfold insI
    split
    · rename_i q
      rw [List.pairwise_cons]
      refine ⟨fun z hz => ?_, ins_lt h.2⟩
      rcases mem_ins.1 hz with g | rfl
      · exact h.1 z g
      · exact q
    · split
      · exact List.pairwise_cons.2 h
      · rename_i q q'
        rw [List.pairwise_cons]
        refine ⟨fun z hz => ?_, List.pairwise_cons.2 h⟩
        rcases List.mem_cons.1 hz with rfl | g
        · omega
        · have := h.1 z g
          omega
/-- the sources of the first k -/
def refK (l : List Ms) (k : Nat) : List Int := ((l.take k).map Ms.s).foldl insI []
theorem refK_succ {l : List Ms} {k : Nat} (h : k < l.length) : refK l (k + 1) = insI (refK l k) (nth l k).s := by
  unfold refK
  rw [take_nth h, List.map_append, List.foldl_append]
  rfl
theorem fold_lt (zs : List Int) : ∀ out : List Int, out.Pairwise (· < ·) → (zs.foldl insI out).Pairwise (· < ·) := by
  induction zs with
  | nil => exact fun out h => h
  | cons z r ih => exact fun out h => ih _ (ins_lt h)
theorem fold_mem (zs : List Int) : ∀ (out : List Int) (x : Int), x ∈ zs.foldl insI out ↔ x ∈ out ∨ x ∈ zs := by
  induction zs with
  | nil => intro out x; simp
  | cons z r ih =>
    intro out x
    rw [List.foldl_cons, ih, mem_ins, List.mem_cons]
    constructor
    · rintro ((h | h) | h)
      · exact .inl h
      · exact .inr (.inl h)
      · exact .inr (.inr h)
    · rintro (h | h | h)
      · exact .inl (.inl h)
      · exact .inl (.inr h)
      · exact .inr h
theorem refK_eq (l : List Ms) : refK l l.length = srcL l := by
  unfold refK
  rw [List.take_length]
  refine asc_uniq _ _ (fold_lt _ _ List.Pairwise.nil) (srcL_lt l) fun x => ?_
  rw [fold_mem, mem_srcL, List.mem_map]
  simp
theorem fold_len (zs : List Int) : ∀ out : List Int, (zs.foldl insI out).length ≤ out.length + zs.length := by
  have one : ∀ (out : List Int) (x : Int), (insI out x).length ≤ out.length + 1 := by
    intro out x
    induction out with
    | nil => simp [insI]
    | cons y r ih =>
      unfold insI
      split
      · simp only [List.length_cons]; omega
      · split
        · simp
        · simp
  induction zs with
  | nil => simp
  | cons z r ih =>
    intro out
    have := ih (insI out z)
    have := one out z
    simp only [List.foldl_cons, List.length_cons]
    omega
theorem refK_len {l : List Ms} {k : Nat} : (refK l k).length ≤ l.length := by
  have := fold_len ((l.take k).map Ms.s) []
  unfold refK
  rw [List.length_map, List.length_take] at this
  simp only [List.length_nil] at this
  omega
/-- where the number goes -/
theorem ins_at (x : Int) : ∀ (out : List Int) (i : Nat), (∀ j, j < i → out.getD j 0 < x) → i ≤ out.length → (i = out.length ∨ ¬ out.getD i 0 < x) →
    insI out x = if i = out.length ∨ out.getD i 0 ≠ x then out.take i ++ x :: out.drop i else out
  | [], i, _, h, _ => by
    obtain rfl : i = 0 := by simpa using h
    simp [insI]
  | y :: r, 0, _, _, h => by
    have hy : ¬ y < x := by
      rcases h with h | h
      · simp at h
      · simpa using h
    unfold insI
    rw [if_neg hy]
    by_cases e : y = x
    · rw [if_pos e, if_neg]
      rintro (q | q)
      · simp at q
      · exact q (by simpa using e)
    · rw [if_neg e, if_pos (.inr (by simpa using e))]
      rfl
  | y :: r, i + 1, hj, hi, h => by
    have hy : y < x := by simpa using hj 0 (by omega)
    have ih := ins_at x r i (fun j q => by simpa using hj (j + 1) (by omega)) (by simpa using hi) (by
      rcases h with h | h
      · exact .inl (by simpa using h)
      · exact .inr (by simpa using h))
    unfold insI
    rw [if_pos hy, ih]
    by_cases c : i = r.length ∨ r.getD i 0 ≠ x
    · rw [if_pos c, if_pos (by rcases c with c | c; exact .inl (by simp [c]); exact .inr (by simpa using c))]
      rfl
    · rw [if_neg c, if_neg]
      rintro (q | q)
      · exact c (.inl (by simpa using q))
      · exact c (.inr (by simpa using q))
/-- the list while its tail moves up -/
def shS (out : List Int) (j : Nat) : List Int := (out ++ [0]).take (j + 1) ++ out.drop j
theorem shS_cons (y : Int) (r : List Int) (j : Nat) : shS (y :: r) (j + 1) = y :: shS r j := by
  unfold shS
  rfl
theorem shS_zero (out : List Int) : ∃ z, shS out 0 = z :: out := by
  unfold shS
  cases out with
  | nil => exact ⟨0, rfl⟩
  | cons y r => exact ⟨y, rfl⟩
theorem shS_len : ∀ (out : List Int) (j : Nat), j ≤ out.length → (shS out j).length = out.length + 1
  | out, 0, _ => by obtain ⟨z, h⟩ := shS_zero out; rw [h]; rfl
  | [], j + 1, h => by simp at h
  | y :: r, j + 1, h => by
    rw [shS_cons, List.length_cons, shS_len r j (by simpa using h)]
    rfl
theorem shS_top (out : List Int) : shS out out.length = out ++ [0] := by
  unfold shS
  rw [List.drop_length, List.append_nil, List.take_of_length_le (by simp)]
theorem shS_get : ∀ (out : List Int) (j : Nat), j < out.length → (shS out (j + 1)).getD j 0 = out.getD j 0
  | [], j, h => by simp at h
  | y :: r, 0, _ => by rw [shS_cons]; rfl
  | y :: r, j + 1, h => by
    rw [shS_cons]
    have := shS_get r j (by simpa using h)
    simpa using this
theorem shS_set : ∀ (out : List Int) (j : Nat), j < out.length → (shS out (j + 1)).set (j + 1) (out.getD j 0) = shS out j
  | [], j, h => by simp at h
  | y :: r, 0, _ => by
    obtain ⟨z, e⟩ := shS_zero r
    rw [shS_cons, e]
    rfl
  | y :: r, j + 1, h => by
    have ih := shS_set r j (by simpa using h)
    rw [shS_cons, shS_cons, ← ih]
    rfl
theorem shS_ins (x : Int) : ∀ (out : List Int) (i : Nat), i ≤ out.length → (shS out i).set i x = out.take i ++ x :: out.drop i
  | out, 0, _ => by
    obtain ⟨z, e⟩ := shS_zero out
    rw [e]
    rfl
  | [], i + 1, h => by simp at h
  | y :: r, i + 1, h => by
    rw [shS_cons]
    have := shS_ins x r i (by simpa using h)
    show y :: (shS r i).set i x = _
    rw [this]
    rfl
end Go.Proofs.Ytplgdlooglnpmaa
