/-
  The walks of fixed.Abs and plane.Valid; slices of measurements by their form.
-/
import Derived.Test.YtplgdlooglnpmaaMeasBase
import Derived.Test.YtplgdlooglnpmaaLsqTwo
import Derived.Lib.QuietBelow
namespace Go.Proofs.Ytplgdlooglnpmaa
set_option linter.unusedVariables false
open Go.RowKit

def absI (x : Int) : Int := if x < 0 then -x else x
theorem abs_any (x : Int) (w : World) (_h0 : -9223372036854775807 ≤ x) (_h1 : x ≤ 9223372036854775807) :
    Calls Try.prog 35 #[.int .i64 x] w fun e w' => e = .returned (.int .i64 (absI x)) ∧ w = w' := by
  have h2 : (x == -9223372036854775808) = false := by simp; omega
  go_enter Try.func35, Try.ntmps35
  go_wp2
  all_goals go_ret
  · exact ⟨ret_int (by unfold absI; rw [if_pos (by assumption)]), rfl⟩
  · exact ⟨ret_int (by unfold absI; rw [if_neg (by omega)]), rfl⟩

def vldP (x y : Int) : Bool := decide (-2000000 ≤ x ∧ x ≤ 2000000 ∧ -2000000 ≤ y ∧ y ≤ 2000000)
theorem vldP_iff {x y : Int} : vldP x y = true ↔ -2000000 ≤ x ∧ x ≤ 2000000 ∧ -2000000 ≤ y ∧ y ≤ 2000000 := by unfold vldP; rw [decide_eq_true_iff]
set_option maxHeartbeats 4000000 in
theorem vldP_any (x y : Int) (w : World) : Calls Try.prog 15 #[.agg #[.int .i64 x, .int .i64 y]] w fun e w' => e = .returned (.bool (vldP x y)) ∧ Below w.heap.size w w' := by
  have key : (decide (-2000000 ≤ x) = false ∧ vldP x y = false) ∨ (decide (-2000000 ≤ x) = true ∧ decide (x ≤ 2000000) = false ∧ vldP x y = false) ∨ (decide (-2000000 ≤ x) = true ∧ decide (x ≤ 2000000) = true ∧ decide (-2000000 ≤ y) = false ∧ vldP x y = false) ∨ (decide (-2000000 ≤ x) = true ∧ decide (x ≤ 2000000) = true ∧ decide (-2000000 ≤ y) = true ∧ decide (y ≤ 2000000) = false ∧ vldP x y = false) ∨ (decide (-2000000 ≤ x) = true ∧ decide (x ≤ 2000000) = true ∧ decide (-2000000 ≤ y) = true ∧ decide (y ≤ 2000000) = true ∧ vldP x y = true) := by
    unfold vldP
    simp only [decide_eq_true_eq, decide_eq_false_iff_not]
    omega
  rcases key with ⟨g0, E⟩ | ⟨g0, g1, E⟩ | ⟨g0, g1, g2, E⟩ | ⟨g0, g1, g2, g3, E⟩ | ⟨g0, g1, g2, g3, E⟩
  all_goals
    rw [E]
    clear E
    go_enter Try.func15, Try.ntmps15
    go_wp2
    go_ret
    exact ⟨rfl, (Below.refl _ _).alloc (Nat.le_refl _) _⟩

theorem regrown_drewN {B : Nat} {w w' : World} {P : Program} {f : FuncId} {args : Array Value} {v : Value} (h : Calls P f args w fun e w' => e = .returned v ∧ w = w') : Calls P f args w fun e w' => e = .returned v ∧ Below w.heap.size w w' :=
  h.mono fun e w' ⟨h1, h2⟩ => ⟨h1, by rw [← h2]; exact Below.refl _ _⟩
theorem lst_form {l : List Ms} {v : Value} {w : World} (h : LstAt l v w) : ∃ p cap, v = .slice p l.length cap := by
  rcases h with ⟨rfl, rfl⟩ | ⟨b, o, cap, rfl, _⟩
  · exact ⟨none, 0, rfl⟩
  · exact ⟨_, _, rfl⟩
theorem lst_at {l : List Ms} {p : Option Addr} {cap : Nat} {w : World} (h : LstAt l (.slice p l.length cap) w) {k : Nat} (q : k < l.length) : ∃ b o, p = some ⟨b, o, none⟩ ∧ l.length ≤ cap ∧ cap ≤ 9223372036854775807 ∧ MsAt l b o w := by
  rcases h with ⟨_, rfl⟩ | ⟨b, o, cap', e, h2, h3, h4⟩
  · exact absurd q (by simp)
  · injection e with e1 e2 e3
    subst e3
    exact ⟨b, o, e1, h2, h3, h4⟩
theorem ex_blk {vs : List Value} {b : Nat} {W : World} (_ : Hid (Blk vs b W)) : ∃ b', b' = b := ⟨b, rfl⟩
end Go.Proofs.Ytplgdlooglnpmaa
