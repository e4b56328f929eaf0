/-
  What the walks of this seat share: quiet calls, worlds below, and what a search gives back.
-/
import Derived.Test.YtnaokohffelklaaDoorShelf
import Derived.WalkKit
import Derived.WalkSpells
import Derived.IntWalk
import Derived.Lib.Hide
import Derived.BigQuiet
import Derived.Deep.QuietTactic
import Derived.Deep.LoopGhost
namespace Go.Proofs.YtnaokohffelklaaDoor
set_option linter.unusedVariables false
open Go.RowKit

/-- what the search gives back: how many places are false -/
structure Cutoff (pB : Int → Bool) (n k : Int) : Prop where
  lo : 0 ≤ k
  hi : k ≤ n
  no : ∀ t, 0 ≤ t → t < k → pB t = false
  yes : ∀ t, k ≤ t → t < n → pB t = true
def SearchPost (pB : Int → Bool) (n : Int) (w : World) (e : Ending) (w' : World) : Prop := ∃ k : Int, e = .returned (.int .i64 k) ∧ Cutoff pB n k ∧ Below w.heap.size w w'

/-- what stands before lo is false, what stands from hi on is true -/
def Around (pB : Int → Bool) (n lo hi : Nat) : Prop := (∀ t : Int, 0 ≤ t → t < lo → pB t = false) ∧ (∀ t : Int, hi ≤ t → t < n → pB t = true)

theorem quiet_left {P : Program} {f : FuncId} {args : Array Value} {w : World} {n : Nat} {v : Value}
    (h : Calls P f args (w.drewN n) fun e w' => e = .returned v ∧ w.drewN n = w') : Calls P f args (w.drewN n) fun e w'' => e = .returned v ∧ ∃ m, w'' = w.drewN m :=
  h.mono fun _ _ ⟨he, hm⟩ => ⟨he, n, hm.symm⟩
theorem quiet_add_left {P : Program} {f : FuncId} {args : Array Value} {w : World} {a n : Nat} {v : Value}
    (h : Calls P f args (w.drewN (a + n)) fun e w' => e = .returned v ∧ w.drewN (a + n) = w') :
    Calls P f args (w.drewN (a + n)) fun e w'' => e = .returned v ∧ ∃ m, w'' = w.drewN (a + m) :=
  h.mono fun _ _ ⟨he, hm⟩ => ⟨he, n, hm.symm⟩
theorem below_drewN {B : Nat} {a w : World} (h : Below B a w) (n : Nat) : Below B a (w.drewN n) := ⟨h.os, h.tape, h.output, h.size, h.block⟩

theorem ret_int {k : IntKind} {a b : Int} (h : a = b) : Ending.returned (.int k a) = .returned (.int k b) := by rw [h]
end Go.Proofs.YtnaokohffelklaaDoor
