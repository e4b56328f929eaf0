/-
  What the library's variables hold.
-/
import Derived.Test.YtnaokohffelklaaDoorShelf
import Derived.Lib.AppendIntMem
import Derived.Lib.ItoaLen
import Derived.WalkKit
namespace Go.Proofs.YtnaokohffelklaaDoor
set_option linter.unusedVariables false
open Go.RowKit

/-- what the library's variables hold -/
structure Env (w : World) : Prop where
  len : ∃ m : Int, w.cell? ⟨3, 0, none⟩ = some (.int .i64 m)
  tab : Lib.TabIs Tryd.prog w "internal/strconv.uint64pow10" .u64 Lib.pow10Tab
theorem Env.below {w w' : World} (h : Env w) (hb : Below w.heap.size w w') : Env w' := by
  obtain ⟨m, hm⟩ := h.len
  exact ⟨⟨m, (hb.cell (World.block_lt_of_cell? _ _ hm)).trans hm⟩, Lib.tabBelow_of_tabIs h.tab w' hb⟩
end Go.Proofs.YtnaokohffelklaaDoor
