/-
  What stands before the walks with slices of the call's own.
-/
import Derived.Test.YtplgdlooglnpmaaMeasBase
import Derived.Laws.OwnMore
import Derived.Maps.AppendAt
import Derived.OwnWalk
import Derived.OneCell
import Derived.Lib.SmallJoins
import Derived.Deep.Onto
namespace Go.Proofs.Ytplgdlooglnpmaa
set_option linter.unusedVariables false
open Go.RowKit

theorem grown_of_below {W w' : World} (hb : Below W.heap.size W w') : W.grownBy w' none := ⟨hb.os, hb.tape, hb.output, hb.size, fun k hk _ => hb.block k hk⟩
def Halt (p : Prop) : Prop := p
theorem Halt.mk {p : Prop} (h : Halt p) : p := h
end Go.Proofs.Ytplgdlooglnpmaa
