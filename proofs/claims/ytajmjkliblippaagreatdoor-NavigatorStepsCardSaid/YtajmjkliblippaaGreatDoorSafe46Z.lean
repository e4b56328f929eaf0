/-
  What a cycle of the navigator is worth. No program in sight.
-/
import Derived.Test.YtajmjkliblippaaGreatDoorQ11
import Derived.Test.YtajmjkliblippaaGreatDoorQ12
import Derived.Test.YtajmjkliblippaaGreatDoorQ19
set_option linter.unusedVariables false
namespace Go.Proofs.YtajmjkliblippaaGreatDoor
open Go.RowKit
theorem kd_take {L:List Rp} (n:Nat) (h:∀ i,i < L.length→0≤(nthR L i).k∧(nthR L i).k≤255):∀ i,i < (L.take n).length→0≤(nthR (L.take n) i).k∧(nthR (L.take n) i).k≤255:=fun i hi=>by
 rw [(nthR_take hi).2]
 exact h i (nthR_take hi).1
end Go.Proofs.YtajmjkliblippaaGreatDoor
