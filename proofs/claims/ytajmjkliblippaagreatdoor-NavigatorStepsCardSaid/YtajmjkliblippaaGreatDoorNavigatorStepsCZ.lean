/-
  The closed facts of the row of NavigatorSteps, each by itself.
-/
import Derived.Test.YtajmjkliblippaaGreatDoorFrame46Z
set_option linter.unusedVariables false
namespace Go.Proofs.YtajmjkliblippaaGreatDoor.navigatorSteps
open Go.ChangeShapes Go.WideShapes Go.ChangeAt Go.RowKit
set_option maxHeartbeats 40000000
set_option maxRecDepth 100000
theorem closed:joinedFacts Tryz.pinned.checked.prog 4 Tryz.f4 (OpenSpec.bare (OpenSpec.ofChange Rows.navigatorStepsSpec)) Rows.navigatorStepsRow = true:=by
 unfold joinedFacts
 simp only [Bool.and_eq_true]
 repeat' apply And.intro
 all_goals (as_aux_lemma=>kernel_rfl)
end Go.Proofs.YtajmjkliblippaaGreatDoor.navigatorSteps
