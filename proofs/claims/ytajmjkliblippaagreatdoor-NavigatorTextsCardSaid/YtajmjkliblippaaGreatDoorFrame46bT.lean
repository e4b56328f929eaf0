/-
  What the rows of SensorTexts and SensorParses share: five listed variables.
-/
import Derived.Test.YtajmjkliblippaaGreatDoorFrame46T
namespace Go.Proofs.YtajmjkliblippaaGreatDoor
set_option linter.unusedVariables false
open Go.ChangeShapes Go.WideShapes Go.ChangeAt Go.RowKit Go.Joins

def laidList5 : List (String × DataW Unit) := [("math/bits.deBruijn32tab", Rows.laid_math_bits_deBruijn32tab), ("math/bits.deBruijn64tab", Rows.laid_math_bits_deBruijn64tab), ("internal/strconv.uint64pow10", Rows.laid_internal_strconv_uint64pow10), ("unicode/utf8.acceptRanges", Rows.laid_unicode_utf8_acceptRanges), ("unicode/utf8.first", Rows.laid_unicode_utf8_first)]
theorem env_of5 {W : World} (h : laidMetH Tryz.prog laidList5 W) (hs : W.ShapedOpen Tryz.prog) : Env W := by
  refine ⟨Tryz.laysM138.s1_3 W hs, ?_⟩
  have h3 : laidMet Tryz.prog [("internal/strconv.uint64pow10", Rows.laid_internal_strconv_uint64pow10), ("unicode/utf8.acceptRanges", Rows.laid_unicode_utf8_acceptRanges), ("unicode/utf8.first", Rows.laid_unicode_utf8_first)] W := laidMet.tail (laidMet.tail h)
  exact Lib.tabIs_of_head (rest := [("unicode/utf8.acceptRanges", Rows.laid_unicode_utf8_acceptRanges), ("unicode/utf8.first", Rows.laid_unicode_utf8_first)]) gPow gPowType Tryz.underlying206 Tryz.underlying110 cellsU64 cellsPow h3
/-- a flat datum's cells -/
def litOf : DataW Unit → Value
  | .lit (.int k n) => .int k n
  | _ => undef
def rowOf1 : DataW Unit → List Value
  | .agg l => l.map litOf
  | _ => []
def rowOf2 : DataW Unit → List Value
  | .agg l => l.flatMap rowOf1
  | _ => []
noncomputable def laidWorld5 (os : Os) : World :=
  { laidWorld os with heap := ((laidWorld os).heap.modify 5 (setTab (rowOf2 Rows.laid_unicode_utf8_acceptRanges).toArray)).modify 4 (setTab (rowOf1 Rows.laid_unicode_utf8_first).toArray) }
theorem laid_met_any5 (os : Os) (a : Array Value) : laidMet Tryz.prog laidList5 ((laidWorld5 os).forCall (fun _ _ => 0) ⟨#[], a, []⟩).memory :=
  laidMet_of_run' 8 (by as_aux_lemma => kernel_rfl) (by as_aux_lemma => kernel_rfl)
end Go.Proofs.YtajmjkliblippaaGreatDoor
