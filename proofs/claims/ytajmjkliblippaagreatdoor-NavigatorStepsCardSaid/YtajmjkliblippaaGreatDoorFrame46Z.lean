/-
  What the rows of this seat share: what the listed variables give, a world for the witness, what the integers' bounds are.
-/
import Derived.Test.YtajmjkliblippaaGreatDoorCards
import Derived.Test.YtajmjkliblippaaGreatDoorTie
import Derived.Test.YtajmjkliblippaaGreatDoorEnv41Q
import Derived.WalkKit
import Derived.ProofKit
import Derived.OpenShut
import Derived.Deep.DeepHandedRow
import Derived.Lib.LaidTab
import Derived.Lib.SmallJoins
import Derived.Stop.LaidErr
import Derived.Test.YtajmjkliblippaaGreatDoorQ11
set_option linter.unusedVariables false
namespace Go.Proofs.YtajmjkliblippaaGreatDoor
open Go.ChangeShapes Go.WideShapes Go.ChangeAt Go.RowKit Go.Joins
theorem gPow : Tryz.prog.globalNamed "internal/strconv.uint64pow10" = some 2 := by kernel_rfl
theorem gPowType:(Tryz.prog.globals[2]?).map (·.type) = some 206:=by kernel_rfl
theorem cellsPow:Tryz.prog.cellsOf 206 = 20:=by kernel_rfl
theorem cellsU64:Tryz.prog.cellsOf 110 = 1:=by kernel_rfl
def laidList : List (String × DataW Unit) := [("math/bits.deBruijn32tab", Rows.laid_math_bits_deBruijn32tab), ("math/bits.deBruijn64tab", Rows.laid_math_bits_deBruijn64tab), ("internal/strconv.uint64pow10", Rows.laid_internal_strconv_uint64pow10)]
theorem env_of {W:World} (h:laidMetH Tryz.prog laidList W) (hs:W.ShapedOpen Tryz.prog):Env W:=by
 refine ⟨Tryz.laysM138.s1_3 W hs,?_⟩
 have h3 : laidMet Tryz.prog [("internal/strconv.uint64pow10", Rows.laid_internal_strconv_uint64pow10)] W := laidMet.tail (laidMet.tail h)
 exact Lib.tabIs_of_head (rest:=[]) gPow gPowType Tryz.underlying206 Tryz.underlying110 cellsU64 cellsPow h3
def setTab (cs:Array Value) (o:Obj):Obj:=
 match o with
 | .cells _ t frozen=>.cells cs t frozen
 | o=>o
def tab32:List Int:=[0,1,28,2,29,14,24,3,30,22,20,15,25,17,4,8,31,27,13,23,21,19,16,7,26,12,18,6,11,5,10,9]
def tab64:List Int:=[0,1,56,2,57,49,28,3,61,58,42,50,38,29,17,4,62,47,59,36,45,43,51,22,53,39,33,30,24,18,12,5,63,55,48,27,60,41,37,16,46,35,44,21,52,32,23,11,54,26,40,15,34,20,31,10,25,14,19,9,13,8,7,6]
def cellsOfTab (k:IntKind) (l:List Int):Array Value:=(l.map fun z=>Value.int k z).toArray
noncomputable def laidWorld (os:Os):World:=
 { World.holding Tryz.prog os ⟨#[],#[],[]⟩ with heap:=(((World.holding Tryz.prog os ⟨#[],#[],[]⟩).heap.modify 2 (setTab (cellsOfTab .u64 Lib.pow10Tab))).modify 6 (setTab (cellsOfTab .u8 tab32))).modify 7 (setTab (cellsOfTab .u8 tab64)) }
theorem laid_met_any (os:Os) (a:Array Value):laidMet Tryz.prog laidList ((laidWorld os).forCall (fun _ _=>0) ⟨#[],a,[]⟩).memory:=
 laidMet_of_run' 8 (by as_aux_lemma=>kernel_rfl) (by as_aux_lemma=>kernel_rfl)
end Go.Proofs.YtajmjkliblippaaGreatDoor
