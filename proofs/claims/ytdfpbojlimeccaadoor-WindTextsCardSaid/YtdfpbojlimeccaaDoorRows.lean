/-
  NARROWER THAN 'FOR EVERY INPUT', by the rows' own cells (each row's printed sentence says how): WindGround: laid · WindEncloses: laid · WindBounds: laid · WindTriangle: laid · WindTexts: laid · WindSets: laid · WindBoxes: laid · WindParts: laid · WindDirections: laid.
  DERIVED. THE GIVEN ROWS OF THIS SEAT. 9 by the template 'for every input the law returns true; each argument reads behind the call as it read before'; 0 by the template 'total and deterministic' (their statements: YtdfpbojlimeccaaDoorTotals.lean).
  GIVEN WITH THE SEED: the statements are not yours to turn. If you find one false, say at which input.
  Laid BY PROGRAM, IN A SANDBOX (cutbox-rows.mjs): the forced cells as the released guide's own fill.sh prints them over the translation 6bade2ec88c4167e… (all of the seat's roots in one cut). By AI agents, Wed Nov 11 2026. No macro, syntax, notation, axiom, sorry.
-/
import Derived.Test.YtdfpbojlimeccaaDoorChecked
import GoSem.Claim
import GoSem.ClaimJoined
import GoSem.ClaimMapViews
import Derived.JoinedTies
import Derived.KernelRfl
namespace Go.Proofs.YtdfpbojlimeccaaDoor
/- THE CELL 'sum', in the pinned program and in every row, IS THE sha256 OF THE DUMP (.gsa) THAT YtdfpbojlimeccaaDoorProg.lean LOADS. Nothing in Lean hashes anything: it is a label: what it is worth is what the hold of that sum in a sandbox is worth. -/
noncomputable def Tryd.pinned : Pinned := { name := "ytdfpbojlimeccaadoor", sum := "6bade2ec88c4167e8a62348aaa398de29560190ee3a6d9eff394c760e1c796af", checked := Tryd.checked }
namespace Rows
def none {H : Type} : Left H := { results := [], args := [] }

/- WHAT THE LISTED PACKAGE-LEVEL VARIABLES READ AS WHEN THE CALL BEGINS. Each datum BY PROGRAM (the guide's laid-datum.mjs) off the statement by which the dump's own 'gosem.cut.vars' lays the variable. In a bare row this is a premise. The card (YtdfpbojlimeccaaDoorCards.lean) ties it to the program's text. -/
def laid_math_bits_deBruijn32tab {H : Type} : DataW H := .agg [.lit (.int .u8 0), .lit (.int .u8 1), .lit (.int .u8 28), .lit (.int .u8 2), .lit (.int .u8 29), .lit (.int .u8 14), .lit (.int .u8 24), .lit (.int .u8 3), .lit (.int .u8 30), .lit (.int .u8 22), .lit (.int .u8 20), .lit (.int .u8 15), .lit (.int .u8 25), .lit (.int .u8 17), .lit (.int .u8 4), .lit (.int .u8 8), .lit (.int .u8 31), .lit (.int .u8 27), .lit (.int .u8 13), .lit (.int .u8 23), .lit (.int .u8 21), .lit (.int .u8 19), .lit (.int .u8 16), .lit (.int .u8 7), .lit (.int .u8 26), .lit (.int .u8 12), .lit (.int .u8 18), .lit (.int .u8 6), .lit (.int .u8 11), .lit (.int .u8 5), .lit (.int .u8 10), .lit (.int .u8 9)]
def laid_math_bits_deBruijn64tab {H : Type} : DataW H := .agg [.lit (.int .u8 0), .lit (.int .u8 1), .lit (.int .u8 56), .lit (.int .u8 2), .lit (.int .u8 57), .lit (.int .u8 49), .lit (.int .u8 28), .lit (.int .u8 3), .lit (.int .u8 61), .lit (.int .u8 58), .lit (.int .u8 42), .lit (.int .u8 50), .lit (.int .u8 38), .lit (.int .u8 29), .lit (.int .u8 17), .lit (.int .u8 4), .lit (.int .u8 62), .lit (.int .u8 47), .lit (.int .u8 59), .lit (.int .u8 36), .lit (.int .u8 45), .lit (.int .u8 43), .lit (.int .u8 51), .lit (.int .u8 22), .lit (.int .u8 53), .lit (.int .u8 39), .lit (.int .u8 33), .lit (.int .u8 30), .lit (.int .u8 24), .lit (.int .u8 18), .lit (.int .u8 12), .lit (.int .u8 5), .lit (.int .u8 63), .lit (.int .u8 55), .lit (.int .u8 48), .lit (.int .u8 27), .lit (.int .u8 60), .lit (.int .u8 41), .lit (.int .u8 37), .lit (.int .u8 16), .lit (.int .u8 46), .lit (.int .u8 35), .lit (.int .u8 44), .lit (.int .u8 21), .lit (.int .u8 52), .lit (.int .u8 32), .lit (.int .u8 23), .lit (.int .u8 11), .lit (.int .u8 54), .lit (.int .u8 26), .lit (.int .u8 40), .lit (.int .u8 15), .lit (.int .u8 34), .lit (.int .u8 20), .lit (.int .u8 31), .lit (.int .u8 10), .lit (.int .u8 25), .lit (.int .u8 14), .lit (.int .u8 19), .lit (.int .u8 9), .lit (.int .u8 13), .lit (.int .u8 8), .lit (.int .u8 7), .lit (.int .u8 6)]
def laid_internal_strconv_uint64pow10 {H : Type} : DataW H := .agg [.lit (.int .u64 1), .lit (.int .u64 10), .lit (.int .u64 100), .lit (.int .u64 1000), .lit (.int .u64 10000), .lit (.int .u64 100000), .lit (.int .u64 1000000), .lit (.int .u64 10000000), .lit (.int .u64 100000000), .lit (.int .u64 1000000000), .lit (.int .u64 10000000000), .lit (.int .u64 100000000000), .lit (.int .u64 1000000000000), .lit (.int .u64 10000000000000), .lit (.int .u64 100000000000000), .lit (.int .u64 1000000000000000), .lit (.int .u64 10000000000000000), .lit (.int .u64 100000000000000000), .lit (.int .u64 1000000000000000000), .lit (.int .u64 10000000000000000000)]

/-- 'flightdecklaw13.WindGround': WHATEVER THE INPUT: true; the input reads as it did. -/
def windGroundSpec : ChangeSpec := { name := "windGround", fn := fun _ => fun
  | [d1, d2, d3] => { results := [.lit (.bool true)], args := [d1, d2, d3] }
  | _ => none }
def windGroundRow : OpenClaim := { program := "ytdfpbojlimeccaadoor", sum := "6bade2ec88c4167e8a62348aaa398de29560190ee3a6d9eff394c760e1c796af", func := "flightdeck/flightdecklaw13.WindGround", spec := "windGround", inPlace := ["internal/bytealg.IndexByteString", "internal/bytealg.IndexString"], unfollowed := true, recurses := true, named := ["internal/strconv.uint64pow10", "math/bits.deBruijn32tab", "math/bits.deBruijn64tab", "internal/bytealg.MaxLen"], apart := false, laid := [("math/bits.deBruijn32tab", laid_math_bits_deBruijn32tab), ("math/bits.deBruijn64tab", laid_math_bits_deBruijn64tab), ("internal/strconv.uint64pow10", laid_internal_strconv_uint64pow10)] }
def WindGroundSaid : Prop := windGroundRow.holds Tryd.pinned (OpenSpec.ofChange windGroundSpec)

/-- ITS FALSE NEIGHBOUR: 'it returns false'. Refute it at one input. -/
def windGroundWrong : ChangeSpec := { name := "windGround", fn := fun _ => fun
  | [d1, d2, d3] => { results := [.lit (.bool false)], args := [d1, d2, d3] }
  | _ => none }
def WindGroundWrongFalsely : Prop := windGroundRow.holds Tryd.pinned (OpenSpec.ofChange windGroundWrong)

/-- 'flightdecklaw13.WindEncloses': WHATEVER THE INPUT: true; the input reads as it did. -/
def windEnclosesSpec : ChangeSpec := { name := "windEncloses", fn := fun _ => fun
  | [d1, d2, d3] => { results := [.lit (.bool true)], args := [d1, d2, d3] }
  | _ => none }
def windEnclosesRow : OpenClaim := { program := "ytdfpbojlimeccaadoor", sum := "6bade2ec88c4167e8a62348aaa398de29560190ee3a6d9eff394c760e1c796af", func := "flightdeck/flightdecklaw13.WindEncloses", spec := "windEncloses", inPlace := ["internal/bytealg.IndexByteString", "internal/bytealg.IndexString"], unfollowed := true, recurses := true, named := ["internal/strconv.uint64pow10", "math/bits.deBruijn32tab", "math/bits.deBruijn64tab", "internal/bytealg.MaxLen"], apart := false, laid := [("math/bits.deBruijn32tab", laid_math_bits_deBruijn32tab), ("math/bits.deBruijn64tab", laid_math_bits_deBruijn64tab), ("internal/strconv.uint64pow10", laid_internal_strconv_uint64pow10)] }
def WindEnclosesSaid : Prop := windEnclosesRow.holds Tryd.pinned (OpenSpec.ofChange windEnclosesSpec)

/-- ITS FALSE NEIGHBOUR: 'it returns false'. Refute it at one input. -/
def windEnclosesWrong : ChangeSpec := { name := "windEncloses", fn := fun _ => fun
  | [d1, d2, d3] => { results := [.lit (.bool false)], args := [d1, d2, d3] }
  | _ => none }
def WindEnclosesWrongFalsely : Prop := windEnclosesRow.holds Tryd.pinned (OpenSpec.ofChange windEnclosesWrong)

/-- 'flightdecklaw13.WindBounds': WHATEVER THE INPUT: true; the input reads as it did. -/
def windBoundsSpec : ChangeSpec := { name := "windBounds", fn := fun _ => fun
  | [d1, d2, d3] => { results := [.lit (.bool true)], args := [d1, d2, d3] }
  | _ => none }
def windBoundsRow : OpenClaim := { program := "ytdfpbojlimeccaadoor", sum := "6bade2ec88c4167e8a62348aaa398de29560190ee3a6d9eff394c760e1c796af", func := "flightdeck/flightdecklaw13.WindBounds", spec := "windBounds", inPlace := ["internal/bytealg.IndexByteString", "internal/bytealg.IndexString"], unfollowed := true, recurses := true, named := ["internal/strconv.uint64pow10", "math/bits.deBruijn32tab", "math/bits.deBruijn64tab", "internal/bytealg.MaxLen"], apart := false, laid := [("math/bits.deBruijn32tab", laid_math_bits_deBruijn32tab), ("math/bits.deBruijn64tab", laid_math_bits_deBruijn64tab), ("internal/strconv.uint64pow10", laid_internal_strconv_uint64pow10)] }
def WindBoundsSaid : Prop := windBoundsRow.holds Tryd.pinned (OpenSpec.ofChange windBoundsSpec)

/-- ITS FALSE NEIGHBOUR: 'it returns false'. Refute it at one input. -/
def windBoundsWrong : ChangeSpec := { name := "windBounds", fn := fun _ => fun
  | [d1, d2, d3] => { results := [.lit (.bool false)], args := [d1, d2, d3] }
  | _ => none }
def WindBoundsWrongFalsely : Prop := windBoundsRow.holds Tryd.pinned (OpenSpec.ofChange windBoundsWrong)

/-- 'flightdecklaw13.WindTriangle': WHATEVER THE INPUT: true; the input reads as it did. -/
def windTriangleSpec : ChangeSpec := { name := "windTriangle", fn := fun _ => fun
  | [d1, d2, d3] => { results := [.lit (.bool true)], args := [d1, d2, d3] }
  | _ => none }
def windTriangleRow : OpenClaim := { program := "ytdfpbojlimeccaadoor", sum := "6bade2ec88c4167e8a62348aaa398de29560190ee3a6d9eff394c760e1c796af", func := "flightdeck/flightdecklaw13.WindTriangle", spec := "windTriangle", inPlace := ["internal/bytealg.IndexByteString", "internal/bytealg.IndexString"], unfollowed := true, recurses := true, named := ["internal/strconv.uint64pow10", "math/bits.deBruijn32tab", "math/bits.deBruijn64tab", "internal/bytealg.MaxLen"], apart := false, laid := [("math/bits.deBruijn32tab", laid_math_bits_deBruijn32tab), ("math/bits.deBruijn64tab", laid_math_bits_deBruijn64tab), ("internal/strconv.uint64pow10", laid_internal_strconv_uint64pow10)] }
def WindTriangleSaid : Prop := windTriangleRow.holds Tryd.pinned (OpenSpec.ofChange windTriangleSpec)

/-- ITS FALSE NEIGHBOUR: 'it returns false'. Refute it at one input. -/
def windTriangleWrong : ChangeSpec := { name := "windTriangle", fn := fun _ => fun
  | [d1, d2, d3] => { results := [.lit (.bool false)], args := [d1, d2, d3] }
  | _ => none }
def WindTriangleWrongFalsely : Prop := windTriangleRow.holds Tryd.pinned (OpenSpec.ofChange windTriangleWrong)

/-- 'flightdecklaw13.WindTexts': WHATEVER THE INPUT: true; the input reads as it did. -/
def windTextsSpec : ChangeSpec := { name := "windTexts", fn := fun _ => fun
  | [d1, d2] => { results := [.lit (.bool true)], args := [d1, d2] }
  | _ => none }
def windTextsRow : OpenClaim := { program := "ytdfpbojlimeccaadoor", sum := "6bade2ec88c4167e8a62348aaa398de29560190ee3a6d9eff394c760e1c796af", func := "flightdeck/flightdecklaw13.WindTexts", spec := "windTexts", inPlace := ["internal/bytealg.IndexByteString", "internal/bytealg.IndexString"], unfollowed := true, recurses := true, named := ["internal/strconv.uint64pow10", "math/bits.deBruijn32tab", "math/bits.deBruijn64tab", "internal/bytealg.MaxLen"], apart := false, laid := [("math/bits.deBruijn32tab", laid_math_bits_deBruijn32tab), ("math/bits.deBruijn64tab", laid_math_bits_deBruijn64tab), ("internal/strconv.uint64pow10", laid_internal_strconv_uint64pow10)] }
def WindTextsSaid : Prop := windTextsRow.holds Tryd.pinned (OpenSpec.ofChange windTextsSpec)

/-- ITS FALSE NEIGHBOUR: 'it returns false'. Refute it at one input. -/
def windTextsWrong : ChangeSpec := { name := "windTexts", fn := fun _ => fun
  | [d1, d2] => { results := [.lit (.bool false)], args := [d1, d2] }
  | _ => none }
def WindTextsWrongFalsely : Prop := windTextsRow.holds Tryd.pinned (OpenSpec.ofChange windTextsWrong)

/-- 'flightdecklaw13.WindSets': WHATEVER THE INPUT: true; the input reads as it did. -/
def windSetsSpec : ChangeSpec := { name := "windSets", fn := fun _ => fun
  | [d1, d2, d3] => { results := [.lit (.bool true)], args := [d1, d2, d3] }
  | _ => none }
def windSetsRow : OpenClaim := { program := "ytdfpbojlimeccaadoor", sum := "6bade2ec88c4167e8a62348aaa398de29560190ee3a6d9eff394c760e1c796af", func := "flightdeck/flightdecklaw13.WindSets", spec := "windSets", inPlace := ["internal/bytealg.IndexByteString", "internal/bytealg.IndexString"], unfollowed := true, recurses := true, named := ["internal/strconv.uint64pow10", "math/bits.deBruijn32tab", "math/bits.deBruijn64tab", "internal/bytealg.MaxLen"], apart := false, laid := [("math/bits.deBruijn32tab", laid_math_bits_deBruijn32tab), ("math/bits.deBruijn64tab", laid_math_bits_deBruijn64tab), ("internal/strconv.uint64pow10", laid_internal_strconv_uint64pow10)] }
def WindSetsSaid : Prop := windSetsRow.holds Tryd.pinned (OpenSpec.ofChange windSetsSpec)

/-- ITS FALSE NEIGHBOUR: 'it returns false'. Refute it at one input. -/
def windSetsWrong : ChangeSpec := { name := "windSets", fn := fun _ => fun
  | [d1, d2, d3] => { results := [.lit (.bool false)], args := [d1, d2, d3] }
  | _ => none }
def WindSetsWrongFalsely : Prop := windSetsRow.holds Tryd.pinned (OpenSpec.ofChange windSetsWrong)

/-- 'flightdecklaw13.WindBoxes': WHATEVER THE INPUT: true; the input reads as it did. -/
def windBoxesSpec : ChangeSpec := { name := "windBoxes", fn := fun _ => fun
  | [d1, d2, d3] => { results := [.lit (.bool true)], args := [d1, d2, d3] }
  | _ => none }
def windBoxesRow : OpenClaim := { program := "ytdfpbojlimeccaadoor", sum := "6bade2ec88c4167e8a62348aaa398de29560190ee3a6d9eff394c760e1c796af", func := "flightdeck/flightdecklaw13.WindBoxes", spec := "windBoxes", inPlace := ["internal/bytealg.IndexByteString", "internal/bytealg.IndexString"], unfollowed := true, recurses := true, named := ["internal/strconv.uint64pow10", "math/bits.deBruijn32tab", "math/bits.deBruijn64tab", "internal/bytealg.MaxLen"], apart := false, laid := [("math/bits.deBruijn32tab", laid_math_bits_deBruijn32tab), ("math/bits.deBruijn64tab", laid_math_bits_deBruijn64tab), ("internal/strconv.uint64pow10", laid_internal_strconv_uint64pow10)] }
def WindBoxesSaid : Prop := windBoxesRow.holds Tryd.pinned (OpenSpec.ofChange windBoxesSpec)

/-- ITS FALSE NEIGHBOUR: 'it returns false'. Refute it at one input. -/
def windBoxesWrong : ChangeSpec := { name := "windBoxes", fn := fun _ => fun
  | [d1, d2, d3] => { results := [.lit (.bool false)], args := [d1, d2, d3] }
  | _ => none }
def WindBoxesWrongFalsely : Prop := windBoxesRow.holds Tryd.pinned (OpenSpec.ofChange windBoxesWrong)

/-- 'flightdecklaw13.WindParts': WHATEVER THE INPUT: true; the input reads as it did. -/
def windPartsSpec : ChangeSpec := { name := "windParts", fn := fun _ => fun
  | [d1, d2, d3] => { results := [.lit (.bool true)], args := [d1, d2, d3] }
  | _ => none }
def windPartsRow : OpenClaim := { program := "ytdfpbojlimeccaadoor", sum := "6bade2ec88c4167e8a62348aaa398de29560190ee3a6d9eff394c760e1c796af", func := "flightdeck/flightdecklaw13.WindParts", spec := "windParts", inPlace := ["internal/bytealg.IndexByteString", "internal/bytealg.IndexString"], unfollowed := true, recurses := true, named := ["internal/strconv.uint64pow10", "math/bits.deBruijn32tab", "math/bits.deBruijn64tab", "internal/bytealg.MaxLen"], apart := false, laid := [("math/bits.deBruijn32tab", laid_math_bits_deBruijn32tab), ("math/bits.deBruijn64tab", laid_math_bits_deBruijn64tab), ("internal/strconv.uint64pow10", laid_internal_strconv_uint64pow10)] }
def WindPartsSaid : Prop := windPartsRow.holds Tryd.pinned (OpenSpec.ofChange windPartsSpec)

/-- ITS FALSE NEIGHBOUR: 'it returns false'. Refute it at one input. -/
def windPartsWrong : ChangeSpec := { name := "windParts", fn := fun _ => fun
  | [d1, d2, d3] => { results := [.lit (.bool false)], args := [d1, d2, d3] }
  | _ => none }
def WindPartsWrongFalsely : Prop := windPartsRow.holds Tryd.pinned (OpenSpec.ofChange windPartsWrong)

/-- 'flightdecklaw13.WindDirections': WHATEVER THE INPUT: true; the input reads as it did. -/
def windDirectionsSpec : ChangeSpec := { name := "windDirections", fn := fun _ => fun
  | [d1, d2] => { results := [.lit (.bool true)], args := [d1, d2] }
  | _ => none }
def windDirectionsRow : OpenClaim := { program := "ytdfpbojlimeccaadoor", sum := "6bade2ec88c4167e8a62348aaa398de29560190ee3a6d9eff394c760e1c796af", func := "flightdeck/flightdecklaw13.WindDirections", spec := "windDirections", inPlace := ["internal/bytealg.IndexByteString", "internal/bytealg.IndexString"], unfollowed := true, recurses := true, named := ["internal/strconv.uint64pow10", "math/bits.deBruijn32tab", "math/bits.deBruijn64tab", "internal/bytealg.MaxLen"], apart := false, laid := [("math/bits.deBruijn32tab", laid_math_bits_deBruijn32tab), ("math/bits.deBruijn64tab", laid_math_bits_deBruijn64tab), ("internal/strconv.uint64pow10", laid_internal_strconv_uint64pow10)] }
def WindDirectionsSaid : Prop := windDirectionsRow.holds Tryd.pinned (OpenSpec.ofChange windDirectionsSpec)

/-- ITS FALSE NEIGHBOUR: 'it returns false'. Refute it at one input. -/
def windDirectionsWrong : ChangeSpec := { name := "windDirections", fn := fun _ => fun
  | [d1, d2] => { results := [.lit (.bool false)], args := [d1, d2] }
  | _ => none }
def WindDirectionsWrongFalsely : Prop := windDirectionsRow.holds Tryd.pinned (OpenSpec.ofChange windDirectionsWrong)

/- THE SECOND FORM. 'bulk': how many values and letters a reading holds, each counted each time it is reached (what is shared counts as often as it is met; a slice's spare places count too). A statement '..UptoSaid' is the law's where the arguments, and the package variables that the reading takes, are together of bulk at most 1048576: NARROWER than '..Said'. Prove '..Said' where nothing that the law and all that it calls make is longer than what came in: it says more and counts as full. Else prove '..UptoSaid'. A law counts once. -/
mutual
def uptoBulk {H : Type} : DataW H → Nat
  | .lit (.string bytes) => bytes.length + 1
  | .lit _ => 1
  | .nil => 1
  | .ptr d => uptoBulk d + 1
  | .slice elems spare => uptoBulkAll elems + uptoBulkAll spare + 1
  | .agg parts => uptoBulkAll parts + 1
  | .iface _ d => uptoBulk d + 1
  | .map entries => uptoBulkEntries entries + 1
  | .held _ => 1
def uptoBulkAll {H : Type} : List (DataW H) → Nat
  | [] => 0
  | d :: r => uptoBulk d + uptoBulkAll r
def uptoBulkEntries {H : Type} : List (Lit × DataW H) → Nat
  | [] => 0
  | x :: r => uptoBulkEntry x + uptoBulkEntries r
def uptoBulkEntry {H : Type} : Lit × DataW H → Nat
  | (.string bytes, d) => bytes.length + uptoBulk d + 1
  | (_, d) => uptoBulk d + 1
 end
def uptoSmall : (H : Type) → List (DataW H) → Bool := fun _ ds => decide (uptoBulkAll ds ≤ 1048576)
def OpenSpec.upto (s : _root_.Go.ChangeSpec) : _root_.Go.OpenSpec := { _root_.Go.OpenSpec.ofChange s with cond := some uptoSmall }

/-- 'flightdecklaw13.WindGround', WHERE WHAT IT READS IS OF BULK AT MOST 1048576: true; the input reads as it did. -/
def windGroundUptoRow : OpenClaim := { program := "ytdfpbojlimeccaadoor", sum := "6bade2ec88c4167e8a62348aaa398de29560190ee3a6d9eff394c760e1c796af", func := "flightdeck/flightdecklaw13.WindGround", spec := "windGround", inPlace := ["internal/bytealg.IndexByteString", "internal/bytealg.IndexString"], unfollowed := true, recurses := true, named := ["internal/strconv.uint64pow10", "math/bits.deBruijn32tab", "math/bits.deBruijn64tab", "internal/bytealg.MaxLen"], apart := false, laid := [("math/bits.deBruijn32tab", laid_math_bits_deBruijn32tab), ("math/bits.deBruijn64tab", laid_math_bits_deBruijn64tab), ("internal/strconv.uint64pow10", laid_internal_strconv_uint64pow10)], narrowed := true }
def WindGroundUptoSaid : Prop := windGroundUptoRow.holds Tryd.pinned (OpenSpec.upto windGroundSpec)

/-- 'flightdecklaw13.WindEncloses', WHERE WHAT IT READS IS OF BULK AT MOST 1048576: true; the input reads as it did. -/
def windEnclosesUptoRow : OpenClaim := { program := "ytdfpbojlimeccaadoor", sum := "6bade2ec88c4167e8a62348aaa398de29560190ee3a6d9eff394c760e1c796af", func := "flightdeck/flightdecklaw13.WindEncloses", spec := "windEncloses", inPlace := ["internal/bytealg.IndexByteString", "internal/bytealg.IndexString"], unfollowed := true, recurses := true, named := ["internal/strconv.uint64pow10", "math/bits.deBruijn32tab", "math/bits.deBruijn64tab", "internal/bytealg.MaxLen"], apart := false, laid := [("math/bits.deBruijn32tab", laid_math_bits_deBruijn32tab), ("math/bits.deBruijn64tab", laid_math_bits_deBruijn64tab), ("internal/strconv.uint64pow10", laid_internal_strconv_uint64pow10)], narrowed := true }
def WindEnclosesUptoSaid : Prop := windEnclosesUptoRow.holds Tryd.pinned (OpenSpec.upto windEnclosesSpec)

/-- 'flightdecklaw13.WindBounds', WHERE WHAT IT READS IS OF BULK AT MOST 1048576: true; the input reads as it did. -/
def windBoundsUptoRow : OpenClaim := { program := "ytdfpbojlimeccaadoor", sum := "6bade2ec88c4167e8a62348aaa398de29560190ee3a6d9eff394c760e1c796af", func := "flightdeck/flightdecklaw13.WindBounds", spec := "windBounds", inPlace := ["internal/bytealg.IndexByteString", "internal/bytealg.IndexString"], unfollowed := true, recurses := true, named := ["internal/strconv.uint64pow10", "math/bits.deBruijn32tab", "math/bits.deBruijn64tab", "internal/bytealg.MaxLen"], apart := false, laid := [("math/bits.deBruijn32tab", laid_math_bits_deBruijn32tab), ("math/bits.deBruijn64tab", laid_math_bits_deBruijn64tab), ("internal/strconv.uint64pow10", laid_internal_strconv_uint64pow10)], narrowed := true }
def WindBoundsUptoSaid : Prop := windBoundsUptoRow.holds Tryd.pinned (OpenSpec.upto windBoundsSpec)

/-- 'flightdecklaw13.WindTriangle', WHERE WHAT IT READS IS OF BULK AT MOST 1048576: true; the input reads as it did. -/
def windTriangleUptoRow : OpenClaim := { program := "ytdfpbojlimeccaadoor", sum := "6bade2ec88c4167e8a62348aaa398de29560190ee3a6d9eff394c760e1c796af", func := "flightdeck/flightdecklaw13.WindTriangle", spec := "windTriangle", inPlace := ["internal/bytealg.IndexByteString", "internal/bytealg.IndexString"], unfollowed := true, recurses := true, named := ["internal/strconv.uint64pow10", "math/bits.deBruijn32tab", "math/bits.deBruijn64tab", "internal/bytealg.MaxLen"], apart := false, laid := [("math/bits.deBruijn32tab", laid_math_bits_deBruijn32tab), ("math/bits.deBruijn64tab", laid_math_bits_deBruijn64tab), ("internal/strconv.uint64pow10", laid_internal_strconv_uint64pow10)], narrowed := true }
def WindTriangleUptoSaid : Prop := windTriangleUptoRow.holds Tryd.pinned (OpenSpec.upto windTriangleSpec)

/-- 'flightdecklaw13.WindTexts', WHERE WHAT IT READS IS OF BULK AT MOST 1048576: true; the input reads as it did. -/
def windTextsUptoRow : OpenClaim := { program := "ytdfpbojlimeccaadoor", sum := "6bade2ec88c4167e8a62348aaa398de29560190ee3a6d9eff394c760e1c796af", func := "flightdeck/flightdecklaw13.WindTexts", spec := "windTexts", inPlace := ["internal/bytealg.IndexByteString", "internal/bytealg.IndexString"], unfollowed := true, recurses := true, named := ["internal/strconv.uint64pow10", "math/bits.deBruijn32tab", "math/bits.deBruijn64tab", "internal/bytealg.MaxLen"], apart := false, laid := [("math/bits.deBruijn32tab", laid_math_bits_deBruijn32tab), ("math/bits.deBruijn64tab", laid_math_bits_deBruijn64tab), ("internal/strconv.uint64pow10", laid_internal_strconv_uint64pow10)], narrowed := true }
def WindTextsUptoSaid : Prop := windTextsUptoRow.holds Tryd.pinned (OpenSpec.upto windTextsSpec)

/-- 'flightdecklaw13.WindSets', WHERE WHAT IT READS IS OF BULK AT MOST 1048576: true; the input reads as it did. -/
def windSetsUptoRow : OpenClaim := { program := "ytdfpbojlimeccaadoor", sum := "6bade2ec88c4167e8a62348aaa398de29560190ee3a6d9eff394c760e1c796af", func := "flightdeck/flightdecklaw13.WindSets", spec := "windSets", inPlace := ["internal/bytealg.IndexByteString", "internal/bytealg.IndexString"], unfollowed := true, recurses := true, named := ["internal/strconv.uint64pow10", "math/bits.deBruijn32tab", "math/bits.deBruijn64tab", "internal/bytealg.MaxLen"], apart := false, laid := [("math/bits.deBruijn32tab", laid_math_bits_deBruijn32tab), ("math/bits.deBruijn64tab", laid_math_bits_deBruijn64tab), ("internal/strconv.uint64pow10", laid_internal_strconv_uint64pow10)], narrowed := true }
def WindSetsUptoSaid : Prop := windSetsUptoRow.holds Tryd.pinned (OpenSpec.upto windSetsSpec)

/-- 'flightdecklaw13.WindBoxes', WHERE WHAT IT READS IS OF BULK AT MOST 1048576: true; the input reads as it did. -/
def windBoxesUptoRow : OpenClaim := { program := "ytdfpbojlimeccaadoor", sum := "6bade2ec88c4167e8a62348aaa398de29560190ee3a6d9eff394c760e1c796af", func := "flightdeck/flightdecklaw13.WindBoxes", spec := "windBoxes", inPlace := ["internal/bytealg.IndexByteString", "internal/bytealg.IndexString"], unfollowed := true, recurses := true, named := ["internal/strconv.uint64pow10", "math/bits.deBruijn32tab", "math/bits.deBruijn64tab", "internal/bytealg.MaxLen"], apart := false, laid := [("math/bits.deBruijn32tab", laid_math_bits_deBruijn32tab), ("math/bits.deBruijn64tab", laid_math_bits_deBruijn64tab), ("internal/strconv.uint64pow10", laid_internal_strconv_uint64pow10)], narrowed := true }
def WindBoxesUptoSaid : Prop := windBoxesUptoRow.holds Tryd.pinned (OpenSpec.upto windBoxesSpec)

/-- 'flightdecklaw13.WindParts', WHERE WHAT IT READS IS OF BULK AT MOST 1048576: true; the input reads as it did. -/
def windPartsUptoRow : OpenClaim := { program := "ytdfpbojlimeccaadoor", sum := "6bade2ec88c4167e8a62348aaa398de29560190ee3a6d9eff394c760e1c796af", func := "flightdeck/flightdecklaw13.WindParts", spec := "windParts", inPlace := ["internal/bytealg.IndexByteString", "internal/bytealg.IndexString"], unfollowed := true, recurses := true, named := ["internal/strconv.uint64pow10", "math/bits.deBruijn32tab", "math/bits.deBruijn64tab", "internal/bytealg.MaxLen"], apart := false, laid := [("math/bits.deBruijn32tab", laid_math_bits_deBruijn32tab), ("math/bits.deBruijn64tab", laid_math_bits_deBruijn64tab), ("internal/strconv.uint64pow10", laid_internal_strconv_uint64pow10)], narrowed := true }
def WindPartsUptoSaid : Prop := windPartsUptoRow.holds Tryd.pinned (OpenSpec.upto windPartsSpec)

/-- 'flightdecklaw13.WindDirections', WHERE WHAT IT READS IS OF BULK AT MOST 1048576: true; the input reads as it did. -/
def windDirectionsUptoRow : OpenClaim := { program := "ytdfpbojlimeccaadoor", sum := "6bade2ec88c4167e8a62348aaa398de29560190ee3a6d9eff394c760e1c796af", func := "flightdeck/flightdecklaw13.WindDirections", spec := "windDirections", inPlace := ["internal/bytealg.IndexByteString", "internal/bytealg.IndexString"], unfollowed := true, recurses := true, named := ["internal/strconv.uint64pow10", "math/bits.deBruijn32tab", "math/bits.deBruijn64tab", "internal/bytealg.MaxLen"], apart := false, laid := [("math/bits.deBruijn32tab", laid_math_bits_deBruijn32tab), ("math/bits.deBruijn64tab", laid_math_bits_deBruijn64tab), ("internal/strconv.uint64pow10", laid_internal_strconv_uint64pow10)], narrowed := true }
def WindDirectionsUptoSaid : Prop := windDirectionsUptoRow.holds Tryd.pinned (OpenSpec.upto windDirectionsSpec)

end Rows
end Go.Proofs.YtdfpbojlimeccaaDoor
