/-
  NARROWER THAN 'FOR EVERY INPUT', by the rows' own cells (each row's printed sentence says how): NavigatorStarts: laid · NavigatorSteps: laid · NavigatorCoasts: laid · NavigatorIgnores: laid · NavigatorNarrows: laid · NavigatorSafe: laid · NavigatorTexts: laid · NavigatorParses: laid.
  DERIVED. THE GIVEN ROWS OF THIS SEAT. 8 by the template 'for every input the law returns true; each argument reads behind the call as it read before'; 0 by the template 'total and deterministic' (their statements: YtajmjkliblippaaGreatDoorTotals.lean).
  GIVEN WITH THE SEED: the statements are not yours to turn. If you find one false, say at which input.
  Laid BY PROGRAM, IN A SANDBOX (cutbox-rows.mjs): the forced cells as the released guide's own fill.sh prints them over the translation ca6b17d502d7fe83… (all of the seat's roots in one cut). By AI agents, Wed Nov 11 2026. No macro, syntax, notation, axiom, sorry.
-/
import Derived.Test.YtajmjkliblippaaGreatDoorChecked
import GoSem.PinnedTables
import GoSem.Claim
import GoSem.ClaimJoined
import GoSem.ClaimMapViews
import Derived.JoinedTies
import Derived.KernelRfl
namespace Go.Proofs.YtajmjkliblippaaGreatDoor
/- THE CELL 'sum', in the pinned program and in every row, IS THE sha256 OF THE DUMP (.gsa) THAT YtajmjkliblippaaGreatDoorProg.lean LOADS. Nothing in Lean hashes anything: it is a label: what it is worth is what the hold of that sum in a sandbox is worth. -/
noncomputable def Tryz.pinned : Pinned := { name := "ytajmjkliblippaagreatdoor", sum := "ca6b17d502d7fe83b418607ef59281de0f8071c8a3ba2577920174c4b3083002", checked := Tryz.checked }
namespace Rows
def none {H : Type} : Left H := { results := [], args := [] }

/- WHAT THE LISTED PACKAGE-LEVEL VARIABLES READ AS WHEN THE CALL BEGINS. Each datum BY PROGRAM (the guide's laid-datum.mjs) off the statement by which the dump's own 'gosem.cut.vars' lays the variable. In a bare row this is a premise. The card (YtajmjkliblippaaGreatDoorCards.lean) ties it to the program's text. -/
def laid_math_bits_deBruijn32tab {H : Type} : DataW H := .agg [.lit (.int .u8 0), .lit (.int .u8 1), .lit (.int .u8 28), .lit (.int .u8 2), .lit (.int .u8 29), .lit (.int .u8 14), .lit (.int .u8 24), .lit (.int .u8 3), .lit (.int .u8 30), .lit (.int .u8 22), .lit (.int .u8 20), .lit (.int .u8 15), .lit (.int .u8 25), .lit (.int .u8 17), .lit (.int .u8 4), .lit (.int .u8 8), .lit (.int .u8 31), .lit (.int .u8 27), .lit (.int .u8 13), .lit (.int .u8 23), .lit (.int .u8 21), .lit (.int .u8 19), .lit (.int .u8 16), .lit (.int .u8 7), .lit (.int .u8 26), .lit (.int .u8 12), .lit (.int .u8 18), .lit (.int .u8 6), .lit (.int .u8 11), .lit (.int .u8 5), .lit (.int .u8 10), .lit (.int .u8 9)]
def laid_math_bits_deBruijn64tab {H : Type} : DataW H := .agg [.lit (.int .u8 0), .lit (.int .u8 1), .lit (.int .u8 56), .lit (.int .u8 2), .lit (.int .u8 57), .lit (.int .u8 49), .lit (.int .u8 28), .lit (.int .u8 3), .lit (.int .u8 61), .lit (.int .u8 58), .lit (.int .u8 42), .lit (.int .u8 50), .lit (.int .u8 38), .lit (.int .u8 29), .lit (.int .u8 17), .lit (.int .u8 4), .lit (.int .u8 62), .lit (.int .u8 47), .lit (.int .u8 59), .lit (.int .u8 36), .lit (.int .u8 45), .lit (.int .u8 43), .lit (.int .u8 51), .lit (.int .u8 22), .lit (.int .u8 53), .lit (.int .u8 39), .lit (.int .u8 33), .lit (.int .u8 30), .lit (.int .u8 24), .lit (.int .u8 18), .lit (.int .u8 12), .lit (.int .u8 5), .lit (.int .u8 63), .lit (.int .u8 55), .lit (.int .u8 48), .lit (.int .u8 27), .lit (.int .u8 60), .lit (.int .u8 41), .lit (.int .u8 37), .lit (.int .u8 16), .lit (.int .u8 46), .lit (.int .u8 35), .lit (.int .u8 44), .lit (.int .u8 21), .lit (.int .u8 52), .lit (.int .u8 32), .lit (.int .u8 23), .lit (.int .u8 11), .lit (.int .u8 54), .lit (.int .u8 26), .lit (.int .u8 40), .lit (.int .u8 15), .lit (.int .u8 34), .lit (.int .u8 20), .lit (.int .u8 31), .lit (.int .u8 10), .lit (.int .u8 25), .lit (.int .u8 14), .lit (.int .u8 19), .lit (.int .u8 9), .lit (.int .u8 13), .lit (.int .u8 8), .lit (.int .u8 7), .lit (.int .u8 6)]
def laid_internal_strconv_uint64pow10 {H : Type} : DataW H := .agg [.lit (.int .u64 1), .lit (.int .u64 10), .lit (.int .u64 100), .lit (.int .u64 1000), .lit (.int .u64 10000), .lit (.int .u64 100000), .lit (.int .u64 1000000), .lit (.int .u64 10000000), .lit (.int .u64 100000000), .lit (.int .u64 1000000000), .lit (.int .u64 10000000000), .lit (.int .u64 100000000000), .lit (.int .u64 1000000000000), .lit (.int .u64 10000000000000), .lit (.int .u64 100000000000000), .lit (.int .u64 1000000000000000), .lit (.int .u64 10000000000000000), .lit (.int .u64 100000000000000000), .lit (.int .u64 1000000000000000000), .lit (.int .u64 10000000000000000000)]
def laid_unicode_utf8_acceptRanges {H : Type} : DataW H := .agg [.agg [.lit (.int .u8 128), .lit (.int .u8 191)], .agg [.lit (.int .u8 160), .lit (.int .u8 191)], .agg [.lit (.int .u8 128), .lit (.int .u8 159)], .agg [.lit (.int .u8 144), .lit (.int .u8 191)], .agg [.lit (.int .u8 128), .lit (.int .u8 143)], .agg [.lit (.int .u8 0), .lit (.int .u8 0)], .agg [.lit (.int .u8 0), .lit (.int .u8 0)], .agg [.lit (.int .u8 0), .lit (.int .u8 0)], .agg [.lit (.int .u8 0), .lit (.int .u8 0)], .agg [.lit (.int .u8 0), .lit (.int .u8 0)], .agg [.lit (.int .u8 0), .lit (.int .u8 0)], .agg [.lit (.int .u8 0), .lit (.int .u8 0)], .agg [.lit (.int .u8 0), .lit (.int .u8 0)], .agg [.lit (.int .u8 0), .lit (.int .u8 0)], .agg [.lit (.int .u8 0), .lit (.int .u8 0)], .agg [.lit (.int .u8 0), .lit (.int .u8 0)]]
/-- One of Go's own tables, pinned by name: the form's constant. -/
def laid_unicode_utf8_first : DataW Unit := Go.Pinned.utf8First

/-- 'flightdecklaw46.NavigatorStarts': WHATEVER THE INPUT: true; the input reads as it did. -/
def navigatorStartsSpec : ChangeSpec := { name := "navigatorStarts", fn := fun _ => fun
  | [d] => { results := [.lit (.bool true)], args := [d] }
  | _ => none }
def navigatorStartsRow : OpenClaim := { program := "ytajmjkliblippaagreatdoor", sum := "ca6b17d502d7fe83b418607ef59281de0f8071c8a3ba2577920174c4b3083002", func := "flightdeck/flightdecklaw46.NavigatorStarts", spec := "navigatorStarts", inPlace := ["math/bits.Sub64", "math/bits.Add64"], unfollowed := true, recurses := true, named := ["math/bits.divideError", "math/bits.overflowError", "internal/strconv.uint64pow10", "math/bits.deBruijn32tab", "math/bits.deBruijn64tab"], apart := false, laid := [("math/bits.deBruijn32tab", laid_math_bits_deBruijn32tab), ("math/bits.deBruijn64tab", laid_math_bits_deBruijn64tab), ("internal/strconv.uint64pow10", laid_internal_strconv_uint64pow10)] }
def NavigatorStartsSaid : Prop := navigatorStartsRow.holds Tryz.pinned (OpenSpec.ofChange navigatorStartsSpec)

/-- ITS FALSE NEIGHBOUR: 'it returns false'. Refute it at one input. -/
def navigatorStartsWrong : ChangeSpec := { name := "navigatorStarts", fn := fun _ => fun
  | [d] => { results := [.lit (.bool false)], args := [d] }
  | _ => none }
def NavigatorStartsWrongFalsely : Prop := navigatorStartsRow.holds Tryz.pinned (OpenSpec.ofChange navigatorStartsWrong)

/-- 'flightdecklaw46.NavigatorSteps': WHATEVER THE INPUT: true; the input reads as it did. -/
def navigatorStepsSpec : ChangeSpec := { name := "navigatorSteps", fn := fun _ => fun
  | [d1, d2] => { results := [.lit (.bool true)], args := [d1, d2] }
  | _ => none }
def navigatorStepsRow : OpenClaim := { program := "ytajmjkliblippaagreatdoor", sum := "ca6b17d502d7fe83b418607ef59281de0f8071c8a3ba2577920174c4b3083002", func := "flightdeck/flightdecklaw46.NavigatorSteps", spec := "navigatorSteps", inPlace := ["math/bits.Sub64", "math/bits.Add64"], unfollowed := true, recurses := true, named := ["math/bits.divideError", "math/bits.overflowError", "internal/strconv.uint64pow10", "math/bits.deBruijn32tab", "math/bits.deBruijn64tab"], apart := false, laid := [("math/bits.deBruijn32tab", laid_math_bits_deBruijn32tab), ("math/bits.deBruijn64tab", laid_math_bits_deBruijn64tab), ("internal/strconv.uint64pow10", laid_internal_strconv_uint64pow10)] }
def NavigatorStepsSaid : Prop := navigatorStepsRow.holds Tryz.pinned (OpenSpec.ofChange navigatorStepsSpec)

/-- ITS FALSE NEIGHBOUR: 'it returns false'. Refute it at one input. -/
def navigatorStepsWrong : ChangeSpec := { name := "navigatorSteps", fn := fun _ => fun
  | [d1, d2] => { results := [.lit (.bool false)], args := [d1, d2] }
  | _ => none }
def NavigatorStepsWrongFalsely : Prop := navigatorStepsRow.holds Tryz.pinned (OpenSpec.ofChange navigatorStepsWrong)

/-- 'flightdecklaw46.NavigatorCoasts': WHATEVER THE INPUT: true; the input reads as it did. -/
def navigatorCoastsSpec : ChangeSpec := { name := "navigatorCoasts", fn := fun _ => fun
  | [d1, d2] => { results := [.lit (.bool true)], args := [d1, d2] }
  | _ => none }
def navigatorCoastsRow : OpenClaim := { program := "ytajmjkliblippaagreatdoor", sum := "ca6b17d502d7fe83b418607ef59281de0f8071c8a3ba2577920174c4b3083002", func := "flightdeck/flightdecklaw46.NavigatorCoasts", spec := "navigatorCoasts", inPlace := ["math/bits.Sub64", "math/bits.Add64"], unfollowed := true, recurses := true, named := ["math/bits.divideError", "math/bits.overflowError", "internal/strconv.uint64pow10", "math/bits.deBruijn32tab", "math/bits.deBruijn64tab"], apart := false, laid := [("math/bits.deBruijn32tab", laid_math_bits_deBruijn32tab), ("math/bits.deBruijn64tab", laid_math_bits_deBruijn64tab), ("internal/strconv.uint64pow10", laid_internal_strconv_uint64pow10)] }
def NavigatorCoastsSaid : Prop := navigatorCoastsRow.holds Tryz.pinned (OpenSpec.ofChange navigatorCoastsSpec)

/-- ITS FALSE NEIGHBOUR: 'it returns false'. Refute it at one input. -/
def navigatorCoastsWrong : ChangeSpec := { name := "navigatorCoasts", fn := fun _ => fun
  | [d1, d2] => { results := [.lit (.bool false)], args := [d1, d2] }
  | _ => none }
def NavigatorCoastsWrongFalsely : Prop := navigatorCoastsRow.holds Tryz.pinned (OpenSpec.ofChange navigatorCoastsWrong)

/-- 'flightdecklaw46.NavigatorIgnores': WHATEVER THE INPUT: true; the input reads as it did. -/
def navigatorIgnoresSpec : ChangeSpec := { name := "navigatorIgnores", fn := fun _ => fun
  | [d1, d2] => { results := [.lit (.bool true)], args := [d1, d2] }
  | _ => none }
def navigatorIgnoresRow : OpenClaim := { program := "ytajmjkliblippaagreatdoor", sum := "ca6b17d502d7fe83b418607ef59281de0f8071c8a3ba2577920174c4b3083002", func := "flightdeck/flightdecklaw46.NavigatorIgnores", spec := "navigatorIgnores", inPlace := ["math/bits.Sub64", "math/bits.Add64"], unfollowed := true, recurses := true, named := ["math/bits.divideError", "math/bits.overflowError", "internal/strconv.uint64pow10", "math/bits.deBruijn32tab", "math/bits.deBruijn64tab"], apart := false, laid := [("math/bits.deBruijn32tab", laid_math_bits_deBruijn32tab), ("math/bits.deBruijn64tab", laid_math_bits_deBruijn64tab), ("internal/strconv.uint64pow10", laid_internal_strconv_uint64pow10)] }
def NavigatorIgnoresSaid : Prop := navigatorIgnoresRow.holds Tryz.pinned (OpenSpec.ofChange navigatorIgnoresSpec)

/-- ITS FALSE NEIGHBOUR: 'it returns false'. Refute it at one input. -/
def navigatorIgnoresWrong : ChangeSpec := { name := "navigatorIgnores", fn := fun _ => fun
  | [d1, d2] => { results := [.lit (.bool false)], args := [d1, d2] }
  | _ => none }
def NavigatorIgnoresWrongFalsely : Prop := navigatorIgnoresRow.holds Tryz.pinned (OpenSpec.ofChange navigatorIgnoresWrong)

/-- 'flightdecklaw46.NavigatorNarrows': WHATEVER THE INPUT: true; the input reads as it did. -/
def navigatorNarrowsSpec : ChangeSpec := { name := "navigatorNarrows", fn := fun _ => fun
  | [d1, d2] => { results := [.lit (.bool true)], args := [d1, d2] }
  | _ => none }
def navigatorNarrowsRow : OpenClaim := { program := "ytajmjkliblippaagreatdoor", sum := "ca6b17d502d7fe83b418607ef59281de0f8071c8a3ba2577920174c4b3083002", func := "flightdeck/flightdecklaw46.NavigatorNarrows", spec := "navigatorNarrows", inPlace := ["math/bits.Sub64", "math/bits.Add64"], unfollowed := true, recurses := true, named := ["math/bits.divideError", "math/bits.overflowError", "internal/strconv.uint64pow10", "math/bits.deBruijn32tab", "math/bits.deBruijn64tab"], apart := false, laid := [("math/bits.deBruijn32tab", laid_math_bits_deBruijn32tab), ("math/bits.deBruijn64tab", laid_math_bits_deBruijn64tab), ("internal/strconv.uint64pow10", laid_internal_strconv_uint64pow10)] }
def NavigatorNarrowsSaid : Prop := navigatorNarrowsRow.holds Tryz.pinned (OpenSpec.ofChange navigatorNarrowsSpec)

/-- ITS FALSE NEIGHBOUR: 'it returns false'. Refute it at one input. -/
def navigatorNarrowsWrong : ChangeSpec := { name := "navigatorNarrows", fn := fun _ => fun
  | [d1, d2] => { results := [.lit (.bool false)], args := [d1, d2] }
  | _ => none }
def NavigatorNarrowsWrongFalsely : Prop := navigatorNarrowsRow.holds Tryz.pinned (OpenSpec.ofChange navigatorNarrowsWrong)

/-- 'flightdecklaw46.NavigatorSafe': WHATEVER THE INPUT: true; the input reads as it did. -/
def navigatorSafeSpec : ChangeSpec := { name := "navigatorSafe", fn := fun _ => fun
  | [d1, d2, d3] => { results := [.lit (.bool true)], args := [d1, d2, d3] }
  | _ => none }
def navigatorSafeRow : OpenClaim := { program := "ytajmjkliblippaagreatdoor", sum := "ca6b17d502d7fe83b418607ef59281de0f8071c8a3ba2577920174c4b3083002", func := "flightdeck/flightdecklaw46.NavigatorSafe", spec := "navigatorSafe", inPlace := ["math/bits.Sub64", "math/bits.Add64"], unfollowed := true, recurses := true, named := ["math/bits.divideError", "math/bits.overflowError", "internal/strconv.uint64pow10", "math/bits.deBruijn32tab", "math/bits.deBruijn64tab"], apart := false, laid := [("math/bits.deBruijn32tab", laid_math_bits_deBruijn32tab), ("math/bits.deBruijn64tab", laid_math_bits_deBruijn64tab), ("internal/strconv.uint64pow10", laid_internal_strconv_uint64pow10)] }
def NavigatorSafeSaid : Prop := navigatorSafeRow.holds Tryz.pinned (OpenSpec.ofChange navigatorSafeSpec)

/-- ITS FALSE NEIGHBOUR: 'it returns false'. Refute it at one input. -/
def navigatorSafeWrong : ChangeSpec := { name := "navigatorSafe", fn := fun _ => fun
  | [d1, d2, d3] => { results := [.lit (.bool false)], args := [d1, d2, d3] }
  | _ => none }
def NavigatorSafeWrongFalsely : Prop := navigatorSafeRow.holds Tryz.pinned (OpenSpec.ofChange navigatorSafeWrong)

/-- 'flightdecklaw46.NavigatorTexts': WHATEVER THE INPUT: true; the input reads as it did. -/
def navigatorTextsSpec : ChangeSpec := { name := "navigatorTexts", fn := fun _ => fun
  | [d] => { results := [.lit (.bool true)], args := [d] }
  | _ => none }
def navigatorTextsRow : OpenClaim := { program := "ytajmjkliblippaagreatdoor", sum := "ca6b17d502d7fe83b418607ef59281de0f8071c8a3ba2577920174c4b3083002", func := "flightdeck/flightdecklaw46.NavigatorTexts", spec := "navigatorTexts", inPlace := ["math/bits.Sub64", "math/bits.Add64", "internal/bytealg.CountString", "internal/bytealg.IndexByteString", "internal/bytealg.IndexString"], unfollowed := true, recurses := true, named := ["math/bits.divideError", "math/bits.overflowError", "internal/strconv.uint64pow10", "math/bits.deBruijn32tab", "math/bits.deBruijn64tab", "unicode/utf8.first", "unicode/utf8.acceptRanges", "internal/bytealg.MaxLen"], apart := false, laid := [("math/bits.deBruijn32tab", laid_math_bits_deBruijn32tab), ("math/bits.deBruijn64tab", laid_math_bits_deBruijn64tab), ("internal/strconv.uint64pow10", laid_internal_strconv_uint64pow10), ("unicode/utf8.acceptRanges", laid_unicode_utf8_acceptRanges), ("unicode/utf8.first", laid_unicode_utf8_first)] }
def NavigatorTextsSaid : Prop := navigatorTextsRow.holds Tryz.pinned (OpenSpec.ofChange navigatorTextsSpec)

/-- ITS FALSE NEIGHBOUR: 'it returns false'. Refute it at one input. -/
def navigatorTextsWrong : ChangeSpec := { name := "navigatorTexts", fn := fun _ => fun
  | [d] => { results := [.lit (.bool false)], args := [d] }
  | _ => none }
def NavigatorTextsWrongFalsely : Prop := navigatorTextsRow.holds Tryz.pinned (OpenSpec.ofChange navigatorTextsWrong)

/-- 'flightdecklaw46.NavigatorParses': WHATEVER THE INPUT: true; the input reads as it did. -/
def navigatorParsesSpec : ChangeSpec := { name := "navigatorParses", fn := fun _ => fun
  | [d] => { results := [.lit (.bool true)], args := [d] }
  | _ => none }
def navigatorParsesRow : OpenClaim := { program := "ytajmjkliblippaagreatdoor", sum := "ca6b17d502d7fe83b418607ef59281de0f8071c8a3ba2577920174c4b3083002", func := "flightdeck/flightdecklaw46.NavigatorParses", spec := "navigatorParses", inPlace := ["math/bits.Sub64", "math/bits.Add64", "internal/bytealg.CountString", "internal/bytealg.IndexByteString", "internal/bytealg.IndexString"], unfollowed := true, recurses := true, named := ["math/bits.divideError", "math/bits.overflowError", "internal/strconv.uint64pow10", "math/bits.deBruijn32tab", "math/bits.deBruijn64tab", "unicode/utf8.first", "unicode/utf8.acceptRanges", "internal/bytealg.MaxLen"], apart := false, laid := [("math/bits.deBruijn32tab", laid_math_bits_deBruijn32tab), ("math/bits.deBruijn64tab", laid_math_bits_deBruijn64tab), ("internal/strconv.uint64pow10", laid_internal_strconv_uint64pow10), ("unicode/utf8.acceptRanges", laid_unicode_utf8_acceptRanges), ("unicode/utf8.first", laid_unicode_utf8_first)] }
def NavigatorParsesSaid : Prop := navigatorParsesRow.holds Tryz.pinned (OpenSpec.ofChange navigatorParsesSpec)

/-- ITS FALSE NEIGHBOUR: 'it returns false'. Refute it at one input. -/
def navigatorParsesWrong : ChangeSpec := { name := "navigatorParses", fn := fun _ => fun
  | [d] => { results := [.lit (.bool false)], args := [d] }
  | _ => none }
def NavigatorParsesWrongFalsely : Prop := navigatorParsesRow.holds Tryz.pinned (OpenSpec.ofChange navigatorParsesWrong)

/- THE SECOND FORM. 'bulk': how many values and letters a reading holds, each counted each time it is reached (what is shared counts as often as it is met; a slice's spare places count too). A statement '..UptoSaid' is the law's where the arguments, and the package variables that the reading takes, are together of bulk at most 1048576: NARROWER than '..Said'. Prove '..Said' where nothing that the law and all that it calls make is longer than what came in: it says more and counts as full. Else prove '..UptoSaid'. A law counts once. -/
mutual
def uptoBulk {H : Type} : DataW H → Nat
  | .lit (.string bytes) => bytes.length + 1
  | .lit _ => 1
  | .nil => 1
  | .ptr d => uptoBulk d + 1
  | .slice elems spare => uptoBulkAll elems + uptoBulkAll spare + 1
  | .agg parts => uptoBulkAll parts + 1
  | .iface _ d => uptoBulk d + 1
  | .map entries => uptoBulkEntries entries + 1
  | .held _ => 1
def uptoBulkAll {H : Type} : List (DataW H) → Nat
  | [] => 0
  | d :: r => uptoBulk d + uptoBulkAll r
def uptoBulkEntries {H : Type} : List (Lit × DataW H) → Nat
  | [] => 0
  | x :: r => uptoBulkEntry x + uptoBulkEntries r
def uptoBulkEntry {H : Type} : Lit × DataW H → Nat
  | (.string bytes, d) => bytes.length + uptoBulk d + 1
  | (_, d) => uptoBulk d + 1
 end
def uptoSmall : (H : Type) → List (DataW H) → Bool := fun _ ds => decide (uptoBulkAll ds ≤ 1048576)
def OpenSpec.upto (s : _root_.Go.ChangeSpec) : _root_.Go.OpenSpec := { _root_.Go.OpenSpec.ofChange s with cond := some uptoSmall }

/-- 'flightdecklaw46.NavigatorStarts', WHERE WHAT IT READS IS OF BULK AT MOST 1048576: true; the input reads as it did. -/
def navigatorStartsUptoRow : OpenClaim := { program := "ytajmjkliblippaagreatdoor", sum := "ca6b17d502d7fe83b418607ef59281de0f8071c8a3ba2577920174c4b3083002", func := "flightdeck/flightdecklaw46.NavigatorStarts", spec := "navigatorStarts", inPlace := ["math/bits.Sub64", "math/bits.Add64"], unfollowed := true, recurses := true, named := ["math/bits.divideError", "math/bits.overflowError", "internal/strconv.uint64pow10", "math/bits.deBruijn32tab", "math/bits.deBruijn64tab"], apart := false, laid := [("math/bits.deBruijn32tab", laid_math_bits_deBruijn32tab), ("math/bits.deBruijn64tab", laid_math_bits_deBruijn64tab), ("internal/strconv.uint64pow10", laid_internal_strconv_uint64pow10)], narrowed := true }
def NavigatorStartsUptoSaid : Prop := navigatorStartsUptoRow.holds Tryz.pinned (OpenSpec.upto navigatorStartsSpec)

/-- 'flightdecklaw46.NavigatorSteps', WHERE WHAT IT READS IS OF BULK AT MOST 1048576: true; the input reads as it did. -/
def navigatorStepsUptoRow : OpenClaim := { program := "ytajmjkliblippaagreatdoor", sum := "ca6b17d502d7fe83b418607ef59281de0f8071c8a3ba2577920174c4b3083002", func := "flightdeck/flightdecklaw46.NavigatorSteps", spec := "navigatorSteps", inPlace := ["math/bits.Sub64", "math/bits.Add64"], unfollowed := true, recurses := true, named := ["math/bits.divideError", "math/bits.overflowError", "internal/strconv.uint64pow10", "math/bits.deBruijn32tab", "math/bits.deBruijn64tab"], apart := false, laid := [("math/bits.deBruijn32tab", laid_math_bits_deBruijn32tab), ("math/bits.deBruijn64tab", laid_math_bits_deBruijn64tab), ("internal/strconv.uint64pow10", laid_internal_strconv_uint64pow10)], narrowed := true }
def NavigatorStepsUptoSaid : Prop := navigatorStepsUptoRow.holds Tryz.pinned (OpenSpec.upto navigatorStepsSpec)

/-- 'flightdecklaw46.NavigatorCoasts', WHERE WHAT IT READS IS OF BULK AT MOST 1048576: true; the input reads as it did. -/
def navigatorCoastsUptoRow : OpenClaim := { program := "ytajmjkliblippaagreatdoor", sum := "ca6b17d502d7fe83b418607ef59281de0f8071c8a3ba2577920174c4b3083002", func := "flightdeck/flightdecklaw46.NavigatorCoasts", spec := "navigatorCoasts", inPlace := ["math/bits.Sub64", "math/bits.Add64"], unfollowed := true, recurses := true, named := ["math/bits.divideError", "math/bits.overflowError", "internal/strconv.uint64pow10", "math/bits.deBruijn32tab", "math/bits.deBruijn64tab"], apart := false, laid := [("math/bits.deBruijn32tab", laid_math_bits_deBruijn32tab), ("math/bits.deBruijn64tab", laid_math_bits_deBruijn64tab), ("internal/strconv.uint64pow10", laid_internal_strconv_uint64pow10)], narrowed := true }
def NavigatorCoastsUptoSaid : Prop := navigatorCoastsUptoRow.holds Tryz.pinned (OpenSpec.upto navigatorCoastsSpec)

/-- 'flightdecklaw46.NavigatorIgnores', WHERE WHAT IT READS IS OF BULK AT MOST 1048576: true; the input reads as it did. -/
def navigatorIgnoresUptoRow : OpenClaim := { program := "ytajmjkliblippaagreatdoor", sum := "ca6b17d502d7fe83b418607ef59281de0f8071c8a3ba2577920174c4b3083002", func := "flightdeck/flightdecklaw46.NavigatorIgnores", spec := "navigatorIgnores", inPlace := ["math/bits.Sub64", "math/bits.Add64"], unfollowed := true, recurses := true, named := ["math/bits.divideError", "math/bits.overflowError", "internal/strconv.uint64pow10", "math/bits.deBruijn32tab", "math/bits.deBruijn64tab"], apart := false, laid := [("math/bits.deBruijn32tab", laid_math_bits_deBruijn32tab), ("math/bits.deBruijn64tab", laid_math_bits_deBruijn64tab), ("internal/strconv.uint64pow10", laid_internal_strconv_uint64pow10)], narrowed := true }
def NavigatorIgnoresUptoSaid : Prop := navigatorIgnoresUptoRow.holds Tryz.pinned (OpenSpec.upto navigatorIgnoresSpec)

/-- 'flightdecklaw46.NavigatorNarrows', WHERE WHAT IT READS IS OF BULK AT MOST 1048576: true; the input reads as it did. -/
def navigatorNarrowsUptoRow : OpenClaim := { program := "ytajmjkliblippaagreatdoor", sum := "ca6b17d502d7fe83b418607ef59281de0f8071c8a3ba2577920174c4b3083002", func := "flightdeck/flightdecklaw46.NavigatorNarrows", spec := "navigatorNarrows", inPlace := ["math/bits.Sub64", "math/bits.Add64"], unfollowed := true, recurses := true, named := ["math/bits.divideError", "math/bits.overflowError", "internal/strconv.uint64pow10", "math/bits.deBruijn32tab", "math/bits.deBruijn64tab"], apart := false, laid := [("math/bits.deBruijn32tab", laid_math_bits_deBruijn32tab), ("math/bits.deBruijn64tab", laid_math_bits_deBruijn64tab), ("internal/strconv.uint64pow10", laid_internal_strconv_uint64pow10)], narrowed := true }
def NavigatorNarrowsUptoSaid : Prop := navigatorNarrowsUptoRow.holds Tryz.pinned (OpenSpec.upto navigatorNarrowsSpec)

/-- 'flightdecklaw46.NavigatorSafe', WHERE WHAT IT READS IS OF BULK AT MOST 1048576: true; the input reads as it did. -/
def navigatorSafeUptoRow : OpenClaim := { program := "ytajmjkliblippaagreatdoor", sum := "ca6b17d502d7fe83b418607ef59281de0f8071c8a3ba2577920174c4b3083002", func := "flightdeck/flightdecklaw46.NavigatorSafe", spec := "navigatorSafe", inPlace := ["math/bits.Sub64", "math/bits.Add64"], unfollowed := true, recurses := true, named := ["math/bits.divideError", "math/bits.overflowError", "internal/strconv.uint64pow10", "math/bits.deBruijn32tab", "math/bits.deBruijn64tab"], apart := false, laid := [("math/bits.deBruijn32tab", laid_math_bits_deBruijn32tab), ("math/bits.deBruijn64tab", laid_math_bits_deBruijn64tab), ("internal/strconv.uint64pow10", laid_internal_strconv_uint64pow10)], narrowed := true }
def NavigatorSafeUptoSaid : Prop := navigatorSafeUptoRow.holds Tryz.pinned (OpenSpec.upto navigatorSafeSpec)

/-- 'flightdecklaw46.NavigatorTexts', WHERE WHAT IT READS IS OF BULK AT MOST 1048576: true; the input reads as it did. -/
def navigatorTextsUptoRow : OpenClaim := { program := "ytajmjkliblippaagreatdoor", sum := "ca6b17d502d7fe83b418607ef59281de0f8071c8a3ba2577920174c4b3083002", func := "flightdeck/flightdecklaw46.NavigatorTexts", spec := "navigatorTexts", inPlace := ["math/bits.Sub64", "math/bits.Add64", "internal/bytealg.CountString", "internal/bytealg.IndexByteString", "internal/bytealg.IndexString"], unfollowed := true, recurses := true, named := ["math/bits.divideError", "math/bits.overflowError", "internal/strconv.uint64pow10", "math/bits.deBruijn32tab", "math/bits.deBruijn64tab", "unicode/utf8.first", "unicode/utf8.acceptRanges", "internal/bytealg.MaxLen"], apart := false, laid := [("math/bits.deBruijn32tab", laid_math_bits_deBruijn32tab), ("math/bits.deBruijn64tab", laid_math_bits_deBruijn64tab), ("internal/strconv.uint64pow10", laid_internal_strconv_uint64pow10), ("unicode/utf8.acceptRanges", laid_unicode_utf8_acceptRanges), ("unicode/utf8.first", laid_unicode_utf8_first)], narrowed := true }
def NavigatorTextsUptoSaid : Prop := navigatorTextsUptoRow.holds Tryz.pinned (OpenSpec.upto navigatorTextsSpec)

/-- 'flightdecklaw46.NavigatorParses', WHERE WHAT IT READS IS OF BULK AT MOST 1048576: true; the input reads as it did. -/
def navigatorParsesUptoRow : OpenClaim := { program := "ytajmjkliblippaagreatdoor", sum := "ca6b17d502d7fe83b418607ef59281de0f8071c8a3ba2577920174c4b3083002", func := "flightdeck/flightdecklaw46.NavigatorParses", spec := "navigatorParses", inPlace := ["math/bits.Sub64", "math/bits.Add64", "internal/bytealg.CountString", "internal/bytealg.IndexByteString", "internal/bytealg.IndexString"], unfollowed := true, recurses := true, named := ["math/bits.divideError", "math/bits.overflowError", "internal/strconv.uint64pow10", "math/bits.deBruijn32tab", "math/bits.deBruijn64tab", "unicode/utf8.first", "unicode/utf8.acceptRanges", "internal/bytealg.MaxLen"], apart := false, laid := [("math/bits.deBruijn32tab", laid_math_bits_deBruijn32tab), ("math/bits.deBruijn64tab", laid_math_bits_deBruijn64tab), ("internal/strconv.uint64pow10", laid_internal_strconv_uint64pow10), ("unicode/utf8.acceptRanges", laid_unicode_utf8_acceptRanges), ("unicode/utf8.first", laid_unicode_utf8_first)], narrowed := true }
def NavigatorParsesUptoSaid : Prop := navigatorParsesUptoRow.holds Tryz.pinned (OpenSpec.upto navigatorParsesSpec)

end Rows
end Go.Proofs.YtajmjkliblippaaGreatDoor
