/-
  No cell of these rows narrows 'for every input' (looked for: loops, veiled, ifaces, maps, wideKeys, modest, calm, conditions, laid).
  DERIVED. THE GIVEN ROWS OF THIS SEAT. 10 by the template 'for every input the law returns true; each argument reads behind the call as it read before'; 0 by the template 'total and deterministic' (their statements: YtmlopbolekddnaaTotals.lean).
  GIVEN WITH THE SEED: the statements are not yours to turn. If you find one false, say at which input.
  Laid BY PROGRAM, IN A SANDBOX (cutbox-rows.mjs): the forced cells as the released guide's own fill.sh prints them over the translation 9a80a4ac9131aef2… (all of the seat's roots in one cut). By AI agents, Wed Nov 11 2026. No macro, syntax, notation, axiom, sorry.
-/
import Derived.Test.YtmlopbolekddnaaChecked
import GoSem.Claim
import GoSem.ClaimJoined
import GoSem.ClaimMapViews
import Derived.JoinedTies
import Derived.KernelRfl
namespace Go.Proofs.Ytmlopbolekddnaa
/- THE CELL 'sum', in the pinned program and in every row, IS THE sha256 OF THE DUMP (.gsa) THAT YtmlopbolekddnaaProg.lean LOADS. Nothing in Lean hashes anything: it is a label: what it is worth is what the hold of that sum in a sandbox is worth. -/
noncomputable def Try.pinned : Pinned := { name := "ytmlopbolekddnaa", sum := "9a80a4ac9131aef2ef4b3098a73a6bf799ddf9464365275850950a9abab9a130", checked := Try.checked }
namespace Rows
def none {H : Type} : Left H := { results := [], args := [] }

/-- 'flightdecklaw44.ExclusionDecides': WHATEVER THE INPUT: true; the input reads as it did. -/
def exclusionDecidesSpec : ChangeSpec := { name := "exclusionDecides", fn := fun _ => fun
  | [d] => { results := [.lit (.bool true)], args := [d] }
  | _ => none }
def exclusionDecidesRow : OpenClaim := { program := "ytmlopbolekddnaa", sum := "9a80a4ac9131aef2ef4b3098a73a6bf799ddf9464365275850950a9abab9a130", func := "flightdeck/flightdecklaw44.ExclusionDecides", spec := "exclusionDecides", unfollowed := true, recurses := true, named := ["math/bits.divideError", "math/bits.overflowError"], apart := false }
def ExclusionDecidesSaid : Prop := exclusionDecidesRow.holds Try.pinned (OpenSpec.ofChange exclusionDecidesSpec)

/-- ITS FALSE NEIGHBOUR: 'it returns false'. Refute it at one input. -/
def exclusionDecidesWrong : ChangeSpec := { name := "exclusionDecides", fn := fun _ => fun
  | [d] => { results := [.lit (.bool false)], args := [d] }
  | _ => none }
def ExclusionDecidesWrongFalsely : Prop := exclusionDecidesRow.holds Try.pinned (OpenSpec.ofChange exclusionDecidesWrong)

/-- 'flightdecklaw44.ExclusionRanges': WHATEVER THE INPUT: true; the input reads as it did. -/
def exclusionRangesSpec : ChangeSpec := { name := "exclusionRanges", fn := fun _ => fun
  | [d1, d2, d3] => { results := [.lit (.bool true)], args := [d1, d2, d3] }
  | _ => none }
def exclusionRangesRow : OpenClaim := { program := "ytmlopbolekddnaa", sum := "9a80a4ac9131aef2ef4b3098a73a6bf799ddf9464365275850950a9abab9a130", func := "flightdeck/flightdecklaw44.ExclusionRanges", spec := "exclusionRanges", unfollowed := true, recurses := true, named := ["math/bits.divideError", "math/bits.overflowError"], apart := false }
def ExclusionRangesSaid : Prop := exclusionRangesRow.holds Try.pinned (OpenSpec.ofChange exclusionRangesSpec)

/-- ITS FALSE NEIGHBOUR: 'it returns false'. Refute it at one input. -/
def exclusionRangesWrong : ChangeSpec := { name := "exclusionRanges", fn := fun _ => fun
  | [d1, d2, d3] => { results := [.lit (.bool false)], args := [d1, d2, d3] }
  | _ => none }
def ExclusionRangesWrongFalsely : Prop := exclusionRangesRow.holds Try.pinned (OpenSpec.ofChange exclusionRangesWrong)

/-- 'flightdecklaw44.ExclusionFaults': WHATEVER THE INPUT: true; the input reads as it did. -/
def exclusionFaultsSpec : ChangeSpec := { name := "exclusionFaults", fn := fun _ => fun
  | [d] => { results := [.lit (.bool true)], args := [d] }
  | _ => none }
def exclusionFaultsRow : OpenClaim := { program := "ytmlopbolekddnaa", sum := "9a80a4ac9131aef2ef4b3098a73a6bf799ddf9464365275850950a9abab9a130", func := "flightdeck/flightdecklaw44.ExclusionFaults", spec := "exclusionFaults", unfollowed := true, recurses := true, named := ["math/bits.divideError", "math/bits.overflowError"], apart := false }
def ExclusionFaultsSaid : Prop := exclusionFaultsRow.holds Try.pinned (OpenSpec.ofChange exclusionFaultsSpec)

/-- ITS FALSE NEIGHBOUR: 'it returns false'. Refute it at one input. -/
def exclusionFaultsWrong : ChangeSpec := { name := "exclusionFaults", fn := fun _ => fun
  | [d] => { results := [.lit (.bool false)], args := [d] }
  | _ => none }
def ExclusionFaultsWrongFalsely : Prop := exclusionFaultsRow.holds Try.pinned (OpenSpec.ofChange exclusionFaultsWrong)

/-- 'flightdecklaw44.ExclusionLimits': WHATEVER THE INPUT: true; the input reads as it did. -/
def exclusionLimitsSpec : ChangeSpec := { name := "exclusionLimits", fn := fun _ => fun
  | [d1, d2] => { results := [.lit (.bool true)], args := [d1, d2] }
  | _ => none }
def exclusionLimitsRow : OpenClaim := { program := "ytmlopbolekddnaa", sum := "9a80a4ac9131aef2ef4b3098a73a6bf799ddf9464365275850950a9abab9a130", func := "flightdeck/flightdecklaw44.ExclusionLimits", spec := "exclusionLimits", unfollowed := true, recurses := true, named := ["math/bits.divideError", "math/bits.overflowError"], apart := false }
def ExclusionLimitsSaid : Prop := exclusionLimitsRow.holds Try.pinned (OpenSpec.ofChange exclusionLimitsSpec)

/-- ITS FALSE NEIGHBOUR: 'it returns false'. Refute it at one input. -/
def exclusionLimitsWrong : ChangeSpec := { name := "exclusionLimits", fn := fun _ => fun
  | [d1, d2] => { results := [.lit (.bool false)], args := [d1, d2] }
  | _ => none }
def ExclusionLimitsWrongFalsely : Prop := exclusionLimitsRow.holds Try.pinned (OpenSpec.ofChange exclusionLimitsWrong)

/-- 'flightdecklaw44.ExclusionWithout': WHATEVER THE INPUT: true; the input reads as it did. -/
def exclusionWithoutSpec : ChangeSpec := { name := "exclusionWithout", fn := fun _ => fun
  | [d] => { results := [.lit (.bool true)], args := [d] }
  | _ => none }
def exclusionWithoutRow : OpenClaim := { program := "ytmlopbolekddnaa", sum := "9a80a4ac9131aef2ef4b3098a73a6bf799ddf9464365275850950a9abab9a130", func := "flightdeck/flightdecklaw44.ExclusionWithout", spec := "exclusionWithout", unfollowed := true, recurses := true, named := ["math/bits.divideError", "math/bits.overflowError"], apart := false }
def ExclusionWithoutSaid : Prop := exclusionWithoutRow.holds Try.pinned (OpenSpec.ofChange exclusionWithoutSpec)

/-- ITS FALSE NEIGHBOUR: 'it returns false'. Refute it at one input. -/
def exclusionWithoutWrong : ChangeSpec := { name := "exclusionWithout", fn := fun _ => fun
  | [d] => { results := [.lit (.bool false)], args := [d] }
  | _ => none }
def ExclusionWithoutWrongFalsely : Prop := exclusionWithoutRow.holds Try.pinned (OpenSpec.ofChange exclusionWithoutWrong)

/-- 'flightdecklaw44.ExclusionNests': WHATEVER THE INPUT: true; the input reads as it did. -/
def exclusionNestsSpec : ChangeSpec := { name := "exclusionNests", fn := fun _ => fun
  | [d1, d2, d3] => { results := [.lit (.bool true)], args := [d1, d2, d3] }
  | _ => none }
def exclusionNestsRow : OpenClaim := { program := "ytmlopbolekddnaa", sum := "9a80a4ac9131aef2ef4b3098a73a6bf799ddf9464365275850950a9abab9a130", func := "flightdeck/flightdecklaw44.ExclusionNests", spec := "exclusionNests", unfollowed := true, recurses := true, named := ["math/bits.divideError", "math/bits.overflowError"], apart := false }
def ExclusionNestsSaid : Prop := exclusionNestsRow.holds Try.pinned (OpenSpec.ofChange exclusionNestsSpec)

/-- ITS FALSE NEIGHBOUR: 'it returns false'. Refute it at one input. -/
def exclusionNestsWrong : ChangeSpec := { name := "exclusionNests", fn := fun _ => fun
  | [d1, d2, d3] => { results := [.lit (.bool false)], args := [d1, d2, d3] }
  | _ => none }
def ExclusionNestsWrongFalsely : Prop := exclusionNestsRow.holds Try.pinned (OpenSpec.ofChange exclusionNestsWrong)

/-- 'flightdecklaw44.ExclusionHonest': WHATEVER THE INPUT: true; the input reads as it did. -/
def exclusionHonestSpec : ChangeSpec := { name := "exclusionHonest", fn := fun _ => fun
  | [d1, d2] => { results := [.lit (.bool true)], args := [d1, d2] }
  | _ => none }
def exclusionHonestRow : OpenClaim := { program := "ytmlopbolekddnaa", sum := "9a80a4ac9131aef2ef4b3098a73a6bf799ddf9464365275850950a9abab9a130", func := "flightdeck/flightdecklaw44.ExclusionHonest", spec := "exclusionHonest", unfollowed := true, recurses := true, named := ["math/bits.divideError", "math/bits.overflowError"], apart := false }
def ExclusionHonestSaid : Prop := exclusionHonestRow.holds Try.pinned (OpenSpec.ofChange exclusionHonestSpec)

/-- ITS FALSE NEIGHBOUR: 'it returns false'. Refute it at one input. -/
def exclusionHonestWrong : ChangeSpec := { name := "exclusionHonest", fn := fun _ => fun
  | [d1, d2] => { results := [.lit (.bool false)], args := [d1, d2] }
  | _ => none }
def ExclusionHonestWrongFalsely : Prop := exclusionHonestRow.holds Try.pinned (OpenSpec.ofChange exclusionHonestWrong)

/-- 'flightdecklaw44.ExclusionOnly': WHATEVER THE INPUT: true; the input reads as it did. -/
def exclusionOnlySpec : ChangeSpec := { name := "exclusionOnly", fn := fun _ => fun
  | [d1, d2, d3] => { results := [.lit (.bool true)], args := [d1, d2, d3] }
  | _ => none }
def exclusionOnlyRow : OpenClaim := { program := "ytmlopbolekddnaa", sum := "9a80a4ac9131aef2ef4b3098a73a6bf799ddf9464365275850950a9abab9a130", func := "flightdeck/flightdecklaw44.ExclusionOnly", spec := "exclusionOnly", unfollowed := true, recurses := true, named := ["math/bits.divideError", "math/bits.overflowError"], apart := false }
def ExclusionOnlySaid : Prop := exclusionOnlyRow.holds Try.pinned (OpenSpec.ofChange exclusionOnlySpec)

/-- ITS FALSE NEIGHBOUR: 'it returns false'. Refute it at one input. -/
def exclusionOnlyWrong : ChangeSpec := { name := "exclusionOnly", fn := fun _ => fun
  | [d1, d2, d3] => { results := [.lit (.bool false)], args := [d1, d2, d3] }
  | _ => none }
def ExclusionOnlyWrongFalsely : Prop := exclusionOnlyRow.holds Try.pinned (OpenSpec.ofChange exclusionOnlyWrong)

/-- 'flightdecklaw44.ExclusionDetects': WHATEVER THE INPUT: true; the input reads as it did. -/
def exclusionDetectsSpec : ChangeSpec := { name := "exclusionDetects", fn := fun _ => fun
  | [d1, d2, d3] => { results := [.lit (.bool true)], args := [d1, d2, d3] }
  | _ => none }
def exclusionDetectsRow : OpenClaim := { program := "ytmlopbolekddnaa", sum := "9a80a4ac9131aef2ef4b3098a73a6bf799ddf9464365275850950a9abab9a130", func := "flightdeck/flightdecklaw44.ExclusionDetects", spec := "exclusionDetects", unfollowed := true, recurses := true, named := ["math/bits.divideError", "math/bits.overflowError"], apart := false }
def ExclusionDetectsSaid : Prop := exclusionDetectsRow.holds Try.pinned (OpenSpec.ofChange exclusionDetectsSpec)

/-- ITS FALSE NEIGHBOUR: 'it returns false'. Refute it at one input. -/
def exclusionDetectsWrong : ChangeSpec := { name := "exclusionDetects", fn := fun _ => fun
  | [d1, d2, d3] => { results := [.lit (.bool false)], args := [d1, d2, d3] }
  | _ => none }
def ExclusionDetectsWrongFalsely : Prop := exclusionDetectsRow.holds Try.pinned (OpenSpec.ofChange exclusionDetectsWrong)

/-- 'flightdecklaw44.ExclusionContains': WHATEVER THE INPUT: true; the input reads as it did. -/
def exclusionContainsSpec : ChangeSpec := { name := "exclusionContains", fn := fun _ => fun
  | [d1, d2, d3] => { results := [.lit (.bool true)], args := [d1, d2, d3] }
  | _ => none }
def exclusionContainsRow : OpenClaim := { program := "ytmlopbolekddnaa", sum := "9a80a4ac9131aef2ef4b3098a73a6bf799ddf9464365275850950a9abab9a130", func := "flightdeck/flightdecklaw44.ExclusionContains", spec := "exclusionContains", inPlace := ["math/bits.Sub64", "math/bits.Add64"], unfollowed := true, recurses := true, named := ["math/bits.divideError", "math/bits.overflowError"], apart := false }
def ExclusionContainsSaid : Prop := exclusionContainsRow.holds Try.pinned (OpenSpec.ofChange exclusionContainsSpec)

/-- ITS FALSE NEIGHBOUR: 'it returns false'. Refute it at one input. -/
def exclusionContainsWrong : ChangeSpec := { name := "exclusionContains", fn := fun _ => fun
  | [d1, d2, d3] => { results := [.lit (.bool false)], args := [d1, d2, d3] }
  | _ => none }
def ExclusionContainsWrongFalsely : Prop := exclusionContainsRow.holds Try.pinned (OpenSpec.ofChange exclusionContainsWrong)

/- THE SECOND FORM. 'bulk': how many values and letters a reading holds, each counted each time it is reached (what is shared counts as often as it is met; a slice's spare places count too). A statement '..UptoSaid' is the law's where the arguments, and the package variables that the reading takes, are together of bulk at most 1048576: NARROWER than '..Said'. Prove '..Said' where nothing that the law and all that it calls make is longer than what came in: it says more and counts as full. Else prove '..UptoSaid'. A law counts once. -/
mutual
def uptoBulk {H : Type} : DataW H → Nat
  | .lit (.string bytes) => bytes.length + 1
  | .lit _ => 1
  | .nil => 1
  | .ptr d => uptoBulk d + 1
  | .slice elems spare => uptoBulkAll elems + uptoBulkAll spare + 1
  | .agg parts => uptoBulkAll parts + 1
  | .iface _ d => uptoBulk d + 1
  | .map entries => uptoBulkEntries entries + 1
  | .held _ => 1
def uptoBulkAll {H : Type} : List (DataW H) → Nat
  | [] => 0
  | d :: r => uptoBulk d + uptoBulkAll r
def uptoBulkEntries {H : Type} : List (Lit × DataW H) → Nat
  | [] => 0
  | x :: r => uptoBulkEntry x + uptoBulkEntries r
def uptoBulkEntry {H : Type} : Lit × DataW H → Nat
  | (.string bytes, d) => bytes.length + uptoBulk d + 1
  | (_, d) => uptoBulk d + 1
 end
def uptoSmall : (H : Type) → List (DataW H) → Bool := fun _ ds => decide (uptoBulkAll ds ≤ 1048576)
def OpenSpec.upto (s : _root_.Go.ChangeSpec) : _root_.Go.OpenSpec := { _root_.Go.OpenSpec.ofChange s with cond := some uptoSmall }

/-- 'flightdecklaw44.ExclusionDecides', WHERE WHAT IT READS IS OF BULK AT MOST 1048576: true; the input reads as it did. -/
def exclusionDecidesUptoRow : OpenClaim := { program := "ytmlopbolekddnaa", sum := "9a80a4ac9131aef2ef4b3098a73a6bf799ddf9464365275850950a9abab9a130", func := "flightdeck/flightdecklaw44.ExclusionDecides", spec := "exclusionDecides", unfollowed := true, recurses := true, named := ["math/bits.divideError", "math/bits.overflowError"], apart := false, narrowed := true }
def ExclusionDecidesUptoSaid : Prop := exclusionDecidesUptoRow.holds Try.pinned (OpenSpec.upto exclusionDecidesSpec)

/-- 'flightdecklaw44.ExclusionRanges', WHERE WHAT IT READS IS OF BULK AT MOST 1048576: true; the input reads as it did. -/
def exclusionRangesUptoRow : OpenClaim := { program := "ytmlopbolekddnaa", sum := "9a80a4ac9131aef2ef4b3098a73a6bf799ddf9464365275850950a9abab9a130", func := "flightdeck/flightdecklaw44.ExclusionRanges", spec := "exclusionRanges", unfollowed := true, recurses := true, named := ["math/bits.divideError", "math/bits.overflowError"], apart := false, narrowed := true }
def ExclusionRangesUptoSaid : Prop := exclusionRangesUptoRow.holds Try.pinned (OpenSpec.upto exclusionRangesSpec)

/-- 'flightdecklaw44.ExclusionFaults', WHERE WHAT IT READS IS OF BULK AT MOST 1048576: true; the input reads as it did. -/
def exclusionFaultsUptoRow : OpenClaim := { program := "ytmlopbolekddnaa", sum := "9a80a4ac9131aef2ef4b3098a73a6bf799ddf9464365275850950a9abab9a130", func := "flightdeck/flightdecklaw44.ExclusionFaults", spec := "exclusionFaults", unfollowed := true, recurses := true, named := ["math/bits.divideError", "math/bits.overflowError"], apart := false, narrowed := true }
def ExclusionFaultsUptoSaid : Prop := exclusionFaultsUptoRow.holds Try.pinned (OpenSpec.upto exclusionFaultsSpec)

/-- 'flightdecklaw44.ExclusionLimits', WHERE WHAT IT READS IS OF BULK AT MOST 1048576: true; the input reads as it did. -/
def exclusionLimitsUptoRow : OpenClaim := { program := "ytmlopbolekddnaa", sum := "9a80a4ac9131aef2ef4b3098a73a6bf799ddf9464365275850950a9abab9a130", func := "flightdeck/flightdecklaw44.ExclusionLimits", spec := "exclusionLimits", unfollowed := true, recurses := true, named := ["math/bits.divideError", "math/bits.overflowError"], apart := false, narrowed := true }
def ExclusionLimitsUptoSaid : Prop := exclusionLimitsUptoRow.holds Try.pinned (OpenSpec.upto exclusionLimitsSpec)

/-- 'flightdecklaw44.ExclusionWithout', WHERE WHAT IT READS IS OF BULK AT MOST 1048576: true; the input reads as it did. -/
def exclusionWithoutUptoRow : OpenClaim := { program := "ytmlopbolekddnaa", sum := "9a80a4ac9131aef2ef4b3098a73a6bf799ddf9464365275850950a9abab9a130", func := "flightdeck/flightdecklaw44.ExclusionWithout", spec := "exclusionWithout", unfollowed := true, recurses := true, named := ["math/bits.divideError", "math/bits.overflowError"], apart := false, narrowed := true }
def ExclusionWithoutUptoSaid : Prop := exclusionWithoutUptoRow.holds Try.pinned (OpenSpec.upto exclusionWithoutSpec)

/-- 'flightdecklaw44.ExclusionNests', WHERE WHAT IT READS IS OF BULK AT MOST 1048576: true; the input reads as it did. -/
def exclusionNestsUptoRow : OpenClaim := { program := "ytmlopbolekddnaa", sum := "9a80a4ac9131aef2ef4b3098a73a6bf799ddf9464365275850950a9abab9a130", func := "flightdeck/flightdecklaw44.ExclusionNests", spec := "exclusionNests", unfollowed := true, recurses := true, named := ["math/bits.divideError", "math/bits.overflowError"], apart := false, narrowed := true }
def ExclusionNestsUptoSaid : Prop := exclusionNestsUptoRow.holds Try.pinned (OpenSpec.upto exclusionNestsSpec)

/-- 'flightdecklaw44.ExclusionHonest', WHERE WHAT IT READS IS OF BULK AT MOST 1048576: true; the input reads as it did. -/
def exclusionHonestUptoRow : OpenClaim := { program := "ytmlopbolekddnaa", sum := "9a80a4ac9131aef2ef4b3098a73a6bf799ddf9464365275850950a9abab9a130", func := "flightdeck/flightdecklaw44.ExclusionHonest", spec := "exclusionHonest", unfollowed := true, recurses := true, named := ["math/bits.divideError", "math/bits.overflowError"], apart := false, narrowed := true }
def ExclusionHonestUptoSaid : Prop := exclusionHonestUptoRow.holds Try.pinned (OpenSpec.upto exclusionHonestSpec)

/-- 'flightdecklaw44.ExclusionOnly', WHERE WHAT IT READS IS OF BULK AT MOST 1048576: true; the input reads as it did. -/
def exclusionOnlyUptoRow : OpenClaim := { program := "ytmlopbolekddnaa", sum := "9a80a4ac9131aef2ef4b3098a73a6bf799ddf9464365275850950a9abab9a130", func := "flightdeck/flightdecklaw44.ExclusionOnly", spec := "exclusionOnly", unfollowed := true, recurses := true, named := ["math/bits.divideError", "math/bits.overflowError"], apart := false, narrowed := true }
def ExclusionOnlyUptoSaid : Prop := exclusionOnlyUptoRow.holds Try.pinned (OpenSpec.upto exclusionOnlySpec)

/-- 'flightdecklaw44.ExclusionDetects', WHERE WHAT IT READS IS OF BULK AT MOST 1048576: true; the input reads as it did. -/
def exclusionDetectsUptoRow : OpenClaim := { program := "ytmlopbolekddnaa", sum := "9a80a4ac9131aef2ef4b3098a73a6bf799ddf9464365275850950a9abab9a130", func := "flightdeck/flightdecklaw44.ExclusionDetects", spec := "exclusionDetects", unfollowed := true, recurses := true, named := ["math/bits.divideError", "math/bits.overflowError"], apart := false, narrowed := true }
def ExclusionDetectsUptoSaid : Prop := exclusionDetectsUptoRow.holds Try.pinned (OpenSpec.upto exclusionDetectsSpec)

/-- 'flightdecklaw44.ExclusionContains', WHERE WHAT IT READS IS OF BULK AT MOST 1048576: true; the input reads as it did. -/
def exclusionContainsUptoRow : OpenClaim := { program := "ytmlopbolekddnaa", sum := "9a80a4ac9131aef2ef4b3098a73a6bf799ddf9464365275850950a9abab9a130", func := "flightdeck/flightdecklaw44.ExclusionContains", spec := "exclusionContains", inPlace := ["math/bits.Sub64", "math/bits.Add64"], unfollowed := true, recurses := true, named := ["math/bits.divideError", "math/bits.overflowError"], apart := false, narrowed := true }
def ExclusionContainsUptoSaid : Prop := exclusionContainsUptoRow.holds Try.pinned (OpenSpec.upto exclusionContainsSpec)

end Rows
end Go.Proofs.Ytmlopbolekddnaa
