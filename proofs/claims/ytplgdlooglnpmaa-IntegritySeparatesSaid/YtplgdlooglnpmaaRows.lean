/-
  No cell of these rows narrows 'for every input' (looked for: loops, veiled, ifaces, maps, wideKeys, modest, calm, conditions, laid).
  DERIVED. THE GIVEN ROWS OF THIS SEAT. 6 by the template 'for every input the law returns true; each argument reads behind the call as it read before'; 0 by the template 'total and deterministic' (their statements: YtplgdlooglnpmaaTotals.lean).
  GIVEN WITH THE SEED: the statements are not yours to turn. If you find one false, say at which input.
  Laid BY PROGRAM, IN A SANDBOX (cutbox-rows.mjs): the forced cells as the released guide's own fill.sh prints them over the translation b303202ae75257d0… (all of the seat's roots in one cut). By AI agents, Wed Nov 11 2026. No macro, syntax, notation, axiom, sorry.
-/
import Derived.Test.YtplgdlooglnpmaaChecked
import GoSem.Claim
import GoSem.ClaimJoined
import GoSem.ClaimMapViews
import Derived.JoinedTies
import Derived.KernelRfl
namespace Go.Proofs.Ytplgdlooglnpmaa
/- THE CELL 'sum', in the pinned program and in every row, IS THE sha256 OF THE DUMP (.gsa) THAT YtplgdlooglnpmaaProg.lean LOADS. Nothing in Lean hashes anything: it is a label: what it is worth is what the hold of that sum in a sandbox is worth. -/
noncomputable def Try.pinned : Pinned := { name := "ytplgdlooglnpmaa", sum := "b303202ae75257d0ba143b74237421760842328c1b3931299d9eca9ea37a7794", checked := Try.checked }
namespace Rows
def none {H : Type} : Left H := { results := [], args := [] }

/-- 'flightdecklaw43.IntegritySeparates': WHATEVER THE INPUT: true; the input reads as it did. -/
def integritySeparatesSpec : ChangeSpec := { name := "integritySeparates", fn := fun _ => fun
  | [d1, d2] => { results := [.lit (.bool true)], args := [d1, d2] }
  | _ => none }
def integritySeparatesRow : OpenClaim := { program := "ytplgdlooglnpmaa", sum := "b303202ae75257d0ba143b74237421760842328c1b3931299d9eca9ea37a7794", func := "flightdeck/flightdecklaw43.IntegritySeparates", spec := "integritySeparates", inPlace := ["math/bits.Sub64", "math/bits.Add64"], recurses := true, apart := false }
def IntegritySeparatesSaid : Prop := integritySeparatesRow.holds Try.pinned (OpenSpec.ofChange integritySeparatesSpec)

/-- ITS FALSE NEIGHBOUR: 'it returns false'. Refute it at one input. -/
def integritySeparatesWrong : ChangeSpec := { name := "integritySeparates", fn := fun _ => fun
  | [d1, d2] => { results := [.lit (.bool false)], args := [d1, d2] }
  | _ => none }
def IntegritySeparatesWrongFalsely : Prop := integritySeparatesRow.holds Try.pinned (OpenSpec.ofChange integritySeparatesWrong)

/-- 'flightdecklaw43.IntegrityProtects': WHATEVER THE INPUT: true; the input reads as it did. -/
def integrityProtectsSpec : ChangeSpec := { name := "integrityProtects", fn := fun _ => fun
  | [d1, d2, d3] => { results := [.lit (.bool true)], args := [d1, d2, d3] }
  | _ => none }
def integrityProtectsRow : OpenClaim := { program := "ytplgdlooglnpmaa", sum := "b303202ae75257d0ba143b74237421760842328c1b3931299d9eca9ea37a7794", func := "flightdeck/flightdecklaw43.IntegrityProtects", spec := "integrityProtects", inPlace := ["math/bits.Sub64", "math/bits.Add64"], recurses := true, apart := false }
def IntegrityProtectsSaid : Prop := integrityProtectsRow.holds Try.pinned (OpenSpec.ofChange integrityProtectsSpec)

/-- ITS FALSE NEIGHBOUR: 'it returns false'. Refute it at one input. -/
def integrityProtectsWrong : ChangeSpec := { name := "integrityProtects", fn := fun _ => fun
  | [d1, d2, d3] => { results := [.lit (.bool false)], args := [d1, d2, d3] }
  | _ => none }
def IntegrityProtectsWrongFalsely : Prop := integrityProtectsRow.holds Try.pinned (OpenSpec.ofChange integrityProtectsWrong)

/-- 'flightdecklaw43.IntegrityAccurate': WHATEVER THE INPUT: true; the input reads as it did. -/
def integrityAccurateSpec : ChangeSpec := { name := "integrityAccurate", fn := fun _ => fun
  | [d1, d2] => { results := [.lit (.bool true)], args := [d1, d2] }
  | _ => none }
def integrityAccurateRow : OpenClaim := { program := "ytplgdlooglnpmaa", sum := "b303202ae75257d0ba143b74237421760842328c1b3931299d9eca9ea37a7794", func := "flightdeck/flightdecklaw43.IntegrityAccurate", spec := "integrityAccurate", inPlace := ["math/bits.Sub64", "math/bits.Add64"], recurses := true, apart := false }
def IntegrityAccurateSaid : Prop := integrityAccurateRow.holds Try.pinned (OpenSpec.ofChange integrityAccurateSpec)

/-- ITS FALSE NEIGHBOUR: 'it returns false'. Refute it at one input. -/
def integrityAccurateWrong : ChangeSpec := { name := "integrityAccurate", fn := fun _ => fun
  | [d1, d2] => { results := [.lit (.bool false)], args := [d1, d2] }
  | _ => none }
def IntegrityAccurateWrongFalsely : Prop := integrityAccurateRow.holds Try.pinned (OpenSpec.ofChange integrityAccurateWrong)

/-- 'flightdecklaw43.IntegrityGrows': WHATEVER THE INPUT: true; the input reads as it did. -/
def integrityGrowsSpec : ChangeSpec := { name := "integrityGrows", fn := fun _ => fun
  | [d1, d2] => { results := [.lit (.bool true)], args := [d1, d2] }
  | _ => none }
def integrityGrowsRow : OpenClaim := { program := "ytplgdlooglnpmaa", sum := "b303202ae75257d0ba143b74237421760842328c1b3931299d9eca9ea37a7794", func := "flightdeck/flightdecklaw43.IntegrityGrows", spec := "integrityGrows", inPlace := ["math/bits.Sub64", "math/bits.Add64"], recurses := true, apart := false }
def IntegrityGrowsSaid : Prop := integrityGrowsRow.holds Try.pinned (OpenSpec.ofChange integrityGrowsSpec)

/-- ITS FALSE NEIGHBOUR: 'it returns false'. Refute it at one input. -/
def integrityGrowsWrong : ChangeSpec := { name := "integrityGrows", fn := fun _ => fun
  | [d1, d2] => { results := [.lit (.bool false)], args := [d1, d2] }
  | _ => none }
def IntegrityGrowsWrongFalsely : Prop := integrityGrowsRow.holds Try.pinned (OpenSpec.ofChange integrityGrowsWrong)

/-- 'flightdecklaw43.IntegrityShifts': WHATEVER THE INPUT: true; the input reads as it did. -/
def integrityShiftsSpec : ChangeSpec := { name := "integrityShifts", fn := fun _ => fun
  | [d1, d2] => { results := [.lit (.bool true)], args := [d1, d2] }
  | _ => none }
def integrityShiftsRow : OpenClaim := { program := "ytplgdlooglnpmaa", sum := "b303202ae75257d0ba143b74237421760842328c1b3931299d9eca9ea37a7794", func := "flightdeck/flightdecklaw43.IntegrityShifts", spec := "integrityShifts", inPlace := ["math/bits.Sub64", "math/bits.Add64"], recurses := true, apart := false }
def IntegrityShiftsSaid : Prop := integrityShiftsRow.holds Try.pinned (OpenSpec.ofChange integrityShiftsSpec)

/-- ITS FALSE NEIGHBOUR: 'it returns false'. Refute it at one input. -/
def integrityShiftsWrong : ChangeSpec := { name := "integrityShifts", fn := fun _ => fun
  | [d1, d2] => { results := [.lit (.bool false)], args := [d1, d2] }
  | _ => none }
def IntegrityShiftsWrongFalsely : Prop := integrityShiftsRow.holds Try.pinned (OpenSpec.ofChange integrityShiftsWrong)

/-- 'flightdecklaw43.IntegritySources': WHATEVER THE INPUT: true; the input reads as it did. -/
def integritySourcesSpec : ChangeSpec := { name := "integritySources", fn := fun _ => fun
  | [d1, d2] => { results := [.lit (.bool true)], args := [d1, d2] }
  | _ => none }
def integritySourcesRow : OpenClaim := { program := "ytplgdlooglnpmaa", sum := "b303202ae75257d0ba143b74237421760842328c1b3931299d9eca9ea37a7794", func := "flightdeck/flightdecklaw43.IntegritySources", spec := "integritySources", inPlace := ["math/bits.Sub64", "math/bits.Add64"], recurses := true, apart := false }
def IntegritySourcesSaid : Prop := integritySourcesRow.holds Try.pinned (OpenSpec.ofChange integritySourcesSpec)

/-- ITS FALSE NEIGHBOUR: 'it returns false'. Refute it at one input. -/
def integritySourcesWrong : ChangeSpec := { name := "integritySources", fn := fun _ => fun
  | [d1, d2] => { results := [.lit (.bool false)], args := [d1, d2] }
  | _ => none }
def IntegritySourcesWrongFalsely : Prop := integritySourcesRow.holds Try.pinned (OpenSpec.ofChange integritySourcesWrong)

/- THE SECOND FORM. 'bulk': how many values and letters a reading holds, each counted each time it is reached (what is shared counts as often as it is met; a slice's spare places count too). A statement '..UptoSaid' is the law's where the arguments, and the package variables that the reading takes, are together of bulk at most 1048576: NARROWER than '..Said'. Prove '..Said' where nothing that the law and all that it calls make is longer than what came in: it says more and counts as full. Else prove '..UptoSaid'. A law counts once. -/
mutual
def uptoBulk {H : Type} : DataW H → Nat
  | .lit (.string bytes) => bytes.length + 1
  | .lit _ => 1
  | .nil => 1
  | .ptr d => uptoBulk d + 1
  | .slice elems spare => uptoBulkAll elems + uptoBulkAll spare + 1
  | .agg parts => uptoBulkAll parts + 1
  | .iface _ d => uptoBulk d + 1
  | .map entries => uptoBulkEntries entries + 1
  | .held _ => 1
def uptoBulkAll {H : Type} : List (DataW H) → Nat
  | [] => 0
  | d :: r => uptoBulk d + uptoBulkAll r
def uptoBulkEntries {H : Type} : List (Lit × DataW H) → Nat
  | [] => 0
  | x :: r => uptoBulkEntry x + uptoBulkEntries r
def uptoBulkEntry {H : Type} : Lit × DataW H → Nat
  | (.string bytes, d) => bytes.length + uptoBulk d + 1
  | (_, d) => uptoBulk d + 1
 end
def uptoSmall : (H : Type) → List (DataW H) → Bool := fun _ ds => decide (uptoBulkAll ds ≤ 1048576)
def OpenSpec.upto (s : _root_.Go.ChangeSpec) : _root_.Go.OpenSpec := { _root_.Go.OpenSpec.ofChange s with cond := some uptoSmall }

/-- 'flightdecklaw43.IntegritySeparates', WHERE WHAT IT READS IS OF BULK AT MOST 1048576: true; the input reads as it did. -/
def integritySeparatesUptoRow : OpenClaim := { program := "ytplgdlooglnpmaa", sum := "b303202ae75257d0ba143b74237421760842328c1b3931299d9eca9ea37a7794", func := "flightdeck/flightdecklaw43.IntegritySeparates", spec := "integritySeparates", inPlace := ["math/bits.Sub64", "math/bits.Add64"], recurses := true, apart := false, narrowed := true }
def IntegritySeparatesUptoSaid : Prop := integritySeparatesUptoRow.holds Try.pinned (OpenSpec.upto integritySeparatesSpec)

/-- 'flightdecklaw43.IntegrityProtects', WHERE WHAT IT READS IS OF BULK AT MOST 1048576: true; the input reads as it did. -/
def integrityProtectsUptoRow : OpenClaim := { program := "ytplgdlooglnpmaa", sum := "b303202ae75257d0ba143b74237421760842328c1b3931299d9eca9ea37a7794", func := "flightdeck/flightdecklaw43.IntegrityProtects", spec := "integrityProtects", inPlace := ["math/bits.Sub64", "math/bits.Add64"], recurses := true, apart := false, narrowed := true }
def IntegrityProtectsUptoSaid : Prop := integrityProtectsUptoRow.holds Try.pinned (OpenSpec.upto integrityProtectsSpec)

/-- 'flightdecklaw43.IntegrityAccurate', WHERE WHAT IT READS IS OF BULK AT MOST 1048576: true; the input reads as it did. -/
def integrityAccurateUptoRow : OpenClaim := { program := "ytplgdlooglnpmaa", sum := "b303202ae75257d0ba143b74237421760842328c1b3931299d9eca9ea37a7794", func := "flightdeck/flightdecklaw43.IntegrityAccurate", spec := "integrityAccurate", inPlace := ["math/bits.Sub64", "math/bits.Add64"], recurses := true, apart := false, narrowed := true }
def IntegrityAccurateUptoSaid : Prop := integrityAccurateUptoRow.holds Try.pinned (OpenSpec.upto integrityAccurateSpec)

/-- 'flightdecklaw43.IntegrityGrows', WHERE WHAT IT READS IS OF BULK AT MOST 1048576: true; the input reads as it did. -/
def integrityGrowsUptoRow : OpenClaim := { program := "ytplgdlooglnpmaa", sum := "b303202ae75257d0ba143b74237421760842328c1b3931299d9eca9ea37a7794", func := "flightdeck/flightdecklaw43.IntegrityGrows", spec := "integrityGrows", inPlace := ["math/bits.Sub64", "math/bits.Add64"], recurses := true, apart := false, narrowed := true }
def IntegrityGrowsUptoSaid : Prop := integrityGrowsUptoRow.holds Try.pinned (OpenSpec.upto integrityGrowsSpec)

/-- 'flightdecklaw43.IntegrityShifts', WHERE WHAT IT READS IS OF BULK AT MOST 1048576: true; the input reads as it did. -/
def integrityShiftsUptoRow : OpenClaim := { program := "ytplgdlooglnpmaa", sum := "b303202ae75257d0ba143b74237421760842328c1b3931299d9eca9ea37a7794", func := "flightdeck/flightdecklaw43.IntegrityShifts", spec := "integrityShifts", inPlace := ["math/bits.Sub64", "math/bits.Add64"], recurses := true, apart := false, narrowed := true }
def IntegrityShiftsUptoSaid : Prop := integrityShiftsUptoRow.holds Try.pinned (OpenSpec.upto integrityShiftsSpec)

/-- 'flightdecklaw43.IntegritySources', WHERE WHAT IT READS IS OF BULK AT MOST 1048576: true; the input reads as it did. -/
def integritySourcesUptoRow : OpenClaim := { program := "ytplgdlooglnpmaa", sum := "b303202ae75257d0ba143b74237421760842328c1b3931299d9eca9ea37a7794", func := "flightdeck/flightdecklaw43.IntegritySources", spec := "integritySources", inPlace := ["math/bits.Sub64", "math/bits.Add64"], recurses := true, apart := false, narrowed := true }
def IntegritySourcesUptoSaid : Prop := integritySourcesUptoRow.holds Try.pinned (OpenSpec.upto integritySourcesSpec)

end Rows
end Go.Proofs.Ytplgdlooglnpmaa
