/-
  No cell of these rows narrows 'for every input' (looked for: loops, veiled, ifaces, maps, wideKeys, modest, calm, conditions, laid).
  DERIVED. THE GIVEN ROWS OF THIS SEAT. 3 by the template 'for every input the law returns true; each argument reads behind the call as it read before'; 0 by the template 'total and deterministic' (their statements: YtplgdlooglnpmaaGreatTotals.lean).
  GIVEN WITH THE SEED: the statements are not yours to turn. If you find one false, say at which input.
  Laid BY PROGRAM, IN A SANDBOX (cutbox-rows.mjs): the forced cells as the released guide's own fill.sh prints them over the translation 91b32809f0aa9234… (all of the seat's roots in one cut). By AI agents, Wed Nov 11 2026. No macro, syntax, notation, axiom, sorry.
-/
import Derived.Test.YtplgdlooglnpmaaGreatChecked
import GoSem.Claim
import GoSem.ClaimJoined
import GoSem.ClaimMapViews
import Derived.JoinedTies
import Derived.KernelRfl
namespace Go.Proofs.YtplgdlooglnpmaaGreat
/- THE CELL 'sum', in the pinned program and in every row, IS THE sha256 OF THE DUMP (.gsa) THAT YtplgdlooglnpmaaGreatProg.lean LOADS. Nothing in Lean hashes anything: it is a label: what it is worth is what the hold of that sum in a sandbox is worth. -/
noncomputable def Tryz.pinned : Pinned := { name := "ytplgdlooglnpmaagreat", sum := "91b32809f0aa92345fd830d5178c2644e2314c9d6893e317989e5466efebaaff", checked := Tryz.checked }
namespace Rows
def none {H : Type} : Left H := { results := [], args := [] }

/-- 'flightdecklaw43.IntegrityLevels': WHATEVER THE INPUT: true; the input reads as it did. -/
def integrityLevelsSpec : ChangeSpec := { name := "integrityLevels", fn := fun _ => fun
  | [d] => { results := [.lit (.bool true)], args := [d] }
  | _ => none }
def integrityLevelsRow : OpenClaim := { program := "ytplgdlooglnpmaagreat", sum := "91b32809f0aa92345fd830d5178c2644e2314c9d6893e317989e5466efebaaff", func := "flightdeck/flightdecklaw43.IntegrityLevels", spec := "integrityLevels", inPlace := ["math/bits.Sub64", "math/bits.Add64"], recurses := true, apart := false }
def IntegrityLevelsSaid : Prop := integrityLevelsRow.holds Tryz.pinned (OpenSpec.ofChange integrityLevelsSpec)

/-- ITS FALSE NEIGHBOUR: 'it returns false'. Refute it at one input. -/
def integrityLevelsWrong : ChangeSpec := { name := "integrityLevels", fn := fun _ => fun
  | [d] => { results := [.lit (.bool false)], args := [d] }
  | _ => none }
def IntegrityLevelsWrongFalsely : Prop := integrityLevelsRow.holds Tryz.pinned (OpenSpec.ofChange integrityLevelsWrong)

/-- 'flightdecklaw43.IntegrityNoises': WHATEVER THE INPUT: true; the input reads as it did. -/
def integrityNoisesSpec : ChangeSpec := { name := "integrityNoises", fn := fun _ => fun
  | [d] => { results := [.lit (.bool true)], args := [d] }
  | _ => none }
def integrityNoisesRow : OpenClaim := { program := "ytplgdlooglnpmaagreat", sum := "91b32809f0aa92345fd830d5178c2644e2314c9d6893e317989e5466efebaaff", func := "flightdeck/flightdecklaw43.IntegrityNoises", spec := "integrityNoises", inPlace := ["math/bits.Sub64", "math/bits.Add64"], recurses := true, apart := false }
def IntegrityNoisesSaid : Prop := integrityNoisesRow.holds Tryz.pinned (OpenSpec.ofChange integrityNoisesSpec)

/-- ITS FALSE NEIGHBOUR: 'it returns false'. Refute it at one input. -/
def integrityNoisesWrong : ChangeSpec := { name := "integrityNoises", fn := fun _ => fun
  | [d] => { results := [.lit (.bool false)], args := [d] }
  | _ => none }
def IntegrityNoisesWrongFalsely : Prop := integrityNoisesRow.holds Tryz.pinned (OpenSpec.ofChange integrityNoisesWrong)

/-- 'flightdecklaw43.IntegritySensors': WHATEVER THE INPUT: true; the input reads as it did. -/
def integritySensorsSpec : ChangeSpec := { name := "integritySensors", fn := fun _ => fun
  | [d1, d2, d3] => { results := [.lit (.bool true)], args := [d1, d2, d3] }
  | _ => none }
def integritySensorsRow : OpenClaim := { program := "ytplgdlooglnpmaagreat", sum := "91b32809f0aa92345fd830d5178c2644e2314c9d6893e317989e5466efebaaff", func := "flightdeck/flightdecklaw43.IntegritySensors", spec := "integritySensors", inPlace := ["math/bits.Sub64", "math/bits.Add64"], unfollowed := true, recurses := true, named := ["math/bits.divideError", "math/bits.overflowError"], apart := false }
def IntegritySensorsSaid : Prop := integritySensorsRow.holds Tryz.pinned (OpenSpec.ofChange integritySensorsSpec)

/-- ITS FALSE NEIGHBOUR: 'it returns false'. Refute it at one input. -/
def integritySensorsWrong : ChangeSpec := { name := "integritySensors", fn := fun _ => fun
  | [d1, d2, d3] => { results := [.lit (.bool false)], args := [d1, d2, d3] }
  | _ => none }
def IntegritySensorsWrongFalsely : Prop := integritySensorsRow.holds Tryz.pinned (OpenSpec.ofChange integritySensorsWrong)

/- THE SECOND FORM. 'bulk': how many values and letters a reading holds, each counted each time it is reached (what is shared counts as often as it is met; a slice's spare places count too). A statement '..UptoSaid' is the law's where the arguments, and the package variables that the reading takes, are together of bulk at most 1048576: NARROWER than '..Said'. Prove '..Said' where nothing that the law and all that it calls make is longer than what came in: it says more and counts as full. Else prove '..UptoSaid'. A law counts once. -/
mutual
def uptoBulk {H : Type} : DataW H → Nat
  | .lit (.string bytes) => bytes.length + 1
  | .lit _ => 1
  | .nil => 1
  | .ptr d => uptoBulk d + 1
  | .slice elems spare => uptoBulkAll elems + uptoBulkAll spare + 1
  | .agg parts => uptoBulkAll parts + 1
  | .iface _ d => uptoBulk d + 1
  | .map entries => uptoBulkEntries entries + 1
  | .held _ => 1
def uptoBulkAll {H : Type} : List (DataW H) → Nat
  | [] => 0
  | d :: r => uptoBulk d + uptoBulkAll r
def uptoBulkEntries {H : Type} : List (Lit × DataW H) → Nat
  | [] => 0
  | x :: r => uptoBulkEntry x + uptoBulkEntries r
def uptoBulkEntry {H : Type} : Lit × DataW H → Nat
  | (.string bytes, d) => bytes.length + uptoBulk d + 1
  | (_, d) => uptoBulk d + 1
 end
def uptoSmall : (H : Type) → List (DataW H) → Bool := fun _ ds => decide (uptoBulkAll ds ≤ 1048576)
def OpenSpec.upto (s : _root_.Go.ChangeSpec) : _root_.Go.OpenSpec := { _root_.Go.OpenSpec.ofChange s with cond := some uptoSmall }

/-- 'flightdecklaw43.IntegrityLevels', WHERE WHAT IT READS IS OF BULK AT MOST 1048576: true; the input reads as it did. -/
def integrityLevelsUptoRow : OpenClaim := { program := "ytplgdlooglnpmaagreat", sum := "91b32809f0aa92345fd830d5178c2644e2314c9d6893e317989e5466efebaaff", func := "flightdeck/flightdecklaw43.IntegrityLevels", spec := "integrityLevels", inPlace := ["math/bits.Sub64", "math/bits.Add64"], recurses := true, apart := false, narrowed := true }
def IntegrityLevelsUptoSaid : Prop := integrityLevelsUptoRow.holds Tryz.pinned (OpenSpec.upto integrityLevelsSpec)

/-- 'flightdecklaw43.IntegrityNoises', WHERE WHAT IT READS IS OF BULK AT MOST 1048576: true; the input reads as it did. -/
def integrityNoisesUptoRow : OpenClaim := { program := "ytplgdlooglnpmaagreat", sum := "91b32809f0aa92345fd830d5178c2644e2314c9d6893e317989e5466efebaaff", func := "flightdeck/flightdecklaw43.IntegrityNoises", spec := "integrityNoises", inPlace := ["math/bits.Sub64", "math/bits.Add64"], recurses := true, apart := false, narrowed := true }
def IntegrityNoisesUptoSaid : Prop := integrityNoisesUptoRow.holds Tryz.pinned (OpenSpec.upto integrityNoisesSpec)

/-- 'flightdecklaw43.IntegritySensors', WHERE WHAT IT READS IS OF BULK AT MOST 1048576: true; the input reads as it did. -/
def integritySensorsUptoRow : OpenClaim := { program := "ytplgdlooglnpmaagreat", sum := "91b32809f0aa92345fd830d5178c2644e2314c9d6893e317989e5466efebaaff", func := "flightdeck/flightdecklaw43.IntegritySensors", spec := "integritySensors", inPlace := ["math/bits.Sub64", "math/bits.Add64"], unfollowed := true, recurses := true, named := ["math/bits.divideError", "math/bits.overflowError"], apart := false, narrowed := true }
def IntegritySensorsUptoSaid : Prop := integritySensorsUptoRow.holds Tryz.pinned (OpenSpec.upto integritySensorsSpec)

end Rows
end Go.Proofs.YtplgdlooglnpmaaGreat
