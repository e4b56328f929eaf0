/-
  No cell of these rows narrows 'for every input' (looked for: loops, veiled, ifaces, maps, wideKeys, modest, calm, conditions, laid).
  DERIVED. THE GIVEN ROWS OF THIS SEAT. 5 by the template 'for every input the law returns true; each argument reads behind the call as it read before'; 0 by the template 'total and deterministic' (their statements: YtidelghgjibndaaGreatTotals.lean).
  GIVEN WITH THE SEED: the statements are not yours to turn. If you find one false, say at which input.
  Laid BY PROGRAM, IN A SANDBOX (cutbox-rows.mjs): the forced cells as the released guide's own fill.sh prints them over the translation 2ce66206bf22f95f… (all of the seat's roots in one cut). By AI agents, Wed Nov 11 2026. No macro, syntax, notation, axiom, sorry.
-/
import Derived.Test.YtidelghgjibndaaGreatChecked
import GoSem.Claim
import GoSem.ClaimJoined
import GoSem.ClaimMapViews
import Derived.JoinedTies
import Derived.KernelRfl
namespace Go.Proofs.YtidelghgjibndaaGreat
/- THE CELL 'sum', in the pinned program and in every row, IS THE sha256 OF THE DUMP (.gsa) THAT YtidelghgjibndaaGreatProg.lean LOADS. Nothing in Lean hashes anything: it is a label: what it is worth is what the hold of that sum in a sandbox is worth. -/
noncomputable def Tryz.pinned : Pinned := { name := "ytidelghgjibndaagreat", sum := "2ce66206bf22f95f59498506f90b060c51a8a22094eb1f1c3a69ea8f7c19bacb", checked := Tryz.checked }
namespace Rows
def none {H : Type} : Left H := { results := [], args := [] }

/-- 'flightdecktop.TopProtect': WHATEVER THE INPUT: true; the input reads as it did. -/
def topProtectSpec : ChangeSpec := { name := "topProtect", fn := fun _ => fun
  | [d] => { results := [.lit (.bool true)], args := [d] }
  | _ => none }
def topProtectRow : OpenClaim := { program := "ytidelghgjibndaagreat", sum := "2ce66206bf22f95f59498506f90b060c51a8a22094eb1f1c3a69ea8f7c19bacb", func := "flightdeck/flightdecktop.TopProtect", spec := "topProtect", inPlace := ["math/bits.Sub64", "math/bits.Add64"], unfollowed := true, recurses := true, named := ["math/bits.divideError", "math/bits.overflowError"], apart := false }
def TopProtectSaid : Prop := topProtectRow.holds Tryz.pinned (OpenSpec.ofChange topProtectSpec)

/-- ITS FALSE NEIGHBOUR: 'it returns false'. Refute it at one input. -/
def topProtectWrong : ChangeSpec := { name := "topProtect", fn := fun _ => fun
  | [d] => { results := [.lit (.bool false)], args := [d] }
  | _ => none }
def TopProtectWrongFalsely : Prop := topProtectRow.holds Tryz.pinned (OpenSpec.ofChange topProtectWrong)

/-- 'flightdecktop.TopCoast': WHATEVER THE INPUT: true; the input reads as it did. -/
def topCoastSpec : ChangeSpec := { name := "topCoast", fn := fun _ => fun
  | [d1, d2, d3] => { results := [.lit (.bool true)], args := [d1, d2, d3] }
  | _ => none }
def topCoastRow : OpenClaim := { program := "ytidelghgjibndaagreat", sum := "2ce66206bf22f95f59498506f90b060c51a8a22094eb1f1c3a69ea8f7c19bacb", func := "flightdeck/flightdecktop.TopCoast", spec := "topCoast", inPlace := ["math/bits.Sub64", "math/bits.Add64"], unfollowed := true, recurses := true, named := ["math/bits.divideError", "math/bits.overflowError"], apart := false }
def TopCoastSaid : Prop := topCoastRow.holds Tryz.pinned (OpenSpec.ofChange topCoastSpec)

/-- ITS FALSE NEIGHBOUR: 'it returns false'. Refute it at one input. -/
def topCoastWrong : ChangeSpec := { name := "topCoast", fn := fun _ => fun
  | [d1, d2, d3] => { results := [.lit (.bool false)], args := [d1, d2, d3] }
  | _ => none }
def TopCoastWrongFalsely : Prop := topCoastRow.holds Tryz.pinned (OpenSpec.ofChange topCoastWrong)

/-- 'flightdecktop.TopExclude': WHATEVER THE INPUT: true; the input reads as it did. -/
def topExcludeSpec : ChangeSpec := { name := "topExclude", fn := fun _ => fun
  | [d] => { results := [.lit (.bool true)], args := [d] }
  | _ => none }
def topExcludeRow : OpenClaim := { program := "ytidelghgjibndaagreat", sum := "2ce66206bf22f95f59498506f90b060c51a8a22094eb1f1c3a69ea8f7c19bacb", func := "flightdeck/flightdecktop.TopExclude", spec := "topExclude", inPlace := ["math/bits.Sub64", "math/bits.Add64"], unfollowed := true, recurses := true, named := ["math/bits.divideError", "math/bits.overflowError"], apart := false }
def TopExcludeSaid : Prop := topExcludeRow.holds Tryz.pinned (OpenSpec.ofChange topExcludeSpec)

/-- ITS FALSE NEIGHBOUR: 'it returns false'. Refute it at one input. -/
def topExcludeWrong : ChangeSpec := { name := "topExclude", fn := fun _ => fun
  | [d] => { results := [.lit (.bool false)], args := [d] }
  | _ => none }
def TopExcludeWrongFalsely : Prop := topExcludeRow.holds Tryz.pinned (OpenSpec.ofChange topExcludeWrong)

/-- 'flightdecktop.TopDetect': WHATEVER THE INPUT: true; the input reads as it did. -/
def topDetectSpec : ChangeSpec := { name := "topDetect", fn := fun _ => fun
  | [d] => { results := [.lit (.bool true)], args := [d] }
  | _ => none }
def topDetectRow : OpenClaim := { program := "ytidelghgjibndaagreat", sum := "2ce66206bf22f95f59498506f90b060c51a8a22094eb1f1c3a69ea8f7c19bacb", func := "flightdeck/flightdecktop.TopDetect", spec := "topDetect", inPlace := ["math/bits.Sub64", "math/bits.Add64"], unfollowed := true, recurses := true, named := ["math/bits.divideError", "math/bits.overflowError"], apart := false }
def TopDetectSaid : Prop := topDetectRow.holds Tryz.pinned (OpenSpec.ofChange topDetectSpec)

/-- ITS FALSE NEIGHBOUR: 'it returns false'. Refute it at one input. -/
def topDetectWrong : ChangeSpec := { name := "topDetect", fn := fun _ => fun
  | [d] => { results := [.lit (.bool false)], args := [d] }
  | _ => none }
def TopDetectWrongFalsely : Prop := topDetectRow.holds Tryz.pinned (OpenSpec.ofChange topDetectWrong)

/-- 'flightdecktop.TopUsable': WHATEVER THE INPUT: true; the input reads as it did. -/
def topUsableSpec : ChangeSpec := { name := "topUsable", fn := fun _ => fun
  | [d1, d2, d3] => { results := [.lit (.bool true)], args := [d1, d2, d3] }
  | _ => none }
def topUsableRow : OpenClaim := { program := "ytidelghgjibndaagreat", sum := "2ce66206bf22f95f59498506f90b060c51a8a22094eb1f1c3a69ea8f7c19bacb", func := "flightdeck/flightdecktop.TopUsable", spec := "topUsable", inPlace := ["math/bits.Sub64", "math/bits.Add64"], unfollowed := true, recurses := true, named := ["math/bits.divideError", "math/bits.overflowError"], apart := false }
def TopUsableSaid : Prop := topUsableRow.holds Tryz.pinned (OpenSpec.ofChange topUsableSpec)

/-- ITS FALSE NEIGHBOUR: 'it returns false'. Refute it at one input. -/
def topUsableWrong : ChangeSpec := { name := "topUsable", fn := fun _ => fun
  | [d1, d2, d3] => { results := [.lit (.bool false)], args := [d1, d2, d3] }
  | _ => none }
def TopUsableWrongFalsely : Prop := topUsableRow.holds Tryz.pinned (OpenSpec.ofChange topUsableWrong)

/- THE SECOND FORM. 'bulk': how many values and letters a reading holds, each counted each time it is reached (what is shared counts as often as it is met; a slice's spare places count too). A statement '..UptoSaid' is the law's where the arguments, and the package variables that the reading takes, are together of bulk at most 1048576: NARROWER than '..Said'. Prove '..Said' where nothing that the law and all that it calls make is longer than what came in: it says more and counts as full. Else prove '..UptoSaid'. A law counts once. -/
mutual
def uptoBulk {H : Type} : DataW H → Nat
  | .lit (.string bytes) => bytes.length + 1
  | .lit _ => 1
  | .nil => 1
  | .ptr d => uptoBulk d + 1
  | .slice elems spare => uptoBulkAll elems + uptoBulkAll spare + 1
  | .agg parts => uptoBulkAll parts + 1
  | .iface _ d => uptoBulk d + 1
  | .map entries => uptoBulkEntries entries + 1
  | .held _ => 1
def uptoBulkAll {H : Type} : List (DataW H) → Nat
  | [] => 0
  | d :: r => uptoBulk d + uptoBulkAll r
def uptoBulkEntries {H : Type} : List (Lit × DataW H) → Nat
  | [] => 0
  | x :: r => uptoBulkEntry x + uptoBulkEntries r
def uptoBulkEntry {H : Type} : Lit × DataW H → Nat
  | (.string bytes, d) => bytes.length + uptoBulk d + 1
  | (_, d) => uptoBulk d + 1
 end
def uptoSmall : (H : Type) → List (DataW H) → Bool := fun _ ds => decide (uptoBulkAll ds ≤ 1048576)
def OpenSpec.upto (s : _root_.Go.ChangeSpec) : _root_.Go.OpenSpec := { _root_.Go.OpenSpec.ofChange s with cond := some uptoSmall }

/-- 'flightdecktop.TopProtect', WHERE WHAT IT READS IS OF BULK AT MOST 1048576: true; the input reads as it did. -/
def topProtectUptoRow : OpenClaim := { program := "ytidelghgjibndaagreat", sum := "2ce66206bf22f95f59498506f90b060c51a8a22094eb1f1c3a69ea8f7c19bacb", func := "flightdeck/flightdecktop.TopProtect", spec := "topProtect", inPlace := ["math/bits.Sub64", "math/bits.Add64"], unfollowed := true, recurses := true, named := ["math/bits.divideError", "math/bits.overflowError"], apart := false, narrowed := true }
def TopProtectUptoSaid : Prop := topProtectUptoRow.holds Tryz.pinned (OpenSpec.upto topProtectSpec)

/-- 'flightdecktop.TopCoast', WHERE WHAT IT READS IS OF BULK AT MOST 1048576: true; the input reads as it did. -/
def topCoastUptoRow : OpenClaim := { program := "ytidelghgjibndaagreat", sum := "2ce66206bf22f95f59498506f90b060c51a8a22094eb1f1c3a69ea8f7c19bacb", func := "flightdeck/flightdecktop.TopCoast", spec := "topCoast", inPlace := ["math/bits.Sub64", "math/bits.Add64"], unfollowed := true, recurses := true, named := ["math/bits.divideError", "math/bits.overflowError"], apart := false, narrowed := true }
def TopCoastUptoSaid : Prop := topCoastUptoRow.holds Tryz.pinned (OpenSpec.upto topCoastSpec)

/-- 'flightdecktop.TopExclude', WHERE WHAT IT READS IS OF BULK AT MOST 1048576: true; the input reads as it did. -/
def topExcludeUptoRow : OpenClaim := { program := "ytidelghgjibndaagreat", sum := "2ce66206bf22f95f59498506f90b060c51a8a22094eb1f1c3a69ea8f7c19bacb", func := "flightdeck/flightdecktop.TopExclude", spec := "topExclude", inPlace := ["math/bits.Sub64", "math/bits.Add64"], unfollowed := true, recurses := true, named := ["math/bits.divideError", "math/bits.overflowError"], apart := false, narrowed := true }
def TopExcludeUptoSaid : Prop := topExcludeUptoRow.holds Tryz.pinned (OpenSpec.upto topExcludeSpec)

/-- 'flightdecktop.TopDetect', WHERE WHAT IT READS IS OF BULK AT MOST 1048576: true; the input reads as it did. -/
def topDetectUptoRow : OpenClaim := { program := "ytidelghgjibndaagreat", sum := "2ce66206bf22f95f59498506f90b060c51a8a22094eb1f1c3a69ea8f7c19bacb", func := "flightdeck/flightdecktop.TopDetect", spec := "topDetect", inPlace := ["math/bits.Sub64", "math/bits.Add64"], unfollowed := true, recurses := true, named := ["math/bits.divideError", "math/bits.overflowError"], apart := false, narrowed := true }
def TopDetectUptoSaid : Prop := topDetectUptoRow.holds Tryz.pinned (OpenSpec.upto topDetectSpec)

/-- 'flightdecktop.TopUsable', WHERE WHAT IT READS IS OF BULK AT MOST 1048576: true; the input reads as it did. -/
def topUsableUptoRow : OpenClaim := { program := "ytidelghgjibndaagreat", sum := "2ce66206bf22f95f59498506f90b060c51a8a22094eb1f1c3a69ea8f7c19bacb", func := "flightdeck/flightdecktop.TopUsable", spec := "topUsable", inPlace := ["math/bits.Sub64", "math/bits.Add64"], unfollowed := true, recurses := true, named := ["math/bits.divideError", "math/bits.overflowError"], apart := false, narrowed := true }
def TopUsableUptoSaid : Prop := topUsableUptoRow.holds Tryz.pinned (OpenSpec.upto topUsableSpec)

end Rows
end Go.Proofs.YtidelghgjibndaaGreat
