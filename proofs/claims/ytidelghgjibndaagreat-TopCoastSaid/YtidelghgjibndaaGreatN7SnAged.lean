/-
  Of the text SnAged: what is wanted here.
-/
import Derived.Test.YtidelghgjibndaaGreatN7SnSensorOne
namespace Go.Proofs.YtidelghgjibndaaGreat.S41
set_option linter.unusedVariables false
open Go.RowKit Tr Sq
/-- a report's numbers -/
structure Rp where
  s : Int
  k : Int
  x : Int
  y : Int
  v : Int
  b : Int
  w : Int
  t : Int
def rp0 : Rp := ⟨0, 0, 0, 0, 0, 0, 0, 0⟩
/-- a block holds a report's numbers, and may be written -/
def Blk8 (w : World) (h : Nat) (s k x y v b wt t : Int) : Prop := (w.cell? ⟨h, 0, none⟩ = some (.int .i64 s) ∧ w.cell? ⟨h, 1, none⟩ = some (.int .u8 k) ∧ w.cell? ⟨h, 2, none⟩ = some (.int .i64 x) ∧ w.cell? ⟨h, 3, none⟩ = some (.int .i64 y) ∧ w.cell? ⟨h, 4, none⟩ = some (.int .i64 v) ∧ w.cell? ⟨h, 5, none⟩ = some (.int .i64 b) ∧ w.cell? ⟨h, 6, none⟩ = some (.int .i64 wt) ∧ w.cell? ⟨h, 7, none⟩ = some (.int .i64 t)) ∧ w.frozen? ⟨h, 0, none⟩ = false ∧ w.frozen? ⟨h, 1, none⟩ = false ∧ w.frozen? ⟨h, 2, none⟩ = false ∧ w.frozen? ⟨h, 3, none⟩ = false ∧ w.frozen? ⟨h, 4, none⟩ = false ∧ w.frozen? ⟨h, 5, none⟩ = false ∧ w.frozen? ⟨h, 6, none⟩ = false ∧ w.frozen? ⟨h, 7, none⟩ = false
theorem Blk8.keep {w w' : World} {h B : Nat} {s k x y v b wt t : Int} (hr : Blk8 w h s k x y v b wt t) (hb : Below B w w') (hl : h < B) : Blk8 w' h s k x y v b wt t := by
  obtain ⟨⟨c0, c1, c2, c3, c4, c5, c6, c7⟩, f0, f1, f2, f3, f4, f5, f6, f7⟩ := hr
  exact ⟨⟨(hb.cell (p := ⟨h, 0, none⟩) hl).trans c0, (hb.cell (p := ⟨h, 1, none⟩) hl).trans c1, (hb.cell (p := ⟨h, 2, none⟩) hl).trans c2, (hb.cell (p := ⟨h, 3, none⟩) hl).trans c3, (hb.cell (p := ⟨h, 4, none⟩) hl).trans c4, (hb.cell (p := ⟨h, 5, none⟩) hl).trans c5, (hb.cell (p := ⟨h, 6, none⟩) hl).trans c6, (hb.cell (p := ⟨h, 7, none⟩) hl).trans c7⟩, (hb.frozen (p := ⟨h, 0, none⟩) hl).trans f0, (hb.frozen (p := ⟨h, 1, none⟩) hl).trans f1, (hb.frozen (p := ⟨h, 2, none⟩) hl).trans f2, (hb.frozen (p := ⟨h, 3, none⟩) hl).trans f3, (hb.frozen (p := ⟨h, 4, none⟩) hl).trans f4, (hb.frozen (p := ⟨h, 5, none⟩) hl).trans f5, (hb.frozen (p := ⟨h, 6, none⟩) hl).trans f6, (hb.frozen (p := ⟨h, 7, none⟩) hl).trans f7⟩
end Go.Proofs.YtidelghgjibndaaGreat.S41
