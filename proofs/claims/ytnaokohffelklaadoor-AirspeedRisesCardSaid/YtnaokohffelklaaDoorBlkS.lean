/-
  A block of cells that may be read and written: what it keeps from world to world.
-/
import Derived.WalkKit
import Derived.WalkSpells
import Derived.IntWalk
import Derived.Lib.Hide
import Derived.BigQuiet
import Derived.Deep.QuietTactic
import Derived.Deep.Cut
import Derived.Deep.RegionHeld3
namespace Go.Proofs.YtnaokohffelklaaDoor
set_option linter.unusedVariables false
open Go.RowKit

/-- the cells of block b hold these values, and may be written -/
structure Blk (vs : List Value) (b : Nat) (W : World) : Prop where
  lt : b < W.heap.size
  c : ∀ i v, vs[i]? = some v → W.cell? ⟨b, i, none⟩ = some v
  f : ∀ i v, vs[i]? = some v → W.frozen? ⟨b, i, none⟩ = false
theorem Blk.below {vs : List Value} {b : Nat} {W w' : World} (h : Blk vs b W) (hb : Below W.heap.size W w') : Blk vs b w' :=
  ⟨Nat.lt_of_lt_of_le h.lt hb.size, fun i v e => (hb.cell (p := ⟨b, i, none⟩) h.lt).trans (h.c i v e), fun i v e => (hb.frozen (p := ⟨b, i, none⟩) h.lt).trans (h.f i v e)⟩
theorem Blk.same {vs : List Value} {b : Nat} {W w' : World} (h : Blk vs b W) (hk : w'.heap[b]? = W.heap[b]?) (hs : W.heap.size ≤ w'.heap.size) : Blk vs b w' :=
  ⟨Nat.lt_of_lt_of_le h.lt hs, fun i v e => (World.cell?_of_block (w := W) (a := ⟨b, i, none⟩) hk).trans (h.c i v e), fun i v e => (World.frozen?_of_block (w := W) (a := ⟨b, i, none⟩) hk).trans (h.f i v e)⟩
theorem Blk.alloc {vs : List Value} {b : Nat} {W : World} (h : Blk vs b W) (o : Obj) : Blk vs b (W.alloc o) := h.below ((Below.refl _ _).alloc (Nat.le_refl _) o)
theorem Blk.new (vs : Array Value) (w : World) (t : TypeId) : Blk vs.toList w.heap.size (w.alloc (.cells vs t)) :=
  ⟨by simp, fun i v e => by
      rw [World.cell?_alloc_at _ _ _ _ rfl]
      simpa using e, fun i v e => by go_simp⟩
theorem Blk.of {vs : Array Value} {b : Nat} {w : World} {t : TypeId} (e : b = w.heap.size) : Blk vs.toList b (w.alloc (.cells vs t)) := by subst e; exact Blk.new vs w t
theorem blk_other {vs : List Value} {b n j : Nat} {W : World} (h : Blk vs b W) (hn : n ≠ b) (u : Value) : Blk vs b (W.setCell ⟨n, j, none⟩ u) :=
  h.same (Below.heap_setCell _ _ _ _ (Ne.symm hn)) (by simp [World.setCell])
theorem blk_set {vs : List Value} {b j : Nat} {W : World} (h : Blk vs b W) (hj : j < vs.length) (u : Value) : Blk (vs.set j u) b (W.setCell ⟨b, j, none⟩ u) := by
  refine ⟨by have := h.lt; simpa [World.setCell] using this, fun i v e => ?_, fun i v e => ?_⟩
  · by_cases q : i = j
    · subst q
      rw [List.getElem?_set_self hj] at e
      cases e
      exact World.cell?_setCell_same' W _ _ (by rw [h.c i _ (List.getElem?_eq_getElem hj)]; rfl)
    · rw [List.getElem?_set_ne (fun e => q e.symm)] at e
      rw [World.cell?_setCell_other]
      · exact h.c i v e
      · intro e'; injection e' with _ e' _; exact q e'.symm
  · rw [World.frozen?_setCell]
    by_cases q : i = j
    · subst q
      exact h.f i _ (List.getElem?_eq_getElem hj)
    · rw [List.getElem?_set_ne (fun e => q e.symm)] at e
      exact h.f i v e
/-- a new block of a region whose order is drawn: laid before a call, kept by later ones, written at last -/
theorem kv_new {w W w9 : World} {vs : Array Value} {t : TypeId} (h : Below w.heap.size w W) (hc : Below (W.alloc (.cells vs t)).heap.size (W.alloc (.cells vs t)) w9) :
    w.heap.size ≤ W.heap.size ∧ Blk vs.toList W.heap.size w9 := ⟨h.size, (Blk.new vs W t).below hc⟩
theorem kv_old {w W w9 : World} {vs : List Value} {b : Nat} (h : w.heap.size ≤ b ∧ Blk vs b W) (hc : Below W.heap.size W w9) : w.heap.size ≤ b ∧ Blk vs b w9 := ⟨h.1, h.2.below hc⟩
theorem kv_set2 {w W : World} {u v : Value} {b : Nat} (x y : Value) (h : w.heap.size ≤ b ∧ Blk [u, v] b W) (hb : Below w.heap.size w W) :
    Below w.heap.size w ((W.setCell ⟨b, 0, none⟩ x).setCell ⟨b, 1, none⟩ y) ∧ Blk [x, y] b ((W.setCell ⟨b, 0, none⟩ x).setCell ⟨b, 1, none⟩ y) :=
  ⟨(hb.setCell (p := ⟨b, 0, none⟩) h.1 x).setCell (p := ⟨b, 1, none⟩) h.1 y, blk_set (blk_set h.2 (j := 0) (by simp) x) (j := 1) (by simp) y⟩
theorem kv_put {w W : World} {vs : Array Value} {t : TypeId} (hb : Below w.heap.size w W) : Below w.heap.size w (W.alloc (.cells vs t)) ∧ Blk vs.toList W.heap.size (W.alloc (.cells vs t)) :=
  ⟨hb.alloc hb.size _, Blk.new vs W t⟩
theorem far2 {m b c : Nat} {W : World} (h : m ≤ c) (hb : b < m) (u v : Value) (i : Nat) : ((W.setCell ⟨c, 0, none⟩ u).setCell ⟨c, 1, none⟩ v).cell? ⟨b, i, none⟩ = W.cell? ⟨b, i, none⟩ :=
  have hne : c ≠ b := by omega
  (World.cell?_setCell_far _ _ _ _ hne).trans (World.cell?_setCell_far _ _ _ _ hne)
theorem below_drew_alloc (w : World) (o : Obj) : Below w.heap.size w (w.alloc o).drew :=
  have h := (Below.refl w.heap.size w).alloc (Nat.le_refl _) o
  ⟨h.os, h.tape, h.output, h.size, h.block⟩
theorem kv_drew {w w9 : World} {vs : Array Value} {t : TypeId} (hc : Below (w.alloc (.cells vs t)).drew.heap.size (w.alloc (.cells vs t)).drew w9) :
    w.heap.size ≤ w.heap.size ∧ Blk vs.toList w.heap.size w9 :=
  ⟨Nat.le_refl _, ((Blk.new vs w t).same (w' := (w.alloc (.cells vs t)).drew) rfl (Nat.le_refl _)).below hc⟩
theorem below_drew1 {B : Nat} {a w : World} (h : Below B a w) : Below B a w.drew := ⟨h.os, h.tape, h.output, h.size, h.block⟩
theorem blk_drew1 {vs : List Value} {b : Nat} {W : World} (h : Blk vs b W) : Blk vs b W.drew := h.same rfl (Nat.le_refl _)
end Go.Proofs.YtnaokohffelklaaDoor
